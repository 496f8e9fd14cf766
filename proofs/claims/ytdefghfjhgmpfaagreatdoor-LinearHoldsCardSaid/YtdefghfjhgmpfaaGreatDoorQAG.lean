/- Parts of this proof: Long Order Short Raised Own Lowered Divide Plus. -/
import Derived.Test.YtdefghfjhgmpfaaGreatDoorQAE
import Derived.Lib.ItoaNum
import Derived.Test.YtdefghfjhgmpfaaGreatDoorQAC
import Derived.Test.YtdefghfjhgmpfaaGreatDoorQAA
import Derived.Test.YtdefghfjhgmpfaaGreatDoorQAF
namespace Go.Proofs.YtdefghfjhgmpfaaGreatDoor
section
theorem lead_bits{d:Nat}(h:0<d)(hd:d<4294967296):∃y,y<32 /\ (32-(Lib.bitLen d:Int))=((y:Nat):Int) /\ 2147483648 <= d*2^y /\ d*2^y<4294967296:=by
 obtain⟨h1,h2,h3⟩:=Lib.bitLenAux_bounds 64 d (Nat.lt_of_lt_of_le hd (by decide)) (by omega);obtain⟨k,hk⟩:∃k,k+1=Lib.bitLen d:=⟨Lib.bitLen d-1,by unfold Lib.bitLen;omega⟩
 have e:Lib.bitLenAux 64 d=k+1:=hk.symm;rw[e] at h2 h3;rw[Nat.add_sub_cancel] at h2
 have hk32:k<32:=by
  rcases Nat.lt_or_ge k 32 with g | g
  ·exact g
  ·have:2^32 <= 2^k:=Nat.pow_le_pow_right (by decide) g;omega
 refine⟨31-k,by omega,by rw[<- hk];omega,?_,?_⟩
 ·have g1:=Nat.mul_le_mul_right (2^ (31-k)) h2;rw[<- Nat.pow_add,show k+ (31-k)=31 by omega] at g1;exact g1
 ·have g1:=Nat.mul_lt_mul_of_pos_right h3 (show 0<2^ (31-k) from Nat.pow_pos (by decide));rw[<- Nat.pow_add,show k+1+ (31-k)=32 by omega] at g1;exact g1
theorem sv_add(l:List Nat)(i a b:Nat):sv l i (a+b)=sv l i a+BB^a*sv l (i+a) b:=by
 induction b with
 | zero=>simp[sv]
 | succ b ih=>
  rw[<- Nat.add_assoc,sv_succ,ih,sv_succ,Nat.mul_add,Nat.pow_add,Nat.mul_assoc,Nat.add_assoc, <- Nat.add_assoc i a b]
theorem val_sv(l:List Nat):val l=sv l 0 l.length:=by rw[sv_val,List.take_length]
theorem sv_zeros{l:List Nat}{i j:Nat}(h:∀t,t<j -> dg l (i+t)=0):sv l i j=0:=by
 induction j with
 | zero=>rfl
 | succ j ih=>rw[sv_succ,ih (fun t ht=>h t (by omega)),h j (by omega)];rfl
theorem val_change{l m:List Nat}(hl:l.length=m.length){i j:Nat}(hij:i+j <= l.length)(h:∀k,(k<i \/ i+j <= k) -> dg m k=dg l k):val m+BB^i*sv l i j=val l+BB^i*sv m i j:=by
 obtain⟨r,hr⟩:∃r,l.length=i+ (j+r):=⟨l.length-(i+j),by omega⟩
 rw[val_sv l,val_sv m, <- hl,hr,sv_add l 0 i,sv_add l (0+i),sv_add m 0 i,sv_add m (0+i)];rw[sv_congr (l:=m) (m:=l) (i:=0) (j:=i) (fun t ht=>h _ (by omega))];rw[sv_congr (l:=m) (m:=l) (i:=0+i+j) (j:=r) (fun t ht=>h _ (by omega))];rw[Nat.mul_add,Nat.mul_add,Nat.zero_add];omega
theorem norm_top{b y n:Nat}(hn:(digs b).length=n+1)(hy32:y<32)(hy:2147483648 <= dg (digs b) n*2^y)(hy2:dg (digs b) n*2^y<4294967296):
  (digs (2^y*b)).length=n+1 /\ 2147483648 <= dg (digs (2^y*b)) n:=by
 have hb:b=sv (digs b) 0 n+BB^n*dg (digs b) n:=by
  have:=val_sv (digs b);rw[val_digs,hn,sv_succ,Nat.zero_add] at this;exact this
 have hl:=sv_lt (dig_digs b) 0 n;have hP:0<BB^n:=Nat.pow_pos (by decide);have hroom:=(pow_mod_room (y:=y) (d:=dg (digs b) n) hy32).2;rw[Nat.mod_eq_of_lt hy2] at hroom;have h2:0<2^y:=Nat.pow_pos (by decide)
 have h3:2^y*b<BB^ (n+1):=by
  have g1:b<BB^n* (dg (digs b) n+1):=by rw[Nat.mul_add,Nat.mul_one];omega
  have g2:=Nat.mul_lt_mul_of_pos_left g1 h2
  have g3:2^y* (BB^n* (dg (digs b) n+1))=BB^n* (dg (digs b) n*2^y+2^y):=by
   rw[Nat.mul_left_comm,Nat.mul_add,Nat.mul_one,Nat.mul_comm (2^y)]
  have g4:BB^n* (dg (digs b) n*2^y+2^y) <= BB^n*4294967296:=Nat.mul_le_mul_left _ hroom;rw[Nat.pow_succ,BB_eq];rw[BB_eq] at g2 g3 g4;exact Nat.lt_of_lt_of_le g2 (by rw[g3];exact g4)
 have h4:b <= 2^y*b:=Nat.le_mul_of_pos_left _ h2
 have hlen:(digs (2^y*b)).length=n+1:=by
  have a1:=digs_len_le h3;have a2:=digs_len_mono h4;omega
 refine⟨hlen,?_⟩
 have hV:2^y*b=sv (digs (2^y*b)) 0 n+BB^n*dg (digs (2^y*b)) n:=by
  have:=val_sv (digs (2^y*b));rw[val_digs,hlen,sv_succ,Nat.zero_add] at this;exact this
 have hlV:=sv_lt (dig_digs (2^y*b)) 0 n
 have h5:BB^n*2147483648 <= 2^y*b:=by
  have g1:BB^n*dg (digs b) n <= b:=by omega
  have g2:=Nat.mul_le_mul_left (2^y) g1;have g3:2^y* (BB^n*dg (digs b) n)=BB^n* (dg (digs b) n*2^y):=by rw[Nat.mul_left_comm,Nat.mul_comm (2^y)]
  have g4:=Nat.mul_le_mul_left (BB^n) hy;rw[<- g3] at g4;exact Nat.le_trans g4 g2
 have h6:BB^n*2147483648<BB^n* (dg (digs (2^y*b)) n+1):=by
  have e1:BB^n* (dg (digs (2^y*b)) n+1)=BB^n*dg (digs (2^y*b)) n+BB^n:=Nat.mul_succ _ _;rw[e1];exact Nat.lt_of_le_of_lt h5 (by omega)
 have:=Nat.lt_of_mul_lt_mul_left h6;omega
structure Long (U V n K k:Nat) (lo q:List Nat):Prop where
 len:lo.length=K+n
 qlen:q.length=K
 hk:k <= K
 dig:Dig lo
 qdig:Dig q
 eq:U=val lo+V* (BB^k*val (q.drop k))
 low:sv lo k n<V
 zero:∀j,k+n <= j -> dg lo j=0
theorem Long.start{U V n K:Nat}{lo:List Nat}(hlen:lo.length=K+n)(hd:Dig lo)(hU:U=val lo)(hUV:U<BB^K*V):Long U V n K K lo (List.replicate K 0) where
 len:=hlen
 qlen:=List.length_replicate
 hk:=Nat.le_refl _
 dig:=hd
 qdig:=Dig.replicate _
 eq:=by rw[List.drop_of_length_le (by rw[List.length_replicate];exact Nat.le_refl _)];simp[val,hU]
 low:=by
  have h1:U=sv lo 0 K+BB^K*sv lo K n:=by rw[hU,val_sv,hlen,sv_add,Nat.zero_add]
  have h2:BB^K*sv lo K n<BB^K*V:=by omega
  exact Nat.lt_of_mul_lt_mul_left h2
 zero:=fun j hj=>dg_ge (by omega)
theorem Long.pre{U V n K k:Nat}{lo q:List Nat}(h:Long U V n K (k+1) lo q):sv lo k (n+1)<BB*V:=by
 rw[Nat.add_comm n 1,sv_add,sv_succ,sv_zero,Nat.pow_zero,Nat.one_mul,Nat.zero_add,Nat.pow_one,Nat.add_zero];have h1:=h.low;have h2:=h.dig k;have h3:=Nat.mul_le_mul_left BB (Nat.succ_le_of_lt h1);rw[Nat.mul_succ] at h3;have:BB=4294967296:=rfl;omega
theorem Long.step{U V n K k:Nat}{lo q lo':List Nat}(h:Long U V n K (k+1) lo q)(hV:0<V)(hVn:V<BB^n)(hlen:lo'.length=lo.length)(hd:Dig lo')(hsame:∀j,j<k \/ k+n<j -> dg lo' j=dg lo j)(hsv:sv lo' k (n+1)=sv lo k (n+1)%V):
  Long U V n K k lo' (q.set k (sv lo k (n+1) / V)):=by
 have hk:=h.hk;have hll:=h.len;have hql:=h.qlen;have hpre:=h.pre;have hqd:sv lo k (n+1) / V<4294967296:=by rw[Nat.div_lt_iff_lt_mul hV];exact hpre
 have hchg:=val_change (l:=lo) (m:=lo') hlen.symm (i:=k) (j:=n+1) (by omega) (fun j hj=>hsame j (by omega));have hlow':sv lo' k (n+1)<V:=by rw[hsv];exact Nat.mod_lt _ hV
 have hsplit:sv lo' k (n+1)=sv lo' k n+BB^n*dg lo' (k+n):=sv_succ _ _ _
 have hz:dg lo' (k+n)=0:=by
  rcases Nat.eq_zero_or_pos (dg lo' (k+n)) with g | g
  ·exact g
  ·have:=Nat.mul_le_mul_left (BB^n) g;omega
 refine⟨by omega,by rw[List.length_set];exact hql,by omega,hd,h.qdig.set _ _ hqd,?_,by omega,?_⟩
 ·rw[h.eq,val_drop_set _ _ _ (by omega)];have hdm:=Nat.div_add_mod (sv lo k (n+1)) V;rw[<- hsv] at hdm;rw[<- hdm,Nat.mul_add] at hchg
  have e1:V* (BB^k* (sv lo k (n+1) / V+BB*val (List.drop (k+1) q)))=BB^k* (V* (sv lo k (n+1) / V))+V* (BB^ (k+1)*val (List.drop (k+1) q)):=by
   rw[Nat.mul_add,Nat.mul_add,Nat.pow_succ,Nat.mul_left_comm, <- Nat.mul_assoc (BB^k) BB]
  rw[e1];omega
 ·intro j hj
  rcases Nat.lt_or_eq_of_le hj with g | g
  ·rw[hsame j (.inr g)];exact h.zero j (by omega)
  ·rw[<- g];exact hz
theorem Long.done{U V n K:Nat}{lo q:List Nat}(h:Long U V n K 0 lo q):val lo=U%V /\ val q=U / V:=by
 have h1:val lo<V:=by
  rw[val_sv,h.len,Nat.add_comm,sv_add,sv_zeros (i:=0+n) (j:=K) (fun t _=>h.zero _ (by omega)),Nat.mul_zero,Nat.add_zero];exact h.low
 have h2:=h.eq;rw[Nat.pow_zero,Nat.one_mul,List.drop_zero] at h2;have hV:0<V:=by omega
 constructor
 ·rw[h2,Nat.add_mul_mod_self_left,Nat.mod_eq_of_lt h1]
 ·rw[h2,Nat.add_mul_div_left _ _ hV,Nat.div_eq_of_lt h1,Nat.zero_add]
theorem long_room{a b y K n:Nat}(hla:(digs a).length+1=K+ (n+1))(hlb:(digs b).length=n+1):2^y*a<BB^K* (2^y*b):=by
 have h1:=lt_pow_digs a;have h2:=can_val_pos (can_digs b) (by omega);rw[val_digs,hlb,Nat.add_sub_cancel] at h2;rw[show(digs a).length=K+n by omega,Nat.pow_add] at h1;have h3:a<BB^K*b:=Nat.lt_of_lt_of_le h1 (Nat.mul_le_mul_left _ h2);have:=Nat.mul_lt_mul_of_pos_left h3 (show 0<2^y from Nat.pow_pos (by decide))
 rwa [Nat.mul_left_comm] at this
theorem long_end{a b y:Nat}:2^y*a / (2^y*b)=a / b /\ 2^y*a% (2^y*b) / 2^y=a%b:=by
 have h2:0<2^y:=Nat.pow_pos (by decide);exact⟨Nat.mul_div_mul_left _ _ h2,by rw[Nat.mul_mod_mul_left,Nat.mul_div_cancel_left _ h2]⟩
end
section
open Go.RowKit
theorem U32.drewN{w:World}{A:Option Addr}{l:List Nat}(h:U32 w A l)(n:Nat):U32 (w.drewN n) A l:=h
theorem IsMag.drewN{w:World}{v:Value}{l:Nat}(h:IsMag w v l)(n:Nat):IsMag (w.drewN n) v l:=h
theorem IsInt.drewN{w:World}{v:Value}{l:Int}(h:IsInt w v l)(n:Nat):IsInt (w.drewN n) v l:=h
theorem order_walk(A B:Option Addr)(ca cb a b:Nat)(w:World)(ha:U32 w A (digs a))(hb:U32 w B (digs b))(hla:(digs a).length<17592186044416)(_hlb:(digs b).length<17592186044416):
  Calls Tryz.prog 155 #[.slice A (digs a).length ca, .slice B (digs b).length cb] w fun e w'=>e= .returned (.int .i64 (ordN a b)) /\ Drew w w':=by
 have hva:=val_digs a;have hvb:=val_digs b;have hca:=can_digs a;have hcb:=can_digs b;generalize digs a=la at*;generalize digs b=lb at*;subst hva hvb;have HCA:=lH hca;have HCB:=lH hcb;clear hca hcb;obtain⟨fin,hfin⟩:=eX (ordN (val la) (val lb));rw[<- hfin];have HF:=lH hfin;clear hfin;by_cases hne:la.length=lb.length
 ·have hne':(((la.length:Nat):Int) != (lb.length:Nat))=false:=by rw[hne];simp
  have HNE:=lH hne;clear hne;go_enter Tryz.func155,Tryz.ntmps155;go_wp2_with fail
  go_loopw [5] (fun v wr=>∃k:Nat,k <= la.length /\ v= .int .i64 ((k:Int)-1) /\ Hid (∀j,k <= j -> j<la.length -> dg la j=dg lb j) /\ Drew w wr) (fun v _=>(intOf v+1).toNat)
  case atStart=>exact⟨la.length,Nat.le_refl _,rfl,fun j h1 h2=>absurd h1 (by omega),Drew.refl _⟩
  case round=>
   obtain⟨k,hk,rfl,hz,hw⟩:=hrel;obtain⟨m,rfl⟩:=hw
   rcases k with _ | k
   ·go_wp2_with fail
    go_returns;refine⟨?_,Drew.mk _ _⟩;have:val la=val lb:=val_eq_of_dg HNE.out (fun j hj=>hz.out j (Nat.zero_le _) hj);rw[HF.out,ordN,if_neg (by omega),if_pos this];rfl
   ·obtain⟨b1,off1,rfl,hb1,hcell1⟩:=Cells.at_ ha (by omega);obtain⟨b2,off2,rfl,hb2,hcell2⟩:=Cells.at_ hb (by have:=HNE.out;omega);have hc1:=hcell1 k (by omega);have hc2:=hcell2 k (by have:=HNE.out;omega);have h1:((k:Nat):Int)<(la.length:Nat):=by omega
    have h2:((k:Nat):Int)<(lb.length:Nat):=by have:=HNE.out;omega
    clear hcell1 hcell2 hne';by_cases hd:dg la k=dg lb k
    ·have hd':(((dg la k:Nat):Int) != (dg lb k:Nat))=false:=by rw[hd];simp
     have HD:=lH hd;clear hd;go_wp2_with fail
     go_quiet (fail)
     go_wp2_with fail
     go_roundw
     case rel=>
      refine⟨k,by omega,rfl,fun j h3 h4=> ?_,Drew.mk _ _⟩;by_cases hj:j=k
      ·rw[hj];exact HD.out
      ·exact hz.out j (by omega) h4
     case measure=>exact mZ
    ·have hd':(((dg la k:Nat):Int) != (dg lb k:Nat))=true:=by simp;omega
     have HD:=lH hd;clear hd;by_cases hlt:dg la k<dg lb k
     ·have HL:=lH hlt;go_wp2_with fail
      go_quiet (fail)
      go_wp2_with fail
      go_quiet (fail)
      go_wp2_with fail
      go_returns;refine⟨?_,((Drew.mk _ _).step _).step _⟩;have:=val_lt_of_dg HCA.out.1 HNE.out (by omega) (fun j h3 h4=>hz.out j (by omega) h4) HL.out;rw[HF.out,ordN,if_pos this];rfl
     ·have HL:=lH hlt;go_wp2_with fail
      go_quiet (fail)
      go_wp2_with fail
      go_quiet (fail)
      go_wp2_with fail
      go_returns;refine⟨?_,((Drew.mk _ _).step _).step _⟩;have h5:=HD.out;have h6:=HL.out;have h7:=HNE.out;have:=val_lt_of_dg (k:=k) HCB.out.1 HNE.out.symm (by omega) (fun j h3 h4=>(hz.out j (by omega) (by omega)).symm) (by omega);rw[HF.out,ordN,if_neg (by omega),if_neg (by omega)];rfl
 ·have HNE:=lH hne;have hne':(((la.length:Nat):Int) != (lb.length:Nat))=true:=by simp;omega
  clear hne;by_cases hlt:la.length<lb.length
  ·go_enter Tryz.func155,Tryz.ntmps155;go_wp2_with fail
   go_returns;refine⟨?_,Drew.refl _⟩;have:=val_lt_of_len HCA.out.1 HCB.out hlt;rw[HF.out,ordN,if_pos this];rfl
  ·go_enter Tryz.func155,Tryz.ntmps155;go_wp2_with fail
   go_returns;refine⟨?_,Drew.refl _⟩;have h2:=HNE.out;have:=val_lt_of_len HCB.out.1 HCA.out (by omega);rw[HF.out,ordN,if_neg (by omega),if_neg (by omega)];rfl
theorem order_walk'(A B:Option Addr)(ca cb a b:Nat)(la lb:List Nat)(w:World)(hx:Hid (la=digs a))(hy:Hid (lb=digs b))(ha:U32 w A la)(hb:U32 w B lb)(hla:la.length<17592186044416)(hlb:lb.length<17592186044416):
  Calls Tryz.prog 155 #[.slice A la.length ca, .slice B lb.length cb] w fun e w'=>e= .returned (.int .i64 (ordN a b)) /\ Drew w w':=by
 have hx:=hx.out;have hy:=hy.out;subst hx hy;exact order_walk A B ca cb a b w ha hb hla hlb
end
section
open Go.RowKit
theorem short_walk0(A:Option Addr)(ca b:Nat)(l:List Nat)(w:World)(ha:U32 w A l)(hda:Dig l)(hla:l.length<17592186044416)(hb:b<4294967296)(hb0:0<b):
  Calls Tryz.prog 135 #[.slice A l.length ca, .int .u32 (b:Nat)] w fun e w'=>∃v,e= .returned (.tuple #[v, .int .u32 (val l%b:Nat)]) /\ (IsMag w' v (val l / b) /\ ∃g n c,v= .slice (some ⟨g,0,none⟩) n c) /\ Below w.heap.size w w':=by
 obtain⟨i0,hi0,hz0,hz1,hz2⟩:=info_parts info32;have hbl:((b:Nat):Int)<4294967296:=by omega
 have hb0':0<((b:Nat):Int):=by omega
 have HB:=lH hb;have HB0:=lH hb0;clear hb hb0;go_enter Tryz.func135,Tryz.ntmps135
 go_wp2_with (at_make;refine wpList_mk _ rfl (.tmp 10) (.tmp 10) 101 rfl 160 i0 (.int .u32 0) Tryz.underlying101 hi0 hz0 hz1 rfl _ _ _ rfl rfl rfl rfl ?_ ?_ ?_)
 ·first | omega | (rw[hz2];omega)
 ·unfold maxLen;omega
 intro w1 hrow hb1 hs1;have hr:=Row32.made hrow;clear hrow;have HR:=lH hr;clear hr;go_wp2_with fail
 go_loopw [7,8] (fun rv iv wr=>∃ (k r:Nat) (lo:List Nat),k <= l.length /\ rv= .int .u64 r /\ iv= .int .i64 ((k:Int)-1) /\ Row32 wr w.heap.size lo /\ lo.length=l.length /\ Dig lo /\ ((r:Nat):Int)<(b:Nat) /\ Hid (val (l.drop k)=b*val (lo.drop k)+r) /\ Below w.heap.size w wr)
  (fun _ iv _=>(intOf iv+1).toNat)
 case atStart=>exact⟨l.length,0,_,Nat.le_refl _,rfl,rfl,HR.out,List.length_replicate,Dig.replicate _,hb0',by show _=_;rw[List.drop_eq_nil_of_le (Nat.le_refl _),List.drop_eq_nil_of_le (by rw[List.length_replicate];exact Nat.le_refl _)];rfl,hb1⟩
 case round=>
  obtain⟨k,r,lo,hk,rfl,rfl,hrow,hlo,hdlo,hr1,hinv,hbw⟩:=hrel;have HDLO:=lH hdlo;clear hdlo
  rcases k with _ | k
  ·go_wp2_with fail
   refine(trim_walk _ _ _ lo _ hlo.symm (Nat.le_refl _) (by unfold maxLen;omega) hrow.u32 HDLO.out).mono ?_;rintro e w2 ⟨rfl,hle2,rfl⟩;have h1:=hinv.out;rw[List.drop_zero,List.drop_zero] at h1;have hq:val l / b=val lo:=by rw[h1,Nat.mul_add_div HB0.out,Nat.div_eq_of_lt (by omega),Nat.add_zero]
   have hm:val l%b=r:=by rw[h1,Nat.mul_add_mod,Nat.mod_eq_of_lt (by omega)]
   have HQ:=lH hq;have HM:=lH hm;clear h1 hq hm;go_wp2_with fail
   go_returns;refine⟨_,by rw[HM.out];rfl,⟨⟨_,l.length,by first | (rw[HQ.out];done) | (rw[HQ.out];rfl),?_,by unfold maxLen;omega,?_⟩,_,_,_,rfl⟩,hbw⟩
   ·rw[HQ.out];omega
   ·rw[HQ.out];exact hrow.u32.trimmed HDLO.out
  ·obtain⟨b1,off,rfl,hbb,hcell⟩:=Cells.at_ ha (by omega);have hcx:=hcell k (by omega);have hbx:((dg l k:Nat):Int)<4294967296:=by have:=hda k;omega
   have hg:=hrow.cell (j:=k) (by omega);have hfr:=hrow.free k;have hcx':=((bbelow hbw).1 b1 (off+k) hbb).trans hcx;have h1:((k:Nat):Int)<(l.length:Nat):=by omega
   clear hcell hcx;obtain⟨s,hs⟩:=eX (r*4294967296+dg l k);have hsb:((s:Nat):Int) <= 18446744073709551615:=by omega
   have hor:bits .or .u64 (((r:Nat):Int)*4294967296) ((dg l k:Nat):Int)=((s:Nat):Int):=by
    rw[or_shl32 r (dg l k) (by omega) (by omega),hs]
   have hq:=short_lt (r:=r) (b:=b) (d:=dg l k) (by omega) (by omega);rw[<- hs] at hq;have hq1:((s / b:Nat):Int)<4294967296:=by omega
   have hq0:0 <= ((s / b:Nat):Int):=Int.natCast_nonneg _;have HQ:=lH hq;have HS:=lH hs;clear hs hq;go_wp2_with fail
   go_roundw
   case rel=>
    refine⟨k,s%b,lo.set k (s / b),by omega,by simp,rfl,hrow.set k _ ?_,by rw[List.length_set];exact hlo,HDLO.out.set _ _ HQ.out,?_,?_,hbw.setCell (Nat.le_refl _) _⟩
    ·first | rfl | (refine congrArg (Value.int .u32) ?_;omega)
    ·have:=Nat.mod_lt s HB0.out;omega
    ·have:=short_step (r:=r) (b:=b) (by omega) (by omega) hinv.out;rw[<- HS.out] at this;exact this
   case measure=>exact mZ
theorem short_walk(A:Option Addr)(ca b:Nat)(l:List Nat)(w:World)(ha:U32 w A l)(hda:Dig l)(hla:l.length<17592186044416)(hb:b<4294967296)(hb0:0<b):
  Calls Tryz.prog 135 #[.slice A l.length ca, .int .u32 (b:Nat)] w fun e w'=>∃v,e= .returned (.tuple #[v, .int .u32 (val l%b:Nat)]) /\ IsMag w' v (val l / b) /\ Below w.heap.size w w':=
 (short_walk0 A ca b l w ha hda hla hb hb0).mono fun _ _ ⟨v,h1,h2,h3⟩=>⟨v,h1,h2.1,h3⟩
end
section
open Go.RowKit
theorem raised_walk(A:Option Addr)(ca y:Nat)(l:List Nat)(w:World)(ha:U32 w A l)(hda:Dig l)(hla:l.length<17592186044416)(hy:y<32):
  Calls Tryz.prog 197 #[.slice A l.length ca, .int .i64 (y:Nat)] w fun e w'=>∃g lr,e= .returned (.slice (some ⟨g,0,none⟩) lr.length lr.length) /\ Row32 w' g lr /\ Dig lr /\ val lr=2^y*val l /\ lr.length=l.length+1 /\ Below w.heap.size w w' /\ w.heap.size <= g:=by
 obtain⟨i0,hi0,hz0,hz1,hz2⟩:=info_parts info32;go_enter Tryz.func197,Tryz.ntmps197
 go_wp2_with (at_make;refine wpList_mk _ rfl (.tmp 10) (.tmp 10) 101 rfl 160 i0 (.int .u32 0) Tryz.underlying101 hi0 hz0 hz1 rfl _ _ _ rfl rfl rfl rfl ?_ ?_ ?_)
 ·first | omega | (rw[hz2];omega)
 ·unfold maxLen;omega
 intro w1 hrow hb1 hs1;have hr:=Row32.made hrow;clear hrow;have HR:=lH hr;clear hr;go_wp2_with fail
 go_loopw [14] (fun iv wr=>∃ (k:Nat) (lo:List Nat),k <= l.length /\ iv= .int .i64 k /\ Row32 wr w.heap.size lo /\ lo.length=l.length+1 /\ Dig lo /\ Hid (dg lo k<2^y) /\ Hid (val (lo.take k)+BB^k*dg lo k=2^y*val (l.take k)) /\ Below w.heap.size w wr)
  (fun iv _=>l.length-(intOf iv).toNat)
 case atStart=>exact⟨0,_,Nat.zero_le _,rfl,HR.out,List.length_replicate,Dig.replicate _,by show _<_;rw[dg_replicate];split <;> exact Nat.two_pow_pos y,by show _=_;simp[val,dg_replicate],hb1⟩
 case round=>
  obtain⟨k,lo,hk,rfl,hrow,hlo,hdlo,hdk,hinv,hbw⟩:=hrel;have HDLO:=lH hdlo;clear hdlo;by_cases hkl:k<l.length
  ·obtain⟨b1,off,rfl,hbb,hcell⟩:=Cells.at_ ha (by omega);have hcx:=hcell k hkl;have hbx:((dg l k:Nat):Int)<4294967296:=by have:=hda k;omega
   have hg:=hrow.cell (j:=k) (by omega);have hfr:=hrow.free k;have hg2:=hrow.cell (j:=k+1) (by omega);have hfr2:=hrow.free (k+1);have hcx':=((bbelow hbw).1 b1 (off+k) hbb).trans hcx;have h1:((k:Nat):Int)<(l.length:Nat)+1:=by omega
   have h2:((k:Nat):Int)+1<(l.length:Nat)+1:=by omega
   clear hcell hcx;have hdk':=hdk.out;obtain⟨P,hP⟩:=eX (2^y);have hP1:(2:Int)^y=(P:Nat):=by rw[hP];simp
   have hP2:P <= 2147483648:=by rw[hP];exact Nat.pow_le_pow_right (n:=2) (by omega) (show y <= 31 by omega)
   obtain⟨s,hs⟩:=eX (dg l k*P);have hs1:((dg l k:Nat):Int)* (P:Nat)=(s:Nat):=by rw[hs];simp
   have hs2:s <= 4294967295*2147483648:=by rw[hs];exact Nat.mul_le_mul (by omega) hP2
   have hs3:((s:Nat):Int) <= 9223372034707292160:=by omega
   have hroom:=pow_mod_room (d:=dg l k) hy;rw[<- hP, <- hs] at hroom;rw[<- hP] at hdk'
   have hor:bits .or .u32 ((dg lo k:Nat):Int) (((s:Nat):Int)%4294967296)=((dg lo k+s%4294967296:Nat):Int):=by
    rw[show(((s:Nat):Int)%4294967296)=((s%4294967296:Nat):Int) by omega,bits_or_comm];rw[or32 y _ _ (by rw[<- hP];exact hroom.1) (by rw[<- hP];exact hdk') (by omega),Nat.add_comm]
   have HP:=lH hP;have HS:=lH hs;have HS2:=lH hs2;have HROOM:=lH hroom;have HDK:=lH hdk';clear hP hP2 hs hs2 hroom hdk';go_wp2_with fail
   go_region
   go_wp2_with fail
   go_roundw
   case rel=>
    have hs32:s / 4294967296<2^y:=by
     rw[HS.out,HP.out];refine Nat.div_lt_of_lt_mul ?_;rw[Nat.mul_comm 4294967296];rw[Nat.mul_comm (dg l k)];exact Nat.mul_lt_mul_of_pos_left (by omega) (Nat.two_pow_pos y)
    rw[<- HP.out] at hs32;have hP3:=HP.out;have hr:=HROOM.out;have hdk3:=HDK.out;refine⟨k+1,(lo.set k (dg lo k+s%4294967296)).set (k+1) (s / 4294967296),by omega,by simp,?_,by rw[List.length_set,List.length_set];exact hlo,(HDLO.out.set _ _ (by omega)).set _ _ (by omega),?_,?_,?_⟩
    ·exact Row32.set (hrow.set k (dg lo k+s%4294967296) (by simp)) (k+1) (s / 4294967296) (by simp)
    ·show _<_;rw[dg_set,if_pos ⟨rfl,by rw[List.length_set];omega⟩, <- hP3];exact hs32
    ·exact raised_step (by omega) (by rw[HS.out,HP.out]) hinv
    ·exact((hbw.setCell (p:=⟨w.heap.size,k,none⟩) (Nat.le_refl _) _).drew).setCell (p:=⟨w.heap.size,k+1,none⟩) (Nat.le_refl _) _
   case measure=>exact mZ
  ·obtain rfl:k=l.length:=by omega
   go_wp2_with fail
   go_returns;have h1:=hinv.out;rw[<- val_take_succ,val_take_of_le (by omega),val_take_of_le (Nat.le_refl _)] at h1;exact⟨w.heap.size,lo,by rw[hlo];rfl,hrow,HDLO.out,h1,hlo,hbw,Nat.le_refl _⟩
end
section
open Go.RowKit
def Own(w:World)(base:Nat)(e:TypeId)(g cap:Nat)(xs:List Value):Prop:=
 w.ownsRow base e 1 (.slice (some ⟨g,0,none⟩) xs.length cap) xs.length xs
section
variable {w w':World} {base g cap:Nat} {e:TypeId} {xs:List Value}
theorem Own.lt(h:Own w base e g cap xs):base <= g /\ g<w.heap.size:=World.ownsRow.lt h g rfl
theorem Own.le(h:Own w base e g cap xs):xs.length <= cap /\ cap <= maxLen:=by
 rcases h.2 with ⟨h',_⟩ | ⟨g',cap',cur,h',_,_,h1,h2,_⟩
 ·simp at h'
 ·simp only[Value.slice.injEq,Option.some.injEq,Addr.mk.injEq,and_true,true_and] at h';obtain⟨rfl,rfl⟩:=h';exact⟨h1,h2⟩
theorem Own.cell(h:Own w base e g cap xs){j:Nat}(hj:j<xs.length): w.cell? ⟨g,j,none⟩=xs[j]? :=World.ownsRow.cellAt h j (by omega)
theorem Own.free(h:Own w base e g cap xs)(j:Nat): w.frozen? ⟨g,j,none⟩=false:=World.ownsRow.frozenAt h j
theorem Own.set(h:Own w base e g cap xs)(j:Nat)(v:Value):Own (w.setCell ⟨g,j,none⟩ v) base e g cap (xs.set j v):=by
 have:=(World.ownsRow.stored h j v).1;unfold Own
 rwa [List.length_set]
theorem Own.below(h:Own w base e g cap xs){B:Nat}(hb:Below B w w')(hg:g<B):Own w' base e g cap xs:=by
 rcases h.2 with ⟨h',_⟩ | ⟨g',cap',cur,h',hbg,hh,rest⟩
 ·simp at h'
 ·simp only[Value.slice.injEq,Option.some.injEq,Addr.mk.injEq,and_true,true_and] at h';obtain⟨rfl,rfl⟩:=h';exact⟨h.1, .inr ⟨g,cap,cur,rfl,hbg,(hb.block g hg).trans hh,rest⟩⟩
theorem Own.of_owns{v:Value}{n:Nat}(h:w.ownsRow base e 1 v n xs)(hn:v≠ .slice none 0 0):∃g cap,v= .slice (some ⟨g,0,none⟩) n cap /\ n=xs.length /\ Own w base e g cap xs:=by
 have hl:n=xs.length:=by have:=h.1;omega
 subst hl
 rcases h.2 with ⟨h',_⟩ | ⟨g,cap,cur,hv,_⟩
 ·exact absurd h' hn
 ·subst hv;exact⟨g,cap,rfl,rfl,h⟩
end
def Own32(w:World)(base g cap:Nat)(l:List Nat):Prop:=Own w base 160 g cap (l.map (fun d=>Value.int .u32 (d:Nat)))
section
variable {w w':World} {base g cap:Nat} {l:List Nat}
theorem Own32.lt(h:Own32 w base g cap l):base <= g /\ g<w.heap.size:=Own.lt h
theorem Own32.le(h:Own32 w base g cap l):l.length <= cap /\ cap <= maxLen:=by have:=Own.le h;rwa [List.length_map] at this
theorem Own32.cell(h:Own32 w base g cap l){j:Nat}(hj:j<l.length): w.cell? ⟨g,j,none⟩=some (.int .u32 (dg l j:Nat)):=by
 rw[Own.cell h (by rw[List.length_map];exact hj),dg_lt hj];simp[hj]
theorem Own32.free(h:Own32 w base g cap l)(j:Nat): w.frozen? ⟨g,j,none⟩=false:=Own.free h j
theorem Own32.set(h:Own32 w base g cap l)(j x:Nat){v:Value}(hv:v= .int .u32 (x:Nat)):Own32 (w.setCell ⟨g,j,none⟩ v) base g cap (l.set j x):=by
 subst hv;have:=Own.set h j (.int .u32 (x:Nat));unfold Own32
 rwa [List.map_set]
theorem Own.bt{e:TypeId}{xs:List Value}(h:Own w base e g cap xs)(v:Value)(hv:∀z,v= .int .u32 z -> e=160):BT w g v:=by
 rcases h.2 with ⟨h',_⟩ | ⟨g',cap',cur,h',_,hh,_⟩
 ·simp at h'
 ·simp only[Value.slice.injEq,Option.some.injEq,Addr.mk.injEq,and_true,true_and] at h';obtain⟨rfl,rfl⟩:=h';exact⟨_,_,_,hh,hv⟩
theorem Own32.u32(h:Own32 w base g cap l):U32 w (some ⟨g,0,none⟩) l:=
 .inr ⟨g,0,rfl,fun j hj=>by rw[Nat.zero_add];exact h.cell hj,Own.bt h _ fun _ _=>rfl⟩
theorem Own32.drew(h:Own32 w base g cap l):Own32 w.drew base g cap l:=h
end
end
section
open Go.RowKit
theorem lowered_walk(b off ca y:Nat)(l:List Nat)(w:World)(ha:U32 w (some ⟨b,off,none⟩) l)(hda:Dig l)(hla:l.length<17592186044416)(hy:y<32):
  Calls Tryz.prog 199 #[.slice (some ⟨b,off,none⟩) l.length ca, .int .i64 (y:Nat)] w fun e w'=>∃v,e= .returned v /\ IsMag w' v (val l / 2^y) /\ Below w.heap.size w w':=by
 obtain⟨i0,hi0,hz0,hz1,hz2⟩:=info_parts info32;go_enter Tryz.func199,Tryz.ntmps199;go_wp2_with fail
 refine(Tryz.slices_Clone i0 (.int .u32 0) 1 4 hi0 hz0 hz1 hz2 rfl (by omega) (fun w=>by kernel_rfl) b off l.length ca (l.map (fun d=>Value.int .u32 (d:Nat))) w (by simp) (by unfold maxLen;omega) (by omega) ?_ ?_).mono ?_
 ·intro j u hu;rw[List.getElem?_map] at hu
  rcases Nat.lt_or_ge j l.length with hj | hj
  ·rcases ha with h0 | ⟨b',off',hA,hc,_⟩
   ·omega
   ·simp only[Option.some.injEq,Addr.mk.injEq,and_true] at hA;obtain⟨rfl,rfl⟩:=hA;rw[hc j hj];simp only[dg_lt hj]
    simpa [hj] using hu
  ·rw[List.getElem?_eq_none hj] at hu;simp at hu
 ·intro u hu;obtain⟨_,_,rfl⟩:=List.mem_map.1 hu;rfl
 rintro e w1 ⟨v1,rfl,hown,hne,hb1⟩;obtain⟨g,cap,rfl, -,hown⟩:=Own.of_owns hown hne;have hown:Own32 w1 w.heap.size g cap l:=hown;have hglt:=hown.lt;obtain⟨Q,hQ⟩:=eX (2^y);obtain⟨R,hR⟩:=eX (2^ (32-y));have hQR:Q*R=4294967296:=by rw[hQ,hR, <- Nat.pow_add,show y+ (32-y)=32 by omega]
 have hQ0:0<Q:=by rw[hQ];exact Nat.two_pow_pos y
 have hQ1:(2:Int)^y=(Q:Nat):=by rw[hQ];simp
 have HQ:=lH hQ;have HQR:=lH hQR;have HQ0:=lH hQ0;have HR:=lH hR;have HOWN:=lH hown;have HB1:=lH hb1;clear hQ hQR hQ0 hR hown hb1 hne;go_wp2_with fail
 go_loopw [11] (fun iv wr=>∃ (k:Nat) (lo:List Nat),k <= l.length /\ iv= .int .i64 k /\ Own32 wr w.heap.size g cap lo /\ Hid (lo.length=l.length) /\ Dig lo /\ Hid (∀j,k <= j -> dg lo j=dg l j) /\ Hid (Q*val (lo.take k)+dg l 0%Q=val (l.take k)+BB^k* (dg l k%Q)) /\ Below w.heap.size w wr)
  (fun iv _=>l.length-(intOf iv).toNat)
 case atStart=>exact⟨0,l,Nat.zero_le _,rfl,HOWN.out,rfl,hda,fun _ _=>rfl,by show _=_;simp[val],HB1.out⟩
 case round=>
  obtain⟨k,lo,hk,rfl,hown,hlo,hdlo,hsame,hinv,hbw⟩:=hrel;have HDLO:=lH hdlo;clear hdlo;by_cases hkl:k<l.length
  ·have hlo':=hlo.out;have hg:=hown.cell (j:=k) (by omega);have hfr:=hown.free k;rw[hsame.out k (Nat.le_refl _)] at hg;have hkk:((k:Nat):Int)<(l.length:Nat):=by omega
   have hbx:((dg l k:Nat):Int)<4294967296:=by have:=hda k;omega
   clear hlo';obtain⟨a,haq⟩:=eX (dg l k / Q);have ha1:((dg l k:Nat):Int) / (Q:Nat)=(a:Nat):=by rw[haq];simp
   have HAQ:=lH haq;clear haq;by_cases hk1:k+1<l.length
   ·obtain⟨b',off',hA,hbb,hcell⟩:=Cells.at_ ha (by omega);simp only[Option.some.injEq,Addr.mk.injEq,and_true] at hA;obtain⟨rfl,rfl⟩:=hA;have hcx:=((bbelow hbw).1 b (off+ (k+1)) hbb).trans (hcell (k+1) hk1);have hkk1:((k:Nat):Int)+1<(l.length:Nat):=by omega
    have hbx1:((dg l (k+1):Nat):Int)<4294967296:=by have:=hda (k+1);omega
    obtain⟨z,hz⟩:=eX (dg l (k+1)*4294967296 / Q%4294967296);obtain⟨z1,hz1⟩:=eX (dg l (k+1)*4294967296 / Q);rw[<- hz1] at hz;have hzz:((dg l (k+1):Nat):Int)*4294967296 / (Q:Nat)=(z1:Nat):=by rw[hz1];simp
    have hzz1:((z1:Nat):Int)%4294967296=(z:Nat):=by omega
    have HZ:=lH hz;have HZ1:=lH hz1;have hd1:=lowered_digit (a:=dg l k) (b:=dg l (k+1)) HQR.out HQ0.out;have hd2:=lowered_lt (a:=dg l k) (b:=dg l (k+1)) HQR.out HQ0.out (by omega);rw[<- hz1, <- hz, <- HAQ.out] at hd1;rw[<- HAQ.out, <- hd1.1] at hd2
    have hor:bits .or .u32 ((a:Nat):Int) ((z:Nat):Int)=((a+z:Nat):Int):=by
     rw[bits_or_comm,or32 (32-y) z a ?_ (by rw[<- HR.out];exact hd2.1) (by omega),Nat.add_comm];rw[<- HR.out,hd1.1,Nat.mul_mod_right]
    have HD1:=lH hd1;have HD2:=lH hd2;clear hz hz1 hd1 hd2 hcell;go_wp2_with fail
    go_region
    go_wp2_with fail
    go_roundw
    case rel=>
     have hset:=(hown.set k a rfl).set k (a+z) (v:= .int .u32 (((a:Nat):Int)+ (z:Nat))) (by simp);rw[List.set_set] at hset;have hd1:=HD1.out;have hd2:=HD2.out;refine⟨k+1,lo.set k (a+z),by omega,by simp,hset,by show _=_;rw[List.length_set];exact hlo.out,HDLO.out.set _ _ (by omega),?_,?_,?_⟩
     ·intro j hj;rw[dg_set,if_neg (by omega)];exact hsame.out j (by omega)
     ·have:=lowered_step (lo:=lo) (l:=l) (k:=k) (Q:=Q) (R:=R) (b0:=dg l 0%Q) (by rw[hlo.out];exact hkl) HQR.out hinv.out;rw[<- hd1.1, <- HAQ.out] at this;exact this
     ·exact((hbw.setCell (p:=⟨g,k,none⟩) hglt.1 _).drew).setCell (p:=⟨g,k,none⟩) hglt.1 _
    case measure=>exact mZ
   ·have hkk1:¬(((k:Nat):Int)+1<(l.length:Nat)):=by omega
    go_wp2_with fail
    go_roundw
    case rel=>
     have hset:=hown.set k a rfl;have h0:dg l (k+1)=0:=dg_ge (by omega);have hal:=(lowered_lt (a:=dg l k) (b:=0) HQR.out HQ0.out (by omega)).2;rw[<- HAQ.out,Nat.zero_mod,Nat.mul_zero,Nat.add_zero] at hal;refine⟨k+1,lo.set k a,by omega,by simp,hset,by show _=_;rw[List.length_set];exact hlo.out,HDLO.out.set _ _ hal,?_,?_,hbw.setCell (p:=⟨g,k,none⟩) hglt.1 _⟩
     ·intro j hj;rw[dg_set,if_neg (by omega)];exact hsame.out j (by omega)
     ·have:=lowered_step (lo:=lo) (l:=l) (k:=k) (Q:=Q) (R:=R) (b0:=dg l 0%Q) (by rw[hlo.out];exact hkl) HQR.out hinv.out;rw[<- HAQ.out,h0,Nat.zero_mod,Nat.mul_zero,Nat.add_zero] at this;rw[h0,Nat.zero_mod];exact this
    case measure=>exact mZ
  ·obtain rfl:k=l.length:=by omega
   go_wp2_with fail
   have hv:=lowered_end hlo.out HQ0.out hinv.out;rw[HQ.out] at hv;refine(trim_walk _ _ _ lo _ hlo.out.symm (by have:=hown.le;rw[hlo.out] at this;exact this.1) hown.le.2 hown.u32 HDLO.out).mono ?_;rintro e w2 ⟨rfl,hle2,rfl⟩;have hle3:=hown.le;have HV:=lH hv;clear hv;go_wp2_with fail
   go_returns;refine⟨_,rfl,⟨_,cap,by rw[<- HV.out];rfl,by rw[<- HV.out];omega,hle3.2,by rw[<- HV.out];exact hown.u32.trimmed HDLO.out⟩,hbw⟩
end
section
open Go.RowKit
set_option maxRecDepth 100000 in
set_option maxHeartbeats 1600000 in
theorem divide_walk(A B:Option Addr)(ca cb a b:Nat)(w:World)(ha:U32 w A (digs a))(hb:U32 w B (digs b))(hca:(digs a).length <= ca)(hcm:ca <= maxLen)(hla:(digs a).length<17592186044410)(hlb:(digs b).length<17592186044410)(hb0:0<b):
  Calls Tryz.prog 178 #[.slice A (digs a).length ca, .slice B (digs b).length cb] w fun e w'=>∃q r,e= .returned (.tuple #[q,r]) /\ IsMag w' q (a / b) /\ IsMag w' r (a%b) /\ Below w.heap.size w w':=by
 obtain⟨i0,hi0,hz0,hz1,hz2⟩:=info_parts info32;have hbl:0<(digs b).length:=digs_len_pos.2 hb0;obtain⟨n,hn⟩:∃n,(digs b).length=n+1:=⟨(digs b).length-1,by omega⟩
 obtain⟨bo,off,rfl,hbo,hcell⟩:=Cells.at_ hb (by omega);have hn1:(((digs b).length:Nat):Int)-1=(n:Nat):=by omega
 have hn2:(((digs b).length:Nat):Int) <= 17592186044410:=by omega
 have hn3:(0:Int)<(((digs b).length:Nat):Int):=by omega
 have hn4:((n:Nat):Int)<(((digs b).length:Nat):Int):=by omega
 have c0:=hcell 0 (by omega);have cn:=hcell n (by omega);rw[Nat.add_zero] at c0;have HN:=lH hn;have HC:=lH hcell;clear hn hcell;have hd0:((dg (digs b) 0:Nat):Int)<4294967296:=by have:=dig_digs b 0;omega
 have hdn:((dg (digs b) n:Nat):Int)<4294967296:=by have:=dig_digs b n;omega
 by_cases hlt:a<b
 ·have ho:ordN a b= -1:=if_pos hlt;have ho2:ordN a b<0:=by omega
  clear ho;go_enter Tryz.func178,Tryz.ntmps178;go_wp2_with fail
  refine(order_walk A _ ca cb a b _ (by exact ha) (by exact hb) (by omega) (by omega)).mono ?_;rintro e w1 ⟨rfl,hd1⟩;obtain⟨n1,rfl⟩:=hd1;go_wp2_with fail
  go_returns;have hB:=below_drewN w.heap.size w n1;have hB2:Below w.heap.size w ((w.drewN n1).drew):=hB.drew;refine⟨_,_,rfl,⟨none,0,?_,?_,?_,?_⟩,⟨A,ca,?_,?_,hcm,?_⟩,?_⟩
  ·rw[Nat.div_eq_of_lt hlt,digs_zero];rfl
  ·rw[Nat.div_eq_of_lt hlt,digs_zero];exact Nat.le_refl _
  ·unfold maxLen;omega
  ·rw[Nat.div_eq_of_lt hlt,digs_zero];exact .inl rfl
  ·rw[Nat.mod_eq_of_lt hlt];rfl
  ·rw[Nat.mod_eq_of_lt hlt];exact hca
  ·rw[Nat.mod_eq_of_lt hlt];first | exact ha.below hB | exact ha.below hB2
  ·first | exact hB | exact hB2
 ·have ho2:(0:Int) <= ordN a b:=by unfold ordN;rw[if_neg hlt];split <;> omega
  have ho3:decide (ordN a b<0)=false:=decide_eq_false (by omega);clear ho2;by_cases h1:(((digs b).length:Nat):Int)==1
  ·have h0:0<dg (digs b) 0:=by
    have hl1:(digs b).length=1:=by have:=eq_of_beq h1;omega
    have hz:=(can_digs b).2 hbl;rw[hl1] at hz;exact Nat.pos_of_ne_zero hz
   go_enter Tryz.func178,Tryz.ntmps178;go_wp2_with fail
   refine(order_walk A _ ca cb a b _ (by exact ha) (by exact hb) (by omega) (by omega)).mono ?_;rintro e w1 ⟨rfl,hd1⟩;obtain⟨n1,rfl⟩:=hd1;go_wp2_with fail
   obtain⟨rr,hrr⟩:=eX (val (digs a)%dg (digs b) 0);have hrb:rr<4294967296:=by rw[hrr];exact Nat.lt_of_le_of_lt (Nat.le_of_lt (Nat.mod_lt _ h0)) (by omega)
   refine(short_walk A ca (dg (digs b) 0) (digs a) _ (by exact ha) (dig_digs a) (by omega) (by omega) (by omega)).mono ?_;rw[<- hrr];have HRR:=lH hrr;clear hrr;rintro e w2 ⟨v,rfl,hq,hb2⟩;have HQ:=lH hq;have HB2:=lH hb2;clear hq hb2;go_wp2_with fail
   obtain⟨r1,hsz,hB3⟩:=boxes1 w2 (.cells #[.int .u32 ((rr:Nat):Int)] 160);obtain⟨W,hW⟩:=eX (w2.alloc (.cells #[.int .u32 ((rr:Nat):Int)] 160));rw[<- hW] at r1 hsz hB3 ⊢;clear hW hsz;have r1:Row32 W w2.heap.size [rr]:=r1;have hdr:Dig [rr]:=Dig.cons hrb Dig.nil;refine(trim_walk (some ⟨w2.heap.size,0,none⟩) 1 1 [rr] W rfl (Nat.le_refl _) (by unfold maxLen;omega) r1.u32 hdr).mono ?_;rintro e w4 ⟨rfl,ht1,rfl⟩;go_wp2_with fail
   go_returns
   have hbe:b=dg (digs b) 0:=by
    have hl1:(digs b).length=0+1:=by have:=eq_of_beq h1;omega
    have:=val_sv (digs b);rw[val_digs,hl1,sv_succ,sv_zero,Nat.pow_zero,Nat.one_mul,Nat.zero_add] at this;exact this
   have hvr:val [rr]=a%b:=by
    rw[val_cons,val_nil,Nat.mul_zero,Nat.add_zero,HRR.out,val_digs, <- hbe]
   have hq:=HQ.out;rw[val_digs, <- hbe] at hq;have hB:Below w.heap.size w W:=(below_drewN _ w n1).trans ((HB2.out.mono (Nat.le_refl _)).trans (hB3.mono HB2.out.size));have hu:=r1.u32.trimmed hdr;rw[hvr] at hu ht1 ⊢;exact⟨_,_,rfl,hq.below hB3,⟨_,1,rfl,ht1,by unfold maxLen;omega,hu⟩,hB⟩
  ·have hle:=digs_len_mono (Nat.le_of_not_lt hlt);obtain⟨K,hK⟩:∃K,(digs a).length=(digs b).length+K:=⟨(digs a).length-(digs b).length,by omega⟩
   have hk0:(((digs a).length:Nat):Int)-(((digs b).length:Nat):Int)=(K:Nat):=by omega
   have hk1:((K:Nat):Int) <= 17592186044410:=by omega
   have HK:=lH hK;clear hK hle
   obtain⟨m,hm⟩:∃m,n=m+1:=⟨n-1,by
    have:(digs b).length≠1:=fun e=>h1 (by rw[e];rfl)
    have:=HN.out
    omega⟩
   have hmb:((m:Nat):Int) <= 17592186044410:=by omega
   have hmn:((m:Nat):Int)+2=(((digs b).length:Nat):Int):=by omega
   have HM:=lH hm;have HMN:=lH hmn;clear hm hmn;have h1':((((digs b).length:Nat):Int)==1)=false:=by simpa using h1
   clear h1;obtain⟨y,hy32,hy1,hy2,hy3⟩:=lead_bits (d:=dg (digs b) n) (Nat.pos_of_ne_zero (by have:=(can_digs b).2 hbl;rwa [HN.out,Nat.add_sub_cancel] at this)) (by omega);go_enter Tryz.func178,Tryz.ntmps178;go_wp2_with fail
   refine(order_walk A _ ca cb a b _ (by exact ha) (by exact hb) (by omega) (by omega)).mono ?_;rintro e w1 ⟨rfl,hd1⟩;obtain⟨n1,rfl⟩:=hd1;go_wp2_with fail
   refine(Tryz.bits_LeadingZeros32 _ _ (by omega) (by omega)).mono ?_;rintro e w2 ⟨rfl,rfl⟩;rw[Int.toNat_natCast,hy1];go_wp2_with fail
   refine(raised_walk A ca y (digs a) _ (by exact ha) (dig_digs a) (by omega) hy32).mono ?_;rintro e w3 ⟨g1,l1,rfl,r1,hd1,hv1,hl1,hb3,hg1⟩;have HV1:=lH hv1;have HL1:=lH hl1;clear hv1 hl1;have hb3':Below w.heap.size w w3:=(below_drewN _ w n1).trans hb3;go_wp2_with fail
   refine(raised_walk _ cb y (digs b) _ (by exact hb.below hb3') (dig_digs b) (by omega) hy32).mono ?_;rintro e w4 ⟨g2,l2,rfl,r2,hd2,hv2,hl2,hb4,hg2⟩;have hl2b:l2.length<17592186044416:=by omega
   have HV2:=lH hv2;have HL2:=lH hl2;clear hv2 hl2;go_wp2_with fail
   refine(trim_walk _ l2.length l2.length l2 _ rfl (Nat.le_refl _) (by unfold maxLen;omega) r2.u32 hd2).mono ?_;rintro e w5 ⟨rfl,ht1,rfl⟩;rw[HV2.out,val_digs];have hnt:=norm_top HN.out hy32 hy2 hy3;have hlV:(digs (2^y*b)).length=m+2:=by rw[hnt.1,HM.out]
   rw[hlV];have HLV:=lH hlV;have HNT:=lH hnt;have HT1:=lH ht1;have HY2:=lH hy2;have HY3:=lH hy3;clear hlV hnt ht1 hy2 hy3
   go_wp2_with (at_make;refine wpList_mk _ rfl (.tmp 51) (.tmp 51) 101 rfl 160 i0 (.int .u32 0) Tryz.underlying101 hi0 hz0 hz1 rfl _ _ _ rfl rfl rfl rfl ?_ ?_ ?_)
   ·omega
   ·unfold maxLen;omega
   intro w6 hrow hb6 hs6;have hr:=Row32.made hrow;clear hrow;have HR:=lH hr;clear hr;go_wp2_with fail
   have hb6':Below w.heap.size w w6:=hb3'.trans ((hb4.mono hb3'.size).trans (hb6.mono (Nat.le_trans hb3'.size hb4.size)));have hr1:Row32 w6 g1 l1:=(r1.below hb4 r1.lt).below hb6 (Nat.lt_of_lt_of_le r1.lt hb4.size);have hr2:Row32 w6 g2 l2:=r2.below hb6 r2.lt;have hg12:g1<g2:=Nat.lt_of_lt_of_le r1.lt hg2;have hg2q:g2<w4.heap.size:=r2.lt;have hwg1:w.heap.size <= g1:=hg1;obtain⟨V,hV⟩:=eX (2^y*b)
   have hv6:U32 w6 (some ⟨g2,0,none⟩) (digs V):=by
    have:=hr2.u32.trimmed hd2
    rwa [HV2.out,val_digs, <- hV] at this
   have HB6:=lH hb6';have HR1:=lH hr1;have HR2:=lH hr2;have HV6:=lH hv6;have HVV:=lH hV;clear hb6' hr1 hr2 hv6 hV r1 r2 hb3 hb3' hb4 hb6;have hVlen:(digs V).length=m+2:=by rw[HVV.out,HNT.out.1,HM.out]
   have hVtop:2147483648 <= dg (digs V) (m+1):=by rw[HVV.out, <- HM.out];exact HNT.out.2
   have hVsv:sv (digs V) 0 (m+2)=V:=by rw[<- hVlen, <- val_sv,val_digs]
   have hVp:0<V:=by rw[HVV.out];exact Nat.mul_pos (Nat.pow_pos (by decide)) hb0
   have hVlt:V<BB^ (m+2):=by have:=lt_pow_digs V;rwa [hVlen] at this
   have hl1e:l1.length=K+1+ (m+2):=by rw[HL1.out,HK.out];have:=HMN.out;omega
   have hLong:Long (2^y*a) V (m+2) (K+1) (K+1) l1 (List.replicate (K+1) 0):=
    Long.start hl1e hd1 (by rw[HV1.out,val_digs]) (by rw[HVV.out];exact long_room (n:=m+1) (by rw[HK.out];have:=HMN.out;omega) (by have:=HMN.out;omega))
   have HLONG:=lH hLong;have HVL:=lH hVlen;have HVT:=lH hVtop;have HVS:=lH hVsv;have HVLT:=lH hVlt;have HL1E:=lH hl1e;clear hLong hVlen hVtop hVsv hVlt hl1e;obtain⟨gq,hgq⟩:=eX (w4.heap.size);rw[<- hgq] at HR hg2q ⊢;clear hgq hs6;obtain⟨L1,hL1⟩:=eX (l1.length);rw[<- hL1];have HLL:=lH hL1;have hL1b:((L1:Nat):Int)=(K:Nat)+1+ ((m:Nat)+2):=by rw[hL1,HL1E.out];simp
   have HLB:=lH hL1b;clear hL1 hL1b
   go_loopw [11] (fun iv wr=>∃ (k:Nat) (z:Int) (lo q:List Nat),iv= .int .i64 z /\ Hid (z=(k:Nat)-1) /\ k <= K+1 /\ Row32 wr g1 lo /\ Row32 wr gq q /\ Hid (Long (2^y*a) V (m+2) (K+1) k lo q) /\ U32 wr (some ⟨g2,0,none⟩) (digs V) /\ Below w.heap.size w wr)
    (fun iv _=>(intOf iv+1).toNat)
   case atStart=>exact⟨K+1,(K:Nat),l1,_,rfl,lH (by omega),Nat.le_refl _,HR1.out,HR.out,HLONG,HV6.out,HB6.out⟩
   case round=>
    obtain⟨k,z,lo,q,rfl,hz,hk,hrl,hrq,hlong,hvv,hbw⟩:=hrel
    rcases k with _ | i
    ·obtain rfl:z= -1:=by have:=hz.out;omega
     have HRL:=lH hrl;have HRQ:=lH hrq;have HVVV:=lH hvv;have hql:K+1=q.length:=hlong.out.qlen.symm;have hll:L1=lo.length:=by rw[hlong.out.len,HLL.out,HL1E.out]
     have HQL:=lH hql;have HLL':=lH hll;clear hrl hrq hvv hql hll hz;have hfin:=hlong.out.done;have HF:=lH hfin;clear hfin;have hL1b':L1<17592186044416:=by have h1:=HLB.out;have h2:=HMN.out;have h3:=HK.out;omega
     go_wp2_with fail
     refine(trim_walk (some ⟨gq,0,none⟩) (K+1) (K+1) q _ HQL.out (Nat.le_refl _) (by unfold maxLen;omega) (by exact HRQ.out.u32) (by exact hlong.out.qdig)).mono ?_;rintro e w8 ⟨rfl,htq,rfl⟩;have HTQ:=lH htq;clear htq;go_wp2_with fail
     refine(trim_walk (some ⟨g1,0,none⟩) L1 L1 lo _ HLL'.out (Nat.le_refl _) (by unfold maxLen;omega) (by exact HRL.out.u32) (by exact hlong.out.dig)).mono ?_;rintro e w9 ⟨rfl,htl,rfl⟩;have HTL:=lH htl;clear htl;go_wp2_with fail
     refine(lowered_walk g1 0 L1 y (digs (val lo)) _ (by exact HRL.out.u32.trimmed hlong.out.dig) (dig_digs _) (by have:=HTL.out;have:=HLL'.out;omega) hy32).mono ?_;rintro e w10 ⟨v,rfl,hmag,hb10⟩;have HMAG:=lH hmag;have HB10:=lH hb10;clear hmag hb10;go_wp2_with fail
     go_returns;have hle:=long_end (a:=a) (b:=b) (y:=y);rw[<- HVV.out] at hle;have hmag:=HMAG.out;rw[val_digs,HF.out.1,hle.2] at hmag;have hq2:=HF.out.2.trans hle.1;have huq:=HRQ.out.u32.trimmed hlong.out.qdig;have htq:=HTQ.out;rw[hq2] at huq htq ⊢;exact⟨_,v,rfl,⟨_,K+1,rfl,by have:=HQL.out;omega,by unfold maxLen;omega,huq.below HB10.out⟩,hmag,hbw.trans (HB10.out.mono hbw.size)⟩
    ·obtain rfl:z=(i:Nat):=by have:=hz.out;omega
     clear hz;have hbi:((i:Nat):Int)<(K:Nat)+1:=by omega
     have hi1:((i:Nat):Int)+ ((m:Nat)+2)+1 <= (L1:Nat):=by have:=HLB.out;omega
     go_wp2_with fail
     rw[show i+ (m+2)+1-i=m+3 by omega];have hqi:i<q.length:=by rw[hlong.out.qlen];omega
     have HLO:=lH hlong.out.len;obtain⟨D,hD⟩:=eX (sv lo i (m+3) / V)
     have hDlt:D<4294967296:=by
      rw[hD,Nat.div_lt_iff_lt_mul hVp];exact hlong.out.pre
     refine(digit_walk g1 i m _ _ g2 0 lo (digs V) wr (by exact hrl) hlong.out.dig (by have:=HLB.out;have:=HLO.out;omega) (by have:=HLB.out;have:=HMN.out;have:=HK.out;have:=HLO.out;omega) (by exact hvv) HVL.out (dig_digs _) (by omega) HVT.out (by rw[HVS.out];exact hlong.out.pre)).mono ?_;rw[HVS.out, <- hD];rintro e w8 ⟨rfl,lo',hrl',hdl',hlen',hsame',hsv',hgr⟩;have hb8:Below w.heap.size w w8:=hbw.grown hgr (by exact hbw.size) (by simp;exact hwg1);have hrq8:Row32 w8 gq q:=(hgr.block gq hrq.lt (by simp;omega)).trans hrq;have hvv8:U32 w8 (some ⟨g2,0,none⟩) (digs V):=Cells.grownBy' hvv hgr (by omega);have hL:=hlong.out.step hVp HVLT.out hlen' hdl' (fun j hj=>hsame' j (by omega)) hsv';have hL':Long (2^y*a) V (m+2) (K+1) i lo' (q.set i D):=by rw[hD];exact hL
     have hcq:=hrq8.cell hqi;have hfq:=hrq8.free i;have HQI:=lH hqi;have HL:=lH hL';have HB8:=lH hb8;have HVV8:=lH hvv8;have HRL8:=lH hrl';clear hlen' hsame' hsv' hL hL' hD hqi hb8 hvv8 hrl' hgr hdl' HLO hvv hrl hlong hrq hbw;go_wp2_with fail
     go_roundw
     case rel=>
      have hrq9:=hrq8.set i D (v:= .int .u32 (D:Nat)) rfl;have hgs:=grownBy_set w8 gq i (.int .u32 (D:Nat));refine⟨i,((i:Nat):Int)-1,lo',q.set i D,by simp,lH rfl,by omega,?_,hrq9,HL,Cells.grownBy' HVV8.out hgs (by omega),HB8.out.grown hgs HB8.out.size (by simp;omega)⟩;exact(hgs.block g1 HRL8.out.lt (by simp;omega)).trans HRL8.out
     case measure=>exact mZ
end
section
open Go.RowKit
theorem plus_walk(A B:Option Addr)(ca cb:Nat)(la lb:List Nat)(w:World)(ha:U32 w A la)(hb:U32 w B lb)(hda:Dig la)(hdb:Dig lb)(hla:la.length<17592186044416)(hlb:lb.length<17592186044416):
  Calls Tryz.prog 185 #[.slice A la.length ca, .slice B lb.length cb] w fun e w'=>∃g lr,e= .returned (.slice (some ⟨g,0,none⟩) lr.length lr.length) /\ Row32 w' g lr /\ Dig lr /\ val lr=val la+val lb /\ lr.length=max la.length lb.length+1 /\ Below w.heap.size w w' /\ w.heap.size <= g:=by
 obtain⟨i0,hi0,hz0,hz1,hz2⟩:=info_parts info32
 obtain⟨X,cX,lx,Y,cY,ly,hx,hy,hdx,hdy,hlx,hle,hmax,hcase⟩:∃X cX lx Y cY ly,U32 w X lx /\ U32 w Y ly /\ Dig lx /\ Dig ly /\ lx.length<17592186044416 /\ ly.length <= lx.length /\ Hid (max la.length lb.length=lx.length) /\
   ((la.length<lb.length /\ Y=A /\ X=B /\ cY=ca /\ cX=cb /\ ly=la /\ lx=lb) \/ (¬la.length<lb.length /\ X=A /\ Y=B /\ cX=ca /\ cY=cb /\ lx=la /\ ly=lb)):=by
  by_cases h:la.length<lb.length
  ·exact⟨B,cb,lb,A,ca,la,hb,ha,hdb,hda,hlb,by omega,by show max _ _=_;omega, .inl ⟨h,rfl,rfl,rfl,rfl,rfl,rfl⟩⟩
  ·exact⟨A,ca,la,B,cb,lb,ha,hb,hda,hdb,hla,by omega,by show max _ _=_;omega, .inr ⟨h,rfl,rfl,rfl,rfl,rfl,rfl⟩⟩
 clear ha hb hda hdb hla hlb
 rcases hcase with ⟨hlt,rfl,rfl,rfl,rfl,rfl,rfl⟩ | ⟨hlt,rfl,rfl,rfl,rfl,rfl,rfl⟩
 all_goals
  go_enter Tryz.func185,Tryz.ntmps185
  go_wp2_with (at_make;refine wpList_mk _ rfl (.tmp 18) (.tmp 18) 101 rfl 160 i0 (.int .u32 0) Tryz.underlying101 hi0 hz0 hz1 rfl _ _ _ rfl rfl rfl rfl ?_ ?_ ?_)
  ·omega
  ·unfold maxLen;omega
  intro w1 hrow hb1 hs1;have hr:=Row32.made hrow;clear hrow;have HR:=lH hr;clear hr;go_wp2_with fail
  go_loopw [6,22] (fun cv iv wr=>∃ (k c:Nat) (lo:List Nat),k <= lx.length /\ cv= .int .u64 c /\ iv= .int .i64 k /\ Row32 wr w.heap.size lo /\ lo.length=lx.length+1 /\ Dig lo /\ c <= 1 /\ Hid (val (lo.take k)+BB^k*c=val (lx.take k)+val (ly.take k)) /\ Below w.heap.size w wr)
   (fun _ iv _=>lx.length-(intOf iv).toNat)
  case atStart=>exact⟨0,0,_,Nat.zero_le _,rfl,rfl,HR.out,List.length_replicate,Dig.replicate _,by omega,by show _=_;simp[val],hb1⟩
  case round=>
   obtain⟨k,c,lo,hk,rfl,rfl,hrow,hlo,hdlo,hc1,hinv,hbw⟩:=hrel;have HDLO:=lH hdlo;have HLO:=lH hlo;clear hdlo;by_cases hkl:k<lx.length
   ·obtain⟨b,off,rfl,hb,hcell⟩:=Cells.at_ hx (by omega);have hcx:=hcell k hkl;have hbx:((dg lx k:Nat):Int)<4294967296:=by have:=hdx k;omega
    have hg:=hrow.cell (j:=k) (by omega);have hfr:=hrow.free k;have hcx':=((bbelow hbw).1 b (off+k) hb).trans hcx;have hbB:b<w.heap.size:=hb;clear hcell hcx;by_cases hky:k<ly.length
    ·obtain⟨b2,off2,rfl,hb2,hcell2⟩:=Cells.at_ hy (by omega);have hcy':=((bbelow hbw).1 b2 (off2+k) hb2).trans (hcell2 k hky);have hby:((dg ly k:Nat):Int)<4294967296:=by have:=hdy k;omega
     clear hcell2;go_wp2_with fail
     go_roundw
     case rel=>
      refine⟨k+1,(c+dg lx k+dg ly k) / 4294967296,lo.set k ((c+dg lx k+dg ly k)%4294967296),by omega,by simp,by simp,hrow.set k _ (by simp),by rw[List.length_set];exact hlo,HDLO.out.set _ _ (Nat.mod_lt _ (by omega)),by omega,plus_step (by omega) hinv rfl,hbw.setCell (Nat.le_refl _) _⟩
     case measure=>simp[intOf];omega
    ·have hy0:dg ly k=0:=dg_ge (by omega);have HY0:=lH hy0;clear hy0;go_wp2_with fail
     go_roundw
     case rel=>
      refine⟨k+1,(c+dg lx k) / 4294967296,lo.set k ((c+dg lx k)%4294967296),by omega,by simp,by simp,hrow.set k _ (by simp),by rw[List.length_set];exact hlo,HDLO.out.set _ _ (Nat.mod_lt _ (by omega)),by omega,plus_step (by omega) hinv (by rw[HY0.out];rfl),hbw.setCell (Nat.le_refl _) _⟩
     case measure=>simp[intOf];omega
   ·obtain rfl:k=lx.length:=by omega
    have hfr:=hrow.free lx.length;have hg:=hrow.cell (j:=lx.length) (by omega);go_wp2_with fail
    go_returns;have hset:=hrow.set lx.length c rfl;have hlen:(lo.set lx.length c).length=lx.length+1:=by rw[List.length_set];exact hlo
    refine⟨w.heap.size,lo.set lx.length c,by rw[hlen];rfl,hset,HDLO.out.set _ _ (by omega),?_,by rw[hlen,hmax.out],hbw.setCell (Nat.le_refl _) _,Nat.le_refl _⟩;have h1:=val_set_take lo lx.length c (by omega);rw[<- hlen,val_take_of_le (Nat.le_refl _),hinv.out,val_take_of_le (Nat.le_refl _),val_take_of_le hle] at h1;omega
end
end Go.Proofs.YtdefghfjhgmpfaaGreatDoor
