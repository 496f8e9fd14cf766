/- Parts of this proof: Digit. -/
import Derived.Test.YtdefghfjhgmpfaaGreatDoorQAC
import Derived.Test.YtdefghfjhgmpfaaGreatDoorQAE
import Derived.Deep.DeepCutAuto
namespace Go.Proofs.YtdefghfjhgmpfaaGreatDoor
open Go.RowKit
set_option maxRecDepth 100000 in
set_option maxHeartbeats 1600000 in
theorem digit_walk(g i m cu cv bv offv:Nat)(lu lv:List Nat)(w:World)(hu:Row32 w g lu)(hdu:Dig lu)(hiu:i+m+2<lu.length)(hlu:lu.length<17592186044416)
  (hv:U32 w (some ⟨bv,offv,none⟩) lv) (hlv:lv.length=m+2) (hdv:Dig lv) (hne:bv≠g) (htop:2147483648 <= dg lv (m+1)) (hlt:sv lu i (m+3)<BB*sv lv 0 (m+2)):
  Calls Tryz.prog 198 #[.slice (some ⟨g,i,none⟩) (m+3) cu, .slice (some ⟨bv,offv,none⟩) (m+2) cv] w fun e w'=>e= .returned (.int .u32 (sv lu i (m+3) / sv lv 0 (m+2):Nat)) /\
   ∃lo,Row32 w' g lo /\ Dig lo /\ lo.length=lu.length /\ (∀j,j<i \/ i+m+2<j -> dg lo j=dg lu j) /\ sv lo i (m+3)=sv lu i (m+3)%sv lv 0 (m+2) /\ w.grownBy w' (some g):=by
 have hcv:∀j,j<m+2 -> w.cell? ⟨bv,offv+j,none⟩=some (.int .u32 (dg lv j:Nat)):=by
  rcases hv with h0 | ⟨b',off',hA,hc,_⟩
  ·omega
  ·simp only[Option.some.injEq,Addr.mk.injEq,and_true] at hA;obtain⟨rfl,rfl⟩:=hA;intro j hj;exact hc j (by omega)
 have hcu:∀j,j<m+3 -> w.cell? ⟨g,i+j,none⟩=some (.int .u32 (dg lu (i+j):Nat)):=fun j hj=>hu.cell (by omega)
 have hfu:∀j,w.frozen? ⟨g,i+j,none⟩=false:=fun j=>hu.free _
 have u0:=hcu m (by omega);have u1:=hcu (m+1) (by omega);have u2:=hcu (m+2) (by omega);have v0:=hcv m (by omega);have v1:=hcv (m+1) (by omega);have HCU:=lH hcu;have HCV:=lH hcv;have HFU:=lH hfu;clear hcu hcv hfu;obtain⟨x0,hx0⟩:=eX (dg lu (i+m));obtain⟨x1,hx1⟩:=eX (dg lu (i+ (m+1)));obtain⟨x2,hx2⟩:=eX (dg lu (i+ (m+2)));obtain⟨y0,hy0⟩:=eX (dg lv m);obtain⟨y1,hy1⟩:=eX (dg lv (m+1));rw[<- hx0] at u0;rw[<- hx1] at u1;rw[<- hx2] at u2;rw[<- hy0] at v0;rw[<- hy1] at v1;have bx0:((x0:Nat):Int)<4294967296:=by have:=hdu (i+m);omega
 have bx1:((x1:Nat):Int)<4294967296:=by have:=hdu (i+ (m+1));omega
 have bx2:((x2:Nat):Int)<4294967296:=by have:=hdu (i+ (m+2));omega
 have by0:((y0:Nat):Int)<4294967296:=by have:=hdv m;omega
 have by1:((y1:Nat):Int)<4294967296:=by have:=hdv (m+1);omega
 have by2:2147483648 <= ((y1:Nat):Int):=by omega
 have HX0:=lH hx0;have HX1:=lH hx1;have HX2:=lH hx2;have HY0:=lH hy0;have HY1:=lH hy1;have HLV:=lH hlv;have HLT:=lH hlt;have HDU:=lH hdu;have HDV:=lH hdv;have HU:=lH hu;obtain⟨h,hh⟩:=eX (x2*4294967296+x1);have hor:=or_shl32 x2 x1 (by omega) (by omega);rw[<- hh] at hor;have hhb:((h:Nat):Int) <= 18446744073709551615:=by omega
 have ⟨hE,hV0⟩:=est_facts hdu hdv hx0 hx1 hx2 hy0 hy1 hh (by omega) hlt;obtain⟨D,hD⟩:=eX (sv lu i (m+3) / sv lv 0 (m+2));rw[<- hD] at hE;have HD:=lH hD;have HV0:=lH hV0;have HE:=lH hE;clear hD hE hV0;obtain⟨q0,hq0⟩:=eX (h / y1);obtain⟨r0,hr0⟩:=eX (h%y1);have hq1:((h:Nat):Int) / (y1:Nat)=(q0:Nat):=by rw[hq0];simp
 have hr1:((h:Nat):Int)% (y1:Nat)=(r0:Nat):=by rw[hr0];simp
 have hqb:((q0:Nat):Int) <= 18446744073709551615:=by
  have:=Nat.div_le_self h y1;rw[<- hq0] at this;omega
 have HQ0:=lH hq0;have HR0:=lH hr0;clear hq0 hr0;have HH:=lH hh;clear hx0 hx1 hx2 hy0 hy1 hlv hlt htop hdu hdv hv hh;go_enter Tryz.func198,Tryz.ntmps198;go_wp2_with fail
 go_quiet (fail)
 go_wp2_with fail
 go_quiet (fail)
 go_upto_block 0 with (fail)
 rw[hr1]
 go_cut [7,8] (fun qv _ wx=>∃q:Nat,qv= .int .u64 q /\ ((q:Nat):Int)<4294967296 /\ D <= q /\ q <= D+1 /\ Drew w wx)
 case first=>
  go_wp2_with fail
  go_loopw [7,8] (fun qv rv wx=>∃q r:Nat,qv= .int .u64 q /\ rv= .int .u64 r /\ Hid (q*y1+r=h) /\ D <= q /\ ((q:Nat):Int) <= 18446744073709551615 /\ ((r:Nat):Int)<8589934592 /\ Drew w wx) (fun _ rv _=>4294967296-(intOf rv).toNat)
  case atStart=>
   refine⟨q0,r0,rfl,rfl,?_,?_,hqb,?_,((Drew.mk w _).step _)⟩
   ·rw[HQ0.out,HR0.out,Nat.mul_comm];exact Nat.div_add_mod _ _
   ·rw[HQ0.out];exact HE.out.start
   ·have:=Nat.mod_lt h (show 0<y1 by omega);rw[<- HR0.out] at this;omega
  case round=>
   obtain⟨q,r,rfl,rfl,hqr,hDq,hqb,hrb,hdr⟩:=hrel;obtain⟨nd,hdr⟩:=hdr;subst hdr;by_cases hr:((r:Nat):Int)<4294967296
   ·by_cases hq:(4294967296:Int) <= (q:Nat)
    ·have hb:=HE.out.big q (by omega);go_wp2_with fail
     go_quiet (fail)
     go_wp2_with fail
     go_roundw
     case rel=>exact⟨q-1,r+y1,congrArg (Value.int .u64) (by omega),congrArg (Value.int .u64) (by omega),est_next (by omega) hqr,hb,by omega,by omega,Drew.mk _ _⟩
     case measure=>exact mZ
    ·obtain⟨p,hp⟩:=eX (q*y0);have hp1:((q:Nat):Int)* ((y0:Nat):Int)=(p:Nat):=by rw[hp];simp
     have hp2:((p:Nat):Int) <= 18446744065119617025:=by
      have:=Nat.mul_le_mul (show q <= 4294967295 by omega) (show y0 <= 4294967295 by omega);omega
     have hor2:=or_shl32 r x0 (by omega) (by omega);obtain⟨z,hz⟩:=eX (r*4294967296+x0);rw[<- hz] at hor2;have hzb:((z:Nat):Int) <= 18446744073709551615:=by omega
     have HP:=lH hp;have HZ:=lH hz;have hq':((q:Nat):Int)<4294967296:=by omega
     have hdq:decide ((4294967296:Int) <= (q:Nat))=false:=by simp[hq]
     clear hp hz hq;by_cases ht:((z:Nat):Int)<((p:Nat):Int)
     ·have ⟨hb,hqp⟩:=HE.out.down q r hqr.out (by rw[<- HP.out, <- HZ.out];omega);go_wp2_with fail
      go_quiet (fail)
      go_wp2_with fail
      go_roundw
      case rel=>exact⟨q-1,r+y1,congrArg (Value.int .u64) (by omega),congrArg (Value.int .u64) (by omega),est_next hqp hqr,hb,by omega,by omega,Drew.mk _ _⟩
      case measure=>exact mZ
     ·have hdt:decide (z<p)=false:=decide_eq_false (by omega);go_wp2_with fail
      go_quiet (fail)
      have:=HE.out.up q r hqr.out (by rw[<- HP.out, <- HZ.out];omega) (by omega);go_wp2_with fail
      go_meet
      exact⟨q,rfl,hq',hDq,this,Drew.step ⟨_,rfl⟩ _⟩
   ·have hd:decide (((r:Nat):Int)<4294967296)=false:=by simp[hr]
    clear hr;go_wp2_with fail
    go_quiet (fail)
    go_wp2_with fail
    go_meet
    have:=HE.out.far q r hqr.out (by have:=of_decide_eq_false hd;omega);exact⟨q,rfl,by omega,hDq,this.2,Drew.step ⟨_,rfl⟩ _⟩
 case rest=>
  obtain⟨q,rfl,hq32,hDq,hqD,hdr⟩:=hcut;obtain⟨nd,hdr⟩:=hdr;subst hdr;have w0:Row32 (w.drewN nd) g lu:=HU.out;have wc:=fun j hj=>(HCV.out j hj)
  have wg:w.grownBy (w.drewN nd) (some g):=⟨rfl,rfl,rfl,Nat.le_refl _,fun _ _ _=>rfl⟩;obtain⟨W,hW⟩:=eX (w.drewN nd);rw[<- hW] at w0 wg ⊢;clear hW;have WC:=lH wc;clear wc;go_wp2_with fail
  go_loopw [9,10,86] (fun cv bv kv wr=>∃ (k c b:Nat) (lo:List Nat),k <= m+2 /\ cv= .int .u64 c /\ bv= .int .i64 b /\ kv= .int .i64 k /\ Row32 wr g lo /\ lo.length=lu.length /\ Hid (Dig lo) /\ b <= 1 /\ ((c:Nat):Int)<4294967296 /\
    Hid (sv lu i k+BB^k* (c+b)=sv lo i k+q*sv lv 0 k) /\ Hid (∀j,(j<i \/ i+k <= j) -> dg lo j=dg lu j) /\ w.grownBy wr (some g))
   (fun _ _ kv _=>m+2-(intOf kv).toNat)
  case atStart=>exact⟨0,0,0,lu,Nat.zero_le _,rfl,rfl,rfl,w0,rfl,HDU,by omega,by omega,by show _=_;simp[sv],by show ∀_,_;exact fun _ _=>rfl,wg⟩
  case round=>
   obtain⟨k,c,b,lo,hk,rfl,rfl,rfl,hrow,hlo,HDLO,hb1,hc,hinv,hsame,hgr⟩:=hrel;have HGR:=lH hgr;clear hgr;by_cases hkm:((k:Nat):Int)<(m:Nat)+2
   ·have hcy:=(HGR.out.cell (WC.out k (by omega)) (by simp;exact hne));have hby:((dg lv k:Nat):Int)<4294967296:=by have:=HDV.out k;omega
    have hgo:=hrow.cell (j:=i+k) (by omega);have hfo:=hrow.free (i+k);have hsk:=hsame.out (i+k) (.inr (Nat.le_refl _));have hgb:((dg lo (i+k):Nat):Int)<4294967296:=by have:=HDLO.out (i+k);omega
    have HSK:=lH hsk;clear hsk;obtain⟨p,hp⟩:=eX (q*dg lv k);have hp1:((q:Nat):Int)* ((dg lv k:Nat):Int)=(p:Nat):=by rw[hp];simp
    have hp2:((p:Nat):Int) <= 18446744065119617025:=by
     have:=Nat.mul_le_mul (show q <= 4294967295 by omega) (show dg lv k <= 4294967295 by omega);omega
    have HP:=lH hp;clear hp;obtain⟨s,hs⟩:∃s:Nat,((c:Nat):Int)+ ((p:Nat):Int)=(s:Nat):=⟨c+p,by simp⟩
    have hs2:((s:Nat):Int) <= 18446744069414584320:=by omega
    obtain⟨e,he⟩:∃e:Nat,((s:Nat):Int)%4294967296=(e:Nat):=⟨s%4294967296,by simp⟩
    have he2:((e:Nat):Int)<4294967296:=by omega
    obtain⟨n1,hn1⟩:∃n:Int,((dg lo (i+k):Nat):Int)-(b:Nat)=n:=⟨_,rfl⟩
    obtain⟨n2,hn2⟩:∃n:Int,n1-((e:Nat):Int)=n:=⟨_,rfl⟩
    have hb1': -4294967297<n2:=by omega
    have hb2':n2<4294967297:=by omega
    by_cases hneg:n2<0
    all_goals
     go_wp2_with fail
     go_roundw
     case rel=>
      have hst:=mulsub_step (lo:=lo) (l0:=lu) (lv:=lv) (i:=i) (j:=k) (c:=c) (b:=b) (b':=if n2<0 then 1 else 0) (q:=q) (x:=(dg lo (i+k)+4294967296-b-e)%4294967296) (s:=s) (by omega) hinv (by rw[<- HP.out];omega)
       (by rw[<- HSK.out];split <;> omega)
      refine⟨k+1,s / 4294967296,if n2<0 then 1 else 0,lo.set (i+k) ((dg lo (i+k)+4294967296-b-e)%4294967296),by omega,by simp,?_,by simp,hrow.set (i+k) _ ?_,by rw[List.length_set];exact hlo,lH (HDLO.out.set _ _ (Nat.mod_lt _ (by omega))),by split <;> omega,by omega,lH hst,?_,grownBy_trans HGR.out (grownBy_set _ _ _ _)⟩
      ·simp[hneg]
      ·refine congrArg (Value.int .u32) ?_;omega
      ·refine lH fun j hj=> ?_
       rw[dg_set,if_neg (by omega)];exact hsame.out j (by omega)
     case measure=>exact mZ
   ·obtain rfl:k=m+2:=by omega
    have hgo:=hrow.cell (j:=i+ (m+2)) (by omega);have hfo:=hrow.free (i+ (m+2));rw[hsame.out (i+ (m+2)) (.inr (Nat.le_refl _)), <- HX2.out] at hgo;obtain⟨n1,hn1⟩:∃n:Int,((x2:Nat):Int)-(b:Nat)=n:=⟨_,rfl⟩
    obtain⟨n2,hn2⟩:∃n:Int,n1-((c:Nat):Int)=n:=⟨_,rfl⟩
    have hb1': -4294967297<n2:=by omega
    have hb2':n2<4294967297:=by omega
    have hsk:=hsame.out (i+ (m+2)) (.inr (Nat.le_refl _));rw[<- HX2.out] at hsk;have HSK:=lH hsk;clear hsk;by_cases hneg:(0:Int) <= n2
    ·go_wp2_with fail
     go_returns;obtain⟨x,hx⟩:∃x:Nat,n2=(x:Nat):=⟨n2.toNat,by omega⟩
     have hset:=hrow.set (i+ (m+2)) x (v:= .int .u32 n2) (by rw[hx]);have hS:=sub_step lo lu lv (i:=i) (m:=m+2) (q:=q) (x:=x) (c:=c) (b:=b) (by omega) hinv (by rw[<- HX2.out];omega);have he:=sub_end HV0.out hS (by rw[<- HD.out];exact hDq);have hq:((q:Nat):Int)=((sv lu i (m+3):Nat):Int) / ((sv lv 0 (m+2):Nat):Int):=by rw[<- Int.natCast_ediv];exact congrArg _ he.1
     refine⟨congrArg (fun z=>Ending.returned (Value.int .u32 z)) hq,lo.set (i+ (m+2)) x,hset,HDLO.out.set _ _ (by omega),by rw[List.length_set];exact hlo,?_,he.2,grownBy_trans HGR.out (grownBy_set _ _ _ _)⟩;intro j hj;rw[dg_set,if_neg (by omega)];exact hsame.out j (by omega)
    ·obtain⟨x,hx⟩:∃x:Nat,n2+4294967296=(x:Nat):=⟨(n2+4294967296).toNat,by omega⟩
     have hxb:((x:Nat):Int)<4294967296:=by omega
     have hx2:n2%4294967296=(x:Nat):=by omega
     go_wp2_with fail
     have hset:=hrow.set (i+ (m+2)) x (v:= .int .u32 (x:Nat)) rfl;have hS:=back_start lo lu lv (i:=i) (m:=m+2) (q:=q) (x:=x) (c:=c) (b:=b) (by omega) hinv (by rw[<- HX2.out];omega);have hG:=grownBy_trans HGR.out (grownBy_set wr g (i+ (m+2)) (.int .u32 (x:Nat)));obtain⟨l1,hl1⟩:=eX (lo.set (i+ (m+2)) x);rw[<- hl1] at hset hS;have hd1:Dig l1:=by rw[hl1];exact HDLO.out.set _ _ (by omega)
     have hlen1:l1.length=lu.length:=by rw[hl1,List.length_set];exact hlo
     have hsame1:∀j,(j<i \/ i+m+2<j) -> dg l1 j=dg lu j:=by
      intro j hj;rw[hl1,dg_set,if_neg (by omega)];exact hsame.out j (by omega)
     obtain⟨W2,hW2⟩:=eX (wr.setCell ⟨g,i+ (m+2),none⟩ (.int .u32 (x:Nat)));rw[<- hW2] at hset hG ⊢;have hd1':=lH hd1;have hsame1':=lH hsame1;have hS':=lH hS;have hlen1':=lH hlen1;clear hW2 hl1 hrow hgo hfo hd1 hsame1 hS
     go_loopw [9,139] (fun cv kv wr=>∃ (k c:Nat) (lo:List Nat),k <= m+2 /\ cv= .int .u64 c /\ kv= .int .i64 k /\ Row32 wr g lo /\ lo.length=lu.length /\ Hid (Dig lo) /\ c <= 1 /\
       Hid (sv lo i k+BB^k*c=sv l1 i k+sv lv 0 k) /\ Hid (∀j,(j<i \/ i+k <= j) -> dg lo j=dg l1 j) /\ w.grownBy wr (some g))
      (fun _ kv _=>m+2-(intOf kv).toNat)
     case atStart=>exact⟨0,0,l1,Nat.zero_le _,rfl,rfl,hset,hlen1,hd1',by omega,by show _=_;simp[sv],by show ∀_,_;exact fun _ _=>rfl,hG⟩
     case round=>
      obtain⟨k,c3,l3,hk3,rfl,rfl,hrow3,hlo3,HDLO3,hc3,hinv3,hsame3,hgr3⟩:=hrel;have HGR3:=lH hgr3;clear hgr3;by_cases hkm3:((k:Nat):Int)<(m:Nat)+2
      ·have hcy:=(HGR3.out.cell (WC.out k (by omega)) (by simp;exact hne));have hby:((dg lv k:Nat):Int)<4294967296:=by have:=HDV.out k;omega
       have hgo:=hrow3.cell (j:=i+k) (by omega);have hfo:=hrow3.free (i+k);have hgb:((dg l3 (i+k):Nat):Int)<4294967296:=by have:=HDLO3.out (i+k);omega
       obtain⟨s,hs⟩:∃s:Nat,((c3:Nat):Int)+ (((dg l3 (i+k):Nat):Int)+ ((dg lv k:Nat):Int))=(s:Nat):=⟨c3+ (dg l3 (i+k)+dg lv k),by simp⟩
       have hs2:((s:Nat):Int) <= 8589934591:=by omega
       go_wp2_with fail
       go_roundw
       case rel=>
        have hst:=back_step (lo:=l3) (l0:=l1) (lv:=lv) (i:=i) (j:=k) (c:=c3) (s:=s) (by omega) hinv3 (by rw[<- hsame3.out (i+k) (.inr (Nat.le_refl _))];omega);refine⟨k+1,s / 4294967296,l3.set (i+k) (s%4294967296),by omega,by simp,by simp,hrow3.set (i+k) _ (by simp),by rw[List.length_set];exact hlo3,lH (HDLO3.out.set _ _ (Nat.mod_lt _ (by omega))),by omega,lH hst,?_,grownBy_trans HGR3.out (grownBy_set _ _ _ _)⟩;refine lH fun j hj=> ?_
        rw[dg_set,if_neg (by omega)];exact hsame3.out j (by omega)
       case measure=>exact mZ
      ·obtain rfl:k=m+2:=by omega
       have hgo:=hrow3.cell (j:=i+ (m+2)) (by omega);have hfo:=hrow3.free (i+ (m+2));have hgb:((dg l3 (i+ (m+2)):Nat):Int)<4294967296:=by have:=HDLO3.out (i+ (m+2));omega
       obtain⟨s,hs⟩:∃s:Nat,((dg l3 (i+ (m+2)):Nat):Int)+ ((c3:Nat):Int)=(s:Nat):=⟨dg l3 (i+ (m+2))+c3,by simp⟩
       have hs2:((s:Nat):Int) <= 8589934591:=by omega
       have hend:=back_end (U:=sv lu i (m+3)) (V:=sv lv 0 (m+2)) (q:=q) (S:=sv l1 i (m+3)) (T:=sv (l3.set (i+ (m+2)) (s%4294967296)) i (m+3)) (X:=BB^ (m+3)) (ov:=s / 4294967296) HV0.out hS'.out (sv_lt hd1'.out _ _)
        (Nat.lt_of_lt_of_le (sv_lt HDV.out _ _) (Nat.pow_le_pow_right (by decide) (by omega))) (by rw[<- HD.out];exact hqD)
        (back_last l3 l1 lv (i:=i) (m:=m+2) (c:=c3) (s:=s) (by omega) hinv3.out (by rw[<- hsame3.out (i+ (m+2)) (.inr (Nat.le_refl _))];omega))
        (sv_lt (HDLO3.out.set _ _ (Nat.mod_lt _ (by omega))) _ _)
       have HEND:=lH hend;have hq0:=hend.2.2;clear hend;go_wp2_with fail
       go_returns;have hq:((q:Nat):Int)-1=((sv lu i (m+3):Nat):Int) / ((sv lv 0 (m+2):Nat):Int):=by rw[<- Int.natCast_ediv, <- HEND.out.1];omega
       refine⟨congrArg (fun z=>Ending.returned (Value.int .u32 z)) hq,l3.set (i+ (m+2)) (s%4294967296),hrow3.set (i+ (m+2)) _ (by simp),HDLO3.out.set _ _ (Nat.mod_lt _ (by omega)),by rw[List.length_set];exact hlo3,?_,HEND.out.2.1,grownBy_trans HGR3.out (grownBy_set _ _ _ _)⟩;intro j hj;rw[dg_set,if_neg (by omega),hsame3.out j (by omega)];exact hsame1'.out j hj
end Go.Proofs.YtdefghfjhgmpfaaGreatDoor
