/- Parts of this proof: RText RMinus RPlus ROrder RAdd RMul RDivA. -/
import Derived.Test.YtdefghfjhgmpfaaGreatDoorQAU
import Derived.Test.YtdefghfjhgmpfaaGreatDoorQAC
import Derived.Lib.ConvBytes
import Derived.Test.YtdefghfjhgmpfaaGreatDoorQAG
import Derived.Test.YtdefghfjhgmpfaaGreatDoorQAH
import Derived.Laws.AppendOwnNone
namespace Go.Proofs.YtdefghfjhgmpfaaGreatDoor
section
open Go.RowKit
def bV(c:UInt8):Value:= .int .u8 (c.toNat:Nat)
theorem info8:(Tryz.prog.info? 5).map (fun i=>(i.zero,i.size,i.bytes))=some (some (.int .u8 0),1,1):=by kernel_rfl
theorem owns_conv{w:World}{base:Nat}{v:Value}{l:List UInt8}(h:w.ownsRow base 5 1 v l.length (l.map bV)):
  (convert 179 9 v).run Tryz.prog w= .ok (.string ⟨l.toArray⟩) w:=by
 rcases h.2 with ⟨rfl,h'⟩ | ⟨g,cap,cur,rfl,_,hg,h1,h2,hs,ht⟩
 ·have hl:l= []:=by simpa using h'
  subst hl;rw[run_convert_bytes_string w 179 9 5 none 0 0 Tryz.underlying179 Tryz.underlying5 Tryz.underlying9];rfl
 ·refine run_convert_bytes_back (P:=Tryz.prog) w 179 9 5 ⟨g,0,none⟩ cap l Tryz.underlying179 Tryz.underlying5 Tryz.underlying9 (fun j hj=> ?_);rw[Addr.add_lit,Nat.zero_add,World.ownsRow.cellAt h j (by omega)];simp[hj,bV]
theorem txt_sgn(neg:Bool)(n:Nat)(h:0<n):txt (sgn neg n)=⟨((if neg then [45] else [])++ (T.digs n).reverse.map chr).toArray⟩:=by
 unfold txt sgn;rw[itoa_of neg n h]
set_option maxHeartbeats 800000 in
theorem rtext_walk(neg:Bool)(v:Value)(l:List Nat)(w:World)(h:IsD w v l)(hd:T.Dig l)(hl:l.length <= 1099511627776):
  Calls Tryz.prog 97 #[.bool neg,v] w fun e w'=>e= .returned (.string (txt (sgn neg (T.val l)))) /\ Below w.heap.size w w':=by
 obtain⟨i0,hi0,hz0,hz1,hz2⟩:=info_parts info8;obtain⟨A,c,rfl,hc,hcm,hD⟩:=h;obtain⟨ds,hds⟩:=eX (T.digs (T.val l));have hdt:=hD.trimmed hd;have hdl:=(T.digs_val_take hd).1;have hdd:=T.dig_digs (T.val l);rw[<- hds] at hdt hdl hdd;have hnil:ds.length=0↔T.val l=0:=by rw[hds];exact T.digs_len_zero
 have HD:=lH hD;have HDT:=lH hdt;have HDD:=lH hdd;have HDS:=lH hds;have HL:=lH hl;have HDIG:=lH hd;have HC:=lH hc;have HCM:=lH hcm;have HNIL:=lH hnil;have HDL:=lH hdl;clear hD hdt hdd hds hd hnil hl hdl hc hcm;obtain⟨S,hS⟩:=eX (txt (sgn neg (T.val l)));rw[<- hS];have HSS:=lH hS;clear hS;go_enter Tryz.func97,Tryz.ntmps97;go_wp2_with fail
 refine(rtrim_walk A l.length c l _ rfl HC.out HCM.out HD.out HDIG.out).mono ?_;rintro e w2 ⟨rfl,hle,rfl⟩;rw[<- HDS.out] at hle;rw[<- HDS.out];clear hle;by_cases hz:ds.length=0
 ·have hz':(((ds.length:Nat):Int)==0)=true:=by rw[hz];rfl
  have ht:S=⟨#[48]⟩:=by
   rw[HSS.out,HNIL.out.1 hz];unfold sgn;cases neg <;> (unfold txt;simp[itoa_zero])
  subst ht;clear hz;go_wp2_with fail
  go_returns;exact⟨rfl,by first | exact Below.refl _ _ | go_grown⟩
 ·have hz':(((ds.length:Nat):Int)==0)=false:=by rw[beq_eq_false_iff_ne];omega
  have hp:0<T.val l:=by have:=HNIL.out;omega
  have ht:=txt_sgn neg (T.val l) hp;rw[<- HDS.out, <- HSS.out] at ht;have HT:=lH ht;have hdm:ds.length <= 9223372036854775807:=by have:=HDL.out;have:=HL.out;omega
  have hdb:ds.length <= 1099511627776:=by have:=HDL.out;have:=HL.out;omega
  have HDB:=lH hdb;clear hz ht hp hdb;have htop:ds.drop ds.length= []:=List.drop_eq_nil_of_le (Nat.le_refl _);have HTOP:=lH htop;clear htop;cases neg
  ·go_wp2_with fail
   have start:∃pre:List UInt8,pre.length <= 1 /\ S=⟨(pre++ds.reverse.map chr).toArray⟩ /\ w.ownsRow w.heap.size 5 1 (.slice none 0 0) pre.length (pre.map bV) /\ Below w.heap.size w w:=
    ⟨[],by simp,HT.out,World.ownsRow_nil _ _ _ _,Below.refl _ _⟩
   obtain⟨pre,hpre,hS2,hown0,hbw0⟩:=start;have HPRE:=lH hpre;have HS2:=lH hS2;have HOWN0:=lH hown0;have HBW0:=lH hbw0;clear hpre hS2 hown0 hbw0
   go_loopw [5,6] (fun ov iv wr=>∃j:Nat,j <= ds.length /\ iv= .int .i64 ((j:Int)-1) /\ Hid (wr.ownsRow w.heap.size 5 1 ov (pre++ (ds.drop j).reverse.map chr).length ((pre++ (ds.drop j).reverse.map chr).map bV)) /\ Hid (Below w.heap.size w wr)) (fun _ iv _=>(intOf iv+1).toNat)
   case atStart=>exact⟨ds.length,Nat.le_refl _,rfl,lH (by rw[HTOP.out];simpa using HOWN0.out),HBW0⟩
   case round=>
    obtain⟨j,hj,rfl,hown,hbw⟩:=hrel
    rcases j with _ | j
    ·have hconv:=owns_conv hown.out;rw[List.drop_zero, <- HS2.out] at hconv;go_wp2_with fail
     go_returns;exact⟨rfl,hbw.out⟩
    ·have hj1:((j:Nat):Int)<(ds.length:Nat):=by omega
     obtain⟨b,off,hA,hbb,hcell⟩:=Cells.at_ HDT.out (by omega);have hcj:=((bbelow hbw.out).1 b (off+j) hbb).trans (hcell j (by omega));have hd10:((dg ds j:Nat):Int)<10:=by have:=HDD.out j;omega
     have hlen:(pre++ (ds.drop (j+1)).reverse.map chr).length <= 1099511627777:=by
      have:=HPRE.out;have:=HDB.out;rw[List.length_append,List.length_map,List.length_reverse,List.length_drop];omega
     have hdrop:(ds.drop j).reverse.map chr=(ds.drop (j+1)).reverse.map chr++ [chr (dg ds j)]:=by
      rw[List.drop_eq_getElem_cons (by omega),List.reverse_cons,List.map_append,dg_lt (by omega)];rfl
     have HDROP:=lH hdrop;have HLEN:=lH hlen;subst hA;clear hcell hdrop hlen
     go_wp2_with (at_builtin;refine wpList_append_own _ rfl (.tmp 23) (.tmp 30) 179 rfl w.heap.size 5 i0 (.int .u8 0) 1 1 Tryz.underlying179 hi0 hz0 hz1 hz2 rfl (by decide) _ _ _ rfl (hown.out.alloc _) ⟨wr.heap.size,0,none⟩ 1 1 [.int .u8 (48+ ((dg ds j:Nat):Int))] rfl rfl ?d1 ?d2 ?d3 ?d4 ?d5 ?_)
     case d1=>
      intro i u hj
      rcases i with _ | i
      ·simp at hj;subst hj;simp[Addr.add]
      ·simp at hj
     case d2=>intro u hu;simp at hu;subst hu;rfl
     case d3=>have:=HLEN.out;unfold maxLen;omega
     case d4=>have:=HLEN.out;omega
     case d5=>
      have h1:=hbw.out.size;have h3:=size_alloc wr (.cells #[.int .u8 (48+ ((dg ds j:Nat):Int))] 5);omega
     intro v2 w2 hown2 hgr2 hnn2;have HOWN2:=lH hown2;have HGR2:=lH hgr2;clear hown2 hgr2 hnn2;go_wp2_with fail
     go_roundw
     case rel=>
      refine⟨j,by omega,by first | rfl | (congr 1;omega),lH ?_,lH ?_⟩
      ·have h0:=HOWN2.out;rw[HDROP.out, <- List.append_assoc]
       have e2:(Value.int .u8 (48+ ((dg ds j:Nat):Int)))=bV (chr (dg ds j)):=by
        unfold bV;rw[chr_toNat (by omega)];simp
       rw[e2] at h0
       simpa [Nat.add_assoc] using h0
      ·have h1:=(boxes1 wr (.cells #[.int .u8 (48+ ((dg ds j:Nat):Int))] 5)).2.2;have h2:=hbw.out.trans (h1.mono hbw.out.size);refine h2.grown HGR2.out h2.size ?_;intro k hk;have:=(hown.out.lt k hk).1;omega
     case measure=>exact mZ
  ·go_wp2_with (at_builtin;refine wpList_append_own _ rfl (.tmp 13) (.tmp 14) 179 rfl w.heap.size 5 i0 (.int .u8 0) 1 1 Tryz.underlying179 hi0 hz0 hz1 hz2 rfl (by decide) _ _ _ rfl (World.ownsRow_nil _ _ _ _) ⟨w.heap.size,0,none⟩ 1 1 [.int .u8 45] rfl rfl ?c1 ?c2 ?c3 ?c4 ?c5 ?_)
   case c1=>
    intro j u hj
    rcases j with _ | j
    ·simp at hj;subst hj;simp[Addr.add]
    ·simp at hj
   case c2=>intro u hu;simp at hu;subst hu;rfl
   case c3=>unfold maxLen;omega
   case c4=>omega
   case c5=>simp
   intro v' w1 hown' hgr hnn
   have start:∃pre:List UInt8,pre.length <= 1 /\ S=⟨(pre++ds.reverse.map chr).toArray⟩ /\ w1.ownsRow w.heap.size 5 1 v' pre.length (pre.map bV) /\ Below w.heap.size w w1:=
    ⟨[45],by simp,HT.out,hown',((boxes1 w (.cells #[.int .u8 45] 5)).2.2).grown hgr (by simp) (fun k hk=>by simp[Value.ownBlock] at hk)⟩
   clear hown' hgr hnn;go_wp2_with fail
   obtain⟨pre,hpre,hS2,hown0,hbw0⟩:=start;have HPRE:=lH hpre;have HS2:=lH hS2;have HOWN0:=lH hown0;have HBW0:=lH hbw0;clear hpre hS2 hown0 hbw0
   go_loopw [5,6] (fun ov iv wr=>∃j:Nat,j <= ds.length /\ iv= .int .i64 ((j:Int)-1) /\ Hid (wr.ownsRow w.heap.size 5 1 ov (pre++ (ds.drop j).reverse.map chr).length ((pre++ (ds.drop j).reverse.map chr).map bV)) /\ Hid (Below w.heap.size w wr)) (fun _ iv _=>(intOf iv+1).toNat)
   case atStart=>exact⟨ds.length,Nat.le_refl _,rfl,lH (by rw[HTOP.out];simpa using HOWN0.out),HBW0⟩
   case round=>
    obtain⟨j,hj,rfl,hown,hbw⟩:=hrel
    rcases j with _ | j
    ·have hconv:=owns_conv hown.out;rw[List.drop_zero, <- HS2.out] at hconv;go_wp2_with fail
     go_returns;exact⟨rfl,hbw.out⟩
    ·have hj1:((j:Nat):Int)<(ds.length:Nat):=by omega
     obtain⟨b,off,hA,hbb,hcell⟩:=Cells.at_ HDT.out (by omega);have hcj:=((bbelow hbw.out).1 b (off+j) hbb).trans (hcell j (by omega));have hd10:((dg ds j:Nat):Int)<10:=by have:=HDD.out j;omega
     have hlen:(pre++ (ds.drop (j+1)).reverse.map chr).length <= 1099511627777:=by
      have:=HPRE.out;have:=HDB.out;rw[List.length_append,List.length_map,List.length_reverse,List.length_drop];omega
     have hdrop:(ds.drop j).reverse.map chr=(ds.drop (j+1)).reverse.map chr++ [chr (dg ds j)]:=by
      rw[List.drop_eq_getElem_cons (by omega),List.reverse_cons,List.map_append,dg_lt (by omega)];rfl
     have HDROP:=lH hdrop;have HLEN:=lH hlen;subst hA;clear hcell hdrop hlen
     go_wp2_with (at_builtin;refine wpList_append_own _ rfl (.tmp 23) (.tmp 30) 179 rfl w.heap.size 5 i0 (.int .u8 0) 1 1 Tryz.underlying179 hi0 hz0 hz1 hz2 rfl (by decide) _ _ _ rfl (hown.out.alloc _) ⟨wr.heap.size,0,none⟩ 1 1 [.int .u8 (48+ ((dg ds j:Nat):Int))] rfl rfl ?d1 ?d2 ?d3 ?d4 ?d5 ?_)
     case d1=>
      intro i u hj
      rcases i with _ | i
      ·simp at hj;subst hj;simp[Addr.add]
      ·simp at hj
     case d2=>intro u hu;simp at hu;subst hu;rfl
     case d3=>have:=HLEN.out;unfold maxLen;omega
     case d4=>have:=HLEN.out;omega
     case d5=>
      have h1:=hbw.out.size;have h3:=size_alloc wr (.cells #[.int .u8 (48+ ((dg ds j:Nat):Int))] 5);omega
     intro v2 w2 hown2 hgr2 hnn2;have HOWN2:=lH hown2;have HGR2:=lH hgr2;clear hown2 hgr2 hnn2;go_wp2_with fail
     go_roundw
     case rel=>
      refine⟨j,by omega,by first | rfl | (congr 1;omega),lH ?_,lH ?_⟩
      ·have h0:=HOWN2.out;rw[HDROP.out, <- List.append_assoc]
       have e2:(Value.int .u8 (48+ ((dg ds j:Nat):Int)))=bV (chr (dg ds j)):=by
        unfold bV;rw[chr_toNat (by omega)];simp
       rw[e2] at h0
       simpa [Nat.add_assoc] using h0
      ·have h1:=(boxes1 wr (.cells #[.int .u8 (48+ ((dg ds j:Nat):Int))] 5)).2.2;have h2:=hbw.out.trans (h1.mono hbw.out.size);refine h2.grown HGR2.out h2.size ?_;intro k hk;have:=(hown.out.lt k hk).1;omega
     case measure=>exact mZ
end
section
open Go.RowKit
theorem Dig_snoc{lo:List Nat}{x:Nat}(h:T.Dig lo)(hx:x<10):T.Dig (lo++ [x]):=T.Dig.append h (T.Dig.cons hx T.Dig.nil)
theorem rminus_step{lo la lb:List Nat}{k c c' x:Nat}(hk:lo.length=k)(h:T.val (la.take k)+T.BB^k*c=T.val lo+T.val (lb.take k))(hs:dg la k+10*c'=x+c+dg lb k):
  T.val (la.take (k+1))+T.BB^ (k+1)*c'=T.val (lo++ [x])+T.val (lb.take (k+1)):=by
 rw[T.val_append,hk,T.val_take_succ,T.val_take_succ,Nat.pow_succ];have e:T.BB^k* (dg la k+10*c')=T.BB^k* (x+c+dg lb k):=by rw[hs]
 rw[Nat.mul_add,Nat.mul_add,Nat.mul_add, <- Nat.mul_assoc] at e;simp only[T.val, <- T.BB_eq,Nat.mul_zero,Nat.add_zero] at e ⊢;omega
set_option maxHeartbeats 800000 in
theorem rminus_lists(A B:Option Addr)(ca cb:Nat)(la lb:List Nat)(w:World)(ha:D64 w A la)(hb:D64 w B lb)(hda:T.Dig la)(hdb:T.Dig lb)(hla:la.length<1099511627776)(hlb:lb.length <= la.length)(hle:T.val lb <= T.val la):
  Calls Tryz.prog 124 #[.slice A la.length ca, .slice B lb.length cb] w fun e w'=>∃v,e= .returned v /\ FreshD w.heap.size w' v (T.digs (T.val la-T.val lb)) /\ Below w.heap.size w w':=by
 obtain⟨i0,hi0,hz0,hz1,hz2⟩:=info_parts info64;have HLE:=lH hle;have HLB:=lH hlb;have hlam:la.length <= 9223372036854775807:=by omega
 have hlbm:lb.length <= 9223372036854775807:=by omega
 have HLA:=lH hla;have HA:=lH ha;have HB:=lH hb;have HDA:=lH hda;have HDB:=lH hdb;clear hle hlb hla ha hb hda hdb;go_enter Tryz.func124,Tryz.ntmps124;go_wp2_with fail
 go_loopw [5,6,7] (fun ov cv iv wr=>∃ (k c:Nat) (lo:List Nat),k <= la.length /\ cv= .int .i64 c /\ iv= .int .i64 k /\ lo.length=k /\ Hid (Owns1 wr w.heap.size 3 ov (lo.map dV)) /\ Hid (T.Dig lo) /\ ((c:Nat):Int) <= 1 /\ Hid (T.val (la.take k)+T.BB^k*c=T.val lo+T.val (lb.take k)) /\ Hid (Below w.heap.size w wr))
  (fun _ _ iv _=>la.length-(intOf iv).toNat)
 case atStart=>exact⟨0,0,[],Nat.zero_le _,rfl,rfl,rfl,lH (Owns1.nil _ _ _),lH T.Dig.nil,by omega,lH (by simp[T.val]),lH (by first | exact Below.refl _ _ | go_grown)⟩
 case round=>
  obtain⟨k,c,lo,hk,rfl,rfl,hlo,hown,hdlo,hc1,hinv,hbw⟩:=hrel;have HLO:=lH hlo;clear hlo;by_cases hkl:((k:Nat):Int)<(la.length:Nat)
  ·obtain⟨b,off,rfl,hbb,hcell⟩:=Cells.at_ HA.out (by omega);have hcx:=((bbelow hbw.out).1 b (off+k) hbb).trans (hcell k (by omega));have hbx:((dg la k:Nat):Int)<10:=by have:=HDA.out k;omega
   have hby:((dg lb k:Nat):Int)<10:=by have:=HDB.out k;omega
   clear hcell
   have c3:((lo.map dV).length+1 <= maxLen) /\ ((lo.map dV).length+1)*8 <= 140737488355328:=by
    have:=HLA.out;have:=HLO.out;rw[List.length_map];unfold maxLen;omega
   have C3:=lH c3;clear c3
   have fin:∀ (n2:Int) (v':Value) (w1:World) (c' x:Nat),n2=(x:Nat) -> Owns1 w1 w.heap.size 3 v' (lo.map dV++ [.int .i64 n2]) -> Below w.heap.size wr w1 -> x<10 -> dg la k+10*c'=x+c+dg lb k ->
     Hid (Owns1 w1 w.heap.size 3 v' ((lo++ [x]).map dV)) /\ Hid (T.Dig (lo++ [x])) /\ Hid (T.val (la.take (k+1))+T.BB^ (k+1)*c'=T.val (lo++ [x])+T.val (lb.take (k+1))) /\ Hid (Below w.heap.size w w1):=by
    intro n2 v' w1 c' x hn how hgr hx hs;subst hn;refine⟨lH ?_,lH (Dig_snoc hdlo.out hx),lH (rminus_step HLO.out hinv.out hs),lH (hbw.out.trans hgr)⟩;rw[List.map_append];exact how
   have FIN:=lH fin;clear fin;by_cases hky:((k:Nat):Int)<(lb.length:Nat)
   ·obtain⟨b2,off2,rfl,hb2,hcell2⟩:=Cells.at_ HB.out (by omega);have hcy:=((bbelow hbw.out).1 b2 (off2+k) hb2).trans (hcell2 k (by omega));clear hcell2;obtain⟨n1,hn1⟩:∃n:Int,((dg la k:Nat):Int)-(c:Nat)=n:=⟨_,rfl⟩
    obtain⟨n2,hn2⟩:∃n:Int,n1-((dg lb k:Nat):Int)=n:=⟨_,rfl⟩
    have hb1': -11<n2:=by omega
    have hb2':n2<10:=by omega
    have hb3': -2<n1:=by omega
    have hb4':n1<10:=by omega
    by_cases hneg:n2<0
    ·go_wp2_with (at_builtin;refine wpList_app1 _ rfl (.tmp 35) (.tmp 37) 76 rfl w.heap.size 3 i0 (.int .i64 0) 8 Tryz.underlying76 hi0 hz0 hz1 hz2 rfl _ _ rfl hown.out (.int .i64 (n2+10)) rfl rfl C3.out hbw.out.size ?_)
     intro v' w1 hown' hb1;have hf:=FIN.out (n2+10) v' w1 1 (n2+10).toNat (by omega) hown' hb1 (by omega) (by omega);have HF:=lH hf;clear hown' hb1 hf;go_wp2_with fail
     go_roundw
     case rel=>exact⟨k+1,1,_,by omega,rfl,by go_num,by rw[List.length_append,HLO.out];rfl,HF.out.1,HF.out.2.1,by omega,HF.out.2.2.1,HF.out.2.2.2⟩
     case measure=>simp[intOf];omega
    ·go_wp2_with (at_builtin;refine wpList_app1 _ rfl (.tmp 35) (.tmp 37) 76 rfl w.heap.size 3 i0 (.int .i64 0) 8 Tryz.underlying76 hi0 hz0 hz1 hz2 rfl _ _ rfl hown.out (.int .i64 n2) rfl rfl C3.out hbw.out.size ?_)
     intro v' w1 hown' hb1;have hf:=FIN.out n2 v' w1 0 n2.toNat (by omega) hown' hb1 (by omega) (by omega);have HF:=lH hf;clear hown' hb1 hf;go_wp2_with fail
     go_roundw
     case rel=>exact⟨k+1,0,_,by omega,rfl,by go_num,by rw[List.length_append,HLO.out];rfl,HF.out.1,HF.out.2.1,by omega,HF.out.2.2.1,HF.out.2.2.2⟩
     case measure=>simp[intOf];omega
   ·have hy0:dg lb k=0:=dg_ge (by omega);obtain⟨n2,hn2⟩:∃n:Int,((dg la k:Nat):Int)-(c:Nat)=n:=⟨_,rfl⟩
    have hb3': -2<n2:=by omega
    have hb4':n2<10:=by omega
    have HY0:=lH hy0;clear hy0 hby;by_cases hneg:n2<0
    ·go_wp2_with (at_builtin;refine wpList_app1 _ rfl (.tmp 35) (.tmp 37) 76 rfl w.heap.size 3 i0 (.int .i64 0) 8 Tryz.underlying76 hi0 hz0 hz1 hz2 rfl _ _ rfl hown.out (.int .i64 (n2+10)) rfl rfl C3.out hbw.out.size ?_)
     intro v' w1 hown' hb1;have hf:=FIN.out (n2+10) v' w1 1 (n2+10).toNat (by omega) hown' hb1 (by omega) (by have:=HY0.out;omega);have HF:=lH hf;clear hown' hb1 hf;go_wp2_with fail
     go_roundw
     case rel=>exact⟨k+1,1,_,by omega,rfl,by go_num,by rw[List.length_append,HLO.out];rfl,HF.out.1,HF.out.2.1,by omega,HF.out.2.2.1,HF.out.2.2.2⟩
     case measure=>simp[intOf];omega
    ·go_wp2_with (at_builtin;refine wpList_app1 _ rfl (.tmp 35) (.tmp 37) 76 rfl w.heap.size 3 i0 (.int .i64 0) 8 Tryz.underlying76 hi0 hz0 hz1 hz2 rfl _ _ rfl hown.out (.int .i64 n2) rfl rfl C3.out hbw.out.size ?_)
     intro v' w1 hown' hb1;have hf:=FIN.out n2 v' w1 0 n2.toNat (by omega) hown' hb1 (by omega) (by have:=HY0.out;omega);have HF:=lH hf;clear hown' hb1 hf;go_wp2_with fail
     go_roundw
     case rel=>exact⟨k+1,0,_,by omega,rfl,by go_num,by rw[List.length_append,HLO.out];rfl,HF.out.1,HF.out.2.1,by omega,HF.out.2.2.1,HF.out.2.2.2⟩
     case measure=>simp[intOf];omega
  ·have hkk:k=la.length:=by omega
   have hinv':=hinv.out;rw[hkk,T.val_take_of_le (Nat.le_refl _),T.val_take_of_le HLB.out] at hinv';have hend:=T.minus_end (lo:=lo) (c:=c) hdlo.out HLE.out (by omega) (by rw[HLO.out,hkk];exact hinv');have HO:=lH hown.out.fresh;have HEND:=lH hend;clear hinv' hend hkk;go_wp2_with fail
   refine(rtrim_fresh _ _ lo _ HO.out hdlo.out).mono ?_;rintro e w2 ⟨v3,rfl,hf3,rfl⟩;rw[HEND.out] at hf3;have HF3:=lH hf3;clear hf3;go_wp2_with fail
   go_returns;exact⟨_,rfl,HF3.out,hbw.out⟩
theorem rminus_fresh(v1 v2:Value)(a b:Nat)(w:World)(h1:IsD w v1 (T.digs a))(h2:IsD w v2 (T.digs b))(hla:(T.digs a).length<1099511627776)(hle:b <= a):
  Calls Tryz.prog 124 #[v1,v2] w fun e w'=>∃v,e= .returned v /\ FreshD w.heap.size w' v (T.digs (a-b)) /\ Below w.heap.size w w':=by
 obtain⟨A,ca,rfl,_,_,ha⟩:=h1;obtain⟨B,cb,rfl,_,_,hb⟩:=h2;have:=rminus_lists A B ca cb _ _ w ha hb (T.dig_digs a) (T.dig_digs b) hla (T.digs_len_mono hle) (by rw[T.val_digs,T.val_digs];exact hle);rw[T.val_digs,T.val_digs] at this;exact this
theorem rminus_walk(v1 v2:Value)(a b:Nat)(w:World)(h1:IsD w v1 (T.digs a))(h2:IsD w v2 (T.digs b))(hla:(T.digs a).length<1099511627776)(hle:b <= a):
  Calls Tryz.prog 124 #[v1,v2] w fun e w'=>∃v,e= .returned v /\ IsD w' v (T.digs (a-b)) /\ Below w.heap.size w w':=
 (rminus_fresh v1 v2 a b w h1 h2 hla hle).mono fun _ _ ⟨v,h1,h2,h3⟩=>⟨v,h1,h2.isD,h3⟩
end
section
open Go.RowKit
theorem rplus_step{lo la lb:List Nat}{k c s:Nat}(hk:lo.length=k)(h:T.val lo+T.BB^k*c=T.val (la.take k)+T.val (lb.take k))(hs:s=c+dg la k+dg lb k):
  T.val (lo++ [s%10])+T.BB^ (k+1)* (s / 10)=T.val (la.take (k+1))+T.val (lb.take (k+1)):=by
 rw[T.val_append,hk,T.val_take_succ,T.val_take_succ,Nat.pow_succ];have:=T.pow_split (T.BB^k) s;have e:T.BB^k*s=T.BB^k*c+T.BB^k*dg la k+T.BB^k*dg lb k:=by rw[hs,Nat.mul_add,Nat.mul_add]
 simp only[T.val,Nat.mul_zero,Nat.add_zero];omega
theorem rfl_carry{n:Int}{s:Nat}(h:n=(s:Nat)):Value.int .i64 (n / 10)= .int .i64 ((s / 10:Nat):Int):=by rw[h];congr 1
set_option maxHeartbeats 1600000 in
theorem rplus_lists(A B:Option Addr)(ca cb:Nat)(la lb:List Nat)(w:World)(ha:D64 w A la)(hb:D64 w B lb)(hda:T.Dig la)(hdb:T.Dig lb)(hla:la.length<1099511627776)(hlb:lb.length<1099511627776):
  Calls Tryz.prog 151 #[.slice A la.length ca, .slice B lb.length cb] w fun e w'=>∃v,e= .returned v /\ ∃lr,IsD w' v lr /\ T.Dig lr /\ T.val lr=T.val la+T.val lb /\ lr.length <= max la.length lb.length+1 /\ Below w.heap.size w w':=by
 obtain⟨i0,hi0,hz0,hz1,hz2⟩:=info_parts info64;obtain⟨M,hM⟩:=eX (max la.length lb.length);rw[<- hM];have hlM1:((la.length:Nat):Int) <= (M:Nat):=by omega
 have hlM2:((lb.length:Nat):Int) <= (M:Nat):=by omega
 have hMm:M <= 9223372036854775806:=by omega
 have HMB:Hid (M<1099511627776):=lH (by omega);have hMc:((M:Nat):Int) <= ((la.length:Nat):Int) \/ ((M:Nat):Int) <= ((lb.length:Nat):Int):=by omega
 have HMC:=lH hMc;have HM:=lH hM;have HA:=lH ha;have HB:=lH hb;have HDA:=lH hda;have HDB:=lH hdb;clear hM hla hlb ha hb hda hdb hMc;go_enter Tryz.func151,Tryz.ntmps151;go_wp2_with fail
 go_loopw [5,6,7] (fun ov cv iv wr=>∃ (k c:Nat) (lo:List Nat),((k:Nat):Int) <= (M:Nat)+1 /\ cv= .int .i64 c /\ iv= .int .i64 k /\ lo.length=k /\ Hid (Owns1 wr w.heap.size 3 ov (lo.map dV)) /\ Hid (T.Dig lo) /\ ((c:Nat):Int) <= 1 /\ Hid (M<k -> c=0) /\ Hid (T.val lo+T.BB^k*c=T.val (la.take k)+T.val (lb.take k)) /\ Hid (Below w.heap.size w wr))
  (fun _ _ iv _=>M+1-(intOf iv).toNat)
 case atStart=>exact⟨0,0,[],by omega,rfl,rfl,rfl,lH (Owns1.nil _ _ _),lH T.Dig.nil,by omega,lH (fun _=>rfl),lH (by simp[T.val]),lH (by first | exact Below.refl _ _ | go_grown)⟩
 case round=>
  obtain⟨k,c,lo,hk,rfl,rfl,hlo,hown,hdlo,hc1,hcz,hinv,hbw⟩:=hrel;have HLO:=lH hlo;clear hlo
  have c3:((lo.map dV).length+1 <= maxLen) /\ ((lo.map dV).length+1)*8 <= 140737488355328:=by
   have:=HMB.out;have:=HLO.out;rw[List.length_map];unfold maxLen;omega
  have C3:=lH c3;clear c3;have hbx:((dg la k:Nat):Int)<10:=by have:=HDA.out k;omega
  have hby:((dg lb k:Nat):Int)<10:=by have:=HDB.out k;omega
  have fin:∀ (n2:Int) (v':Value) (w1:World),n2=((c+dg la k+dg lb k:Nat):Int) -> Owns1 w1 w.heap.size 3 v' (lo.map dV++ [.int .i64 (n2%10)]) -> Below w.heap.size wr w1 ->
    Hid (Owns1 w1 w.heap.size 3 v' ((lo++ [(c+dg la k+dg lb k)%10]).map dV)) /\ Hid (T.Dig (lo++ [(c+dg la k+dg lb k)%10])) /\ Hid (M<k+1 -> (c+dg la k+dg lb k) / 10=0) /\ Hid (T.val (lo++ [(c+dg la k+dg lb k)%10])+T.BB^ (k+1)* ((c+dg la k+dg lb k) / 10)=T.val (la.take (k+1))+T.val (lb.take (k+1))) /\ Hid (Below w.heap.size w w1):=by
   intro n2 v' w1 hn how hgr;refine⟨lH ?_,lH (Dig_snoc hdlo.out (Nat.mod_lt _ (by decide))),lH ?_,lH (rplus_step HLO.out hinv.out rfl),lH (hbw.out.trans hgr)⟩
   ·rw[List.map_append];have e:Value.int .i64 (n2%10)=dV ((c+dg la k+dg lb k)%10):=by unfold dV;rw[hn];congr 1
    rw[e] at how;exact how
   ·intro h;have h1:dg la k=0:=dg_ge (by omega);have h2:dg lb k=0:=dg_ge (by omega);omega
  have FIN:=lH fin;clear fin;by_cases hka:((k:Nat):Int)<(la.length:Nat)
  ·by_cases hkb:((k:Nat):Int)<(lb.length:Nat)
   ·obtain⟨b,off,rfl,hbb,hcell⟩:=Cells.at_ HA.out (by omega);have hcx:=((bbelow hbw.out).1 b (off+k) hbb).trans (hcell k (by omega));clear hcell;obtain⟨b2,off2,rfl,hbb2,hcell2⟩:=Cells.at_ HB.out (by omega);have hcy:=((bbelow hbw.out).1 b2 (off2+k) hbb2).trans (hcell2 k (by omega));clear hcell2;obtain⟨n1,hn1⟩:∃n:Int,((c:Nat):Int)+ ((dg la k:Nat):Int)=n:=⟨_,rfl⟩
    obtain⟨n2,hn2⟩:∃n:Int,n1+ ((dg lb k:Nat):Int)=n:=⟨_,rfl⟩
    have hq1:0 <= n1:=by omega
    have hq2:n1 <= 10:=by omega
    have hr1:0 <= n2:=by omega
    have hr2:n2 <= 19:=by omega
    have hs:n2=((c+dg la k+dg lb k:Nat):Int):=by omega
    have HSS:=lH hs;clear hs
    go_wp2_with (at_builtin;refine wpList_app1 _ rfl (.tmp 46) (.tmp 49) 76 rfl w.heap.size 3 i0 (.int .i64 0) 8 Tryz.underlying76 hi0 hz0 hz1 hz2 rfl _ _ rfl hown.out (.int .i64 (n2%10)) rfl rfl C3.out hbw.out.size ?_)
    intro v' w1 hown' hb1;have hf:=FIN.out n2 v' w1 HSS.out hown' hb1;have HF:=lH hf;clear hown' hb1 hf;go_wp2_with fail
    go_roundw
    case rel=>exact⟨k+1,(c+dg la k+dg lb k) / 10,_,by omega,rfl_carry HSS.out,by go_num,by rw[List.length_append,HLO.out];rfl,HF.out.1,HF.out.2.1,by omega,HF.out.2.2.1,HF.out.2.2.2.1,HF.out.2.2.2.2⟩
    case measure=>simp[intOf];omega
   ·obtain⟨b,off,rfl,hbb,hcell⟩:=Cells.at_ HA.out (by omega);have hcx:=((bbelow hbw.out).1 b (off+k) hbb).trans (hcell k (by omega));clear hcell;have HY0:Hid (dg lb k=0):=lH (dg_ge (by omega));obtain⟨n1,hn1⟩:∃n:Int,((c:Nat):Int)+ ((dg la k:Nat):Int)=n:=⟨_,rfl⟩
    have hq1:0 <= n1:=by omega
    have hq2:n1 <= 10:=by omega
    have hs:n1=((c+dg la k+dg lb k:Nat):Int):=by have:=HY0.out;omega
    have HSS:=lH hs;clear hs
    go_wp2_with (at_builtin;refine wpList_app1 _ rfl (.tmp 46) (.tmp 49) 76 rfl w.heap.size 3 i0 (.int .i64 0) 8 Tryz.underlying76 hi0 hz0 hz1 hz2 rfl _ _ rfl hown.out (.int .i64 (n1%10)) rfl rfl C3.out hbw.out.size ?_)
    intro v' w1 hown' hb1;have hf:=FIN.out n1 v' w1 HSS.out hown' hb1;have HF:=lH hf;clear hown' hb1 hf;go_wp2_with fail
    go_roundw
    case rel=>exact⟨k+1,(c+dg la k+dg lb k) / 10,_,by omega,rfl_carry HSS.out,by go_num,by rw[List.length_append,HLO.out];rfl,HF.out.1,HF.out.2.1,by omega,HF.out.2.2.1,HF.out.2.2.2.1,HF.out.2.2.2.2⟩
    case measure=>simp[intOf];omega
  ·by_cases hkb:((k:Nat):Int)<(lb.length:Nat)
   ·obtain⟨b2,off2,rfl,hbb2,hcell2⟩:=Cells.at_ HB.out (by omega);have hcy:=((bbelow hbw.out).1 b2 (off2+k) hbb2).trans (hcell2 k (by omega));clear hcell2;have HX0:Hid (dg la k=0):=lH (dg_ge (by omega));obtain⟨n2,hn2⟩:∃n:Int,((c:Nat):Int)+ ((dg lb k:Nat):Int)=n:=⟨_,rfl⟩
    have hr1:0 <= n2:=by omega
    have hr2:n2 <= 19:=by omega
    have hs:n2=((c+dg la k+dg lb k:Nat):Int):=by have:=HX0.out;omega
    have HSS:=lH hs;clear hs
    go_wp2_with (at_builtin;refine wpList_app1 _ rfl (.tmp 46) (.tmp 49) 76 rfl w.heap.size 3 i0 (.int .i64 0) 8 Tryz.underlying76 hi0 hz0 hz1 hz2 rfl _ _ rfl hown.out (.int .i64 (n2%10)) rfl rfl C3.out hbw.out.size ?_)
    intro v' w1 hown' hb1;have hf:=FIN.out n2 v' w1 HSS.out hown' hb1;have HF:=lH hf;clear hown' hb1 hf;go_wp2_with fail
    go_roundw
    case rel=>exact⟨k+1,(c+dg la k+dg lb k) / 10,_,by omega,rfl_carry HSS.out,by go_num,by rw[List.length_append,HLO.out];rfl,HF.out.1,HF.out.2.1,by omega,HF.out.2.2.1,HF.out.2.2.2.1,HF.out.2.2.2.2⟩
    case measure=>simp[intOf];omega
   ·by_cases hc0':c=1
    ·have hkM:((k:Nat):Int) <= (M:Nat):=by
      rcases Nat.lt_or_ge M k with h | h
      ·have:=hcz.out h;omega
      ·omega
     have HC1:=lH hc0';have HX0:Hid (dg la k=0):=lH (dg_ge (by omega));have HY0:Hid (dg lb k=0):=lH (dg_ge (by omega));obtain⟨n2,hn2⟩:∃n:Int,((c:Nat):Int)=n:=⟨_,rfl⟩
     have hc0:(0:Int)<n2:=by omega
     have hr2:n2 <= 19:=by omega
     clear hc0';have hs:n2=((c+dg la k+dg lb k:Nat):Int):=by have:=HX0.out;have:=HY0.out;omega
     have HSS:=lH hs;clear hs
     go_wp2_with (at_builtin;refine wpList_app1 _ rfl (.tmp 46) (.tmp 49) 76 rfl w.heap.size 3 i0 (.int .i64 0) 8 Tryz.underlying76 hi0 hz0 hz1 hz2 rfl _ _ rfl hown.out (.int .i64 (n2%10)) rfl rfl C3.out hbw.out.size ?_)
     intro v' w1 hown' hb1;have hf:=FIN.out n2 v' w1 HSS.out hown' hb1;have HF:=lH hf;clear hown' hb1 hf;go_wp2_with fail
     go_roundw
     case rel=>exact⟨k+1,(c+dg la k+dg lb k) / 10,_,by omega,rfl_carry HSS.out,by go_num,by rw[List.length_append,HLO.out];rfl,HF.out.1,HF.out.2.1,by omega,HF.out.2.2.1,HF.out.2.2.2.1,HF.out.2.2.2.2⟩
     case measure=>simp[intOf];omega
    ·have hc00:c=0:=by omega
     subst hc00;have hend:=hinv.out;rw[T.val_take_of_le (by omega),T.val_take_of_le (by omega),Nat.mul_zero,Nat.add_zero] at hend;have HEND:=lH hend;clear hend;have hd:=hown.out.isD;have HD:=lH hd;clear hd;go_wp2_with fail
     go_returns;exact⟨_,rfl,lo,HD.out,hdlo.out,HEND.out,by have:=HLO.out;omega,hbw.out⟩
end
section
open Go.RowKit
theorem rorder_lists(A B:Option Addr)(ca cb:Nat)(la lb:List Nat)(w:World)(ha:D64 w A la)(hb:D64 w B lb)(hca:T.Can la)(hcb:T.Can lb)(hla:la.length<17592186044416)(_hlb:lb.length<17592186044416):
  Calls Tryz.prog 111 #[.slice A la.length ca, .slice B lb.length cb] w fun e w'=>e= .returned (.int .i64 (ordN (T.val la) (T.val lb))) /\ Drew w w':=by
 have HCA:=lH hca;have HCB:=lH hcb;clear hca hcb;obtain⟨fin,hfin⟩:=eX (ordN (T.val la) (T.val lb));rw[<- hfin];have HF:=lH hfin;clear hfin;by_cases hne:la.length=lb.length
 ·have hne':(((la.length:Nat):Int) != (lb.length:Nat))=false:=by rw[hne];simp
  have HNE:=lH hne;clear hne;go_enter Tryz.func111,Tryz.ntmps111;go_wp2_with fail
  go_loopw [5] (fun v wr=>∃k:Nat,k <= la.length /\ v= .int .i64 ((k:Int)-1) /\ Hid (∀j,k <= j -> j<la.length -> dg la j=dg lb j) /\ Drew w wr) (fun v _=>(intOf v+1).toNat)
  case atStart=>exact⟨la.length,Nat.le_refl _,rfl,fun j h1 h2=>absurd h1 (by omega),Drew.refl _⟩
  case round=>
   obtain⟨k,hk,rfl,hz,hw⟩:=hrel;obtain⟨m,rfl⟩:=hw
   rcases k with _ | k
   ·go_wp2_with fail
    go_returns;refine⟨?_,Drew.mk _ _⟩;have:T.val la=T.val lb:=T.val_eq_of_dg HNE.out (fun j hj=>hz.out j (Nat.zero_le _) hj);rw[HF.out,ordN,if_neg (by omega),if_pos this];rfl
   ·obtain⟨b1,off1,rfl,hb1,hcell1⟩:=Cells.at_ ha (by omega);obtain⟨b2,off2,rfl,hb2,hcell2⟩:=Cells.at_ hb (by have:=HNE.out;omega);have hc1:=hcell1 k (by omega);have hc2:=hcell2 k (by have:=HNE.out;omega);have h1:((k:Nat):Int)<(la.length:Nat):=by omega
    have h2:((k:Nat):Int)<(lb.length:Nat):=by have:=HNE.out;omega
    clear hcell1 hcell2 hne';by_cases hlt:dg la k<dg lb k
    ·have HL:=lH hlt;go_wp2_with fail
     go_quiet (fail)
     go_wp2_with fail
     go_returns;refine⟨?_,(Drew.mk _ _).step _⟩;have:=T.val_lt_of_dg HCA.out.1 HNE.out (by omega) (fun j h3 h4=>hz.out j (by omega) h4) HL.out;rw[HF.out,ordN,if_pos this];rfl
    ·by_cases hgt:dg lb k<dg la k
     ·have HL:=lH hgt;go_wp2_with fail
      go_quiet (fail)
      go_wp2_with fail
      go_quiet (fail)
      go_wp2_with fail
      go_returns;refine⟨?_,((Drew.mk _ _).step _).step _⟩;have h7:=HNE.out;have:=T.val_lt_of_dg (k:=k) HCB.out.1 HNE.out.symm (by omega) (fun j h3 h4=>(hz.out j (by omega) (by omega)).symm) HL.out;rw[HF.out,ordN,if_neg (by omega),if_neg (by omega)];rfl
     ·have HD:Hid (dg la k=dg lb k):=lH (by omega);go_wp2_with fail
      go_quiet (fail)
      go_wp2_with fail
      go_quiet (fail)
      go_wp2_with fail
      go_roundw
      case rel=>
       refine⟨k,by omega,rfl,fun j h3 h4=> ?_,Drew.mk _ _⟩;by_cases hj:j=k
       ·rw[hj];exact HD.out
       ·exact hz.out j (by omega) h4
      case measure=>exact mZ
 ·have HNE:=lH hne;have hne':(((la.length:Nat):Int) != (lb.length:Nat))=true:=by simp;omega
  clear hne;by_cases hlt:la.length<lb.length
  ·go_enter Tryz.func111,Tryz.ntmps111;go_wp2_with fail
   go_returns;refine⟨?_,Drew.refl _⟩;have:=T.val_lt_of_len HCA.out.1 HCB.out hlt;rw[HF.out,ordN,if_pos this];rfl
  ·go_enter Tryz.func111,Tryz.ntmps111;go_wp2_with fail
   go_returns;refine⟨?_,Drew.refl _⟩;have h2:=HNE.out;have:=T.val_lt_of_len HCB.out.1 HCA.out (by omega);rw[HF.out,ordN,if_neg (by omega),if_neg (by omega)];rfl
theorem rorder_walk(v1 v2:Value)(a b:Nat)(w:World)(h1:IsD w v1 (T.digs a))(h2:IsD w v2 (T.digs b))(hla:(T.digs a).length<17592186044416)(hlb:(T.digs b).length<17592186044416):
  Calls Tryz.prog 111 #[v1,v2] w fun e w'=>e= .returned (.int .i64 (ordN a b)) /\ Drew w w':=by
 obtain⟨A,ca,rfl,_,_,ha⟩:=h1;obtain⟨B,cb,rfl,_,_,hb⟩:=h2;have:=rorder_lists A B ca cb _ _ w ha hb (T.can_digs a) (T.can_digs b) hla hlb;rw[T.val_digs,T.val_digs] at this;exact this
end
section
open Go.RowKit
def isNeg(a:Int):Bool:=decide (sgI a<0)
def isPos(a:Int):Bool:=decide (0<sgI a)
theorem sgI_neg{a:Int}:sgI a<0↔a<0:=by unfold sgI;split <;> (try split) <;> omega
theorem sgI_pos{a:Int}:0<sgI a↔0<a:=by unfold sgI;split <;> (try split) <;> omega
theorem isNeg_eq(a:Int):isNeg a=decide (a<0):=by unfold isNeg;simp only[sgI_neg]
theorem isPos_eq(a:Int):isPos a=decide (0<a):=by unfold isPos;simp only[sgI_pos]
def Few(a:Int):Prop:=(T.digs a.natAbs).length<1000000000
theorem Few.lt{a:Int}(h:Few a):(T.digs a.natAbs).length<1099511627776:=Nat.lt_trans h (by decide)
theorem Few.lt2{a:Int}(h:Few a):(T.digs a.natAbs).length<17592186044416:=Nat.lt_trans h (by decide)
theorem Few.le{a:Int}(h:Few a):(T.digs a.natAbs).length <= 1099511627776:=Nat.le_of_lt h.lt
theorem rneg_walk(a:Int)(w:World)(ha:Few a):
  Calls Tryz.prog 60 #[.string (txt a)] w fun e w'=>e= .returned (.string (txt (-a))) /\ Below w.heap.size w w':=by
 have HF:=lH ha;clear ha;obtain⟨S,hS⟩:=eX (txt (-a));rw[<- hS];have HS:=lH hS;clear hS;go_enter Tryz.func60,Tryz.ntmps60;go_wp2_with fail
 refine(rsign_walk a _).mono ?_;rintro e w1 ⟨rfl,rfl⟩;go_wp2_with fail
 refine(rdigits_walk a _ HF.out.lt).mono ?_;rintro e w2 ⟨v,rfl,hv,hb⟩;have HV:=lH hv;have HB:=lH hb;clear hv hb;go_wp2_with fail
 refine(rtext_walk (isPos a) v _ _ HV.out (T.dig_digs _) HF.out.le).mono ?_;rintro e w3 ⟨rfl,hb3⟩
 have ht:txt (sgn (isPos a) (T.val (T.digs a.natAbs)))=S:=by
  rw[HS.out,T.val_digs,isPos_eq];congr 1;unfold sgn;by_cases h:0<a
  ·rw[decide_eq_true h];simp;omega
  ·rw[decide_eq_false h];simp;omega
 rw[ht];have HB3:=lH (HB.out.trans (hb3.mono HB.out.size));clear ht hb3;go_wp2_with fail
 go_returns;exact⟨rfl,HB3.out⟩
theorem rcompare_walk(a b:Int)(w:World)(ha:Few a)(hb:Few b):
  Calls Tryz.prog 74 #[.string (txt a), .string (txt b)] w fun e w'=>e= .returned (.int .i64 (cmpI a b)) /\ Below w.heap.size w w':=by
 have HFA:=lH ha;have HFB:=lH hb;clear ha hb;obtain⟨r,hr⟩:=eX (cmpI a b);rw[<- hr];have HR:=lH hr;clear hr;by_cases h1:sgI a<sgI b
 ·have e:r= -1:=by
   rw[HR.out];unfold cmpI;rw[if_pos];unfold sgI at h1;split at h1 <;> split at h1 <;> (try split at h1) <;> (try split at h1) <;> omega
  subst e;go_enter Tryz.func74,Tryz.ntmps74;go_wp2_with fail
  refine(rsign_walk a _).mono ?_;rintro e w1 ⟨rfl,rfl⟩;go_wp2_with fail
  refine(rsign_walk b _).mono ?_;rintro e w1 ⟨rfl,rfl⟩;go_wp2_with fail
  go_returns;exact⟨rfl,by first | exact Below.refl _ _ | go_grown⟩
 ·by_cases h2:sgI b<sgI a
  ·have e:r=1:=by
    rw[HR.out];unfold cmpI;rw[if_neg,if_neg]
    ·unfold sgI at h2;split at h2 <;> split at h2 <;> (try split at h2) <;> (try split at h2) <;> omega
    ·unfold sgI at h2;split at h2 <;> split at h2 <;> (try split at h2) <;> (try split at h2) <;> omega
   subst e;have h1':sgI b <= sgI a:=by omega
   clear h1;go_enter Tryz.func74,Tryz.ntmps74;go_wp2_with fail
   refine(rsign_walk a _).mono ?_;rintro e w1 ⟨rfl,rfl⟩;go_wp2_with fail
   refine(rsign_walk b _).mono ?_;rintro e w1 ⟨rfl,rfl⟩;go_wp2_with fail
   go_returns;exact⟨rfl,by first | exact Below.refl _ _ | go_grown⟩
  ·have hab:sgI a=sgI b:=by omega
   have HAB:=lH hab;have h1':sgI b <= sgI a:=by omega
   have h2':sgI a <= sgI b:=by omega
   clear h1 h2 hab;by_cases h3:sgI a<0
   ·go_enter Tryz.func74,Tryz.ntmps74;go_wp2_with fail
    refine(rsign_walk a _).mono ?_;rintro e w1 ⟨rfl,rfl⟩;go_wp2_with fail
    refine(rsign_walk b _).mono ?_;rintro e w1 ⟨rfl,rfl⟩;go_wp2_with fail
    refine(rdigits_walk b _ HFB.out.lt).mono ?_;rintro e w2 ⟨v1,rfl,hv1,hb1⟩;have HV1:=lH hv1;have HB1:=lH hb1;clear hv1 hb1;go_wp2_with fail
    refine(rdigits_walk a _ HFA.out.lt).mono ?_;rintro e w3 ⟨v2,rfl,hv2,hb2⟩;have HV2:=lH hv2;have HB2:=lH hb2;have HV1':=lH (HV1.out.below HB2.out);clear hv2 hb2;go_wp2_with fail
    refine(rorder_walk v1 v2 _ _ _ HV1'.out HV2.out HFB.out.lt2 HFA.out.lt2).mono ?_;rintro e w4 ⟨rfl,hd⟩
    have ho:ordN b.natAbs a.natAbs=r:=by
     have h5:a<0:=sgI_neg.1 h3;have h6:b<0:=sgI_neg.1 (by have:=HAB.out;omega);rw[HR.out];unfold ordN cmpI;by_cases h7:a<b
     ·rw[if_pos (by omega),if_pos h7]
     ·by_cases h8:a=b
      ·rw[if_neg (by omega),if_pos (by omega),if_neg h7,if_pos h8]
      ·rw[if_neg (by omega),if_neg (by omega),if_neg h7,if_neg h8]
    rw[ho];have HBD:=lH ((HB1.out.trans (HB2.out.mono HB1.out.size)).trans (hd.below _));clear ho hd;go_wp2_with fail
    go_returns;exact⟨rfl,HBD.out⟩
   ·have h3':0 <= sgI a:=by omega
    clear h3;go_enter Tryz.func74,Tryz.ntmps74;go_wp2_with fail
    refine(rsign_walk a _).mono ?_;rintro e w1 ⟨rfl,rfl⟩;go_wp2_with fail
    refine(rsign_walk b _).mono ?_;rintro e w1 ⟨rfl,rfl⟩;go_wp2_with fail
    refine(rdigits_walk a _ HFA.out.lt).mono ?_;rintro e w2 ⟨v1,rfl,hv1,hb1⟩;have HV1:=lH hv1;have HB1:=lH hb1;clear hv1 hb1;go_wp2_with fail
    refine(rdigits_walk b _ HFB.out.lt).mono ?_;rintro e w3 ⟨v2,rfl,hv2,hb2⟩;have HV2:=lH hv2;have HB2:=lH hb2;have HV1':=lH (HV1.out.below HB2.out);clear hv2 hb2;go_wp2_with fail
    refine(rorder_walk v1 v2 _ _ _ HV1'.out HV2.out HFA.out.lt2 HFB.out.lt2).mono ?_;rintro e w4 ⟨rfl,hd⟩
    have ho:ordN a.natAbs b.natAbs=r:=by
     have h5:¬a<0:=fun h=>by have:=sgI_neg.2 h;omega
     have h6:¬b<0:=fun h=>by have:=sgI_neg.2 h;have:=HAB.out;omega
     rw[HR.out];unfold ordN cmpI;by_cases h7:a<b
     ·rw[if_pos (by omega),if_pos h7]
     ·by_cases h8:a=b
      ·rw[if_neg (by omega),if_pos (by omega),if_neg h7,if_pos h8]
      ·rw[if_neg (by omega),if_neg (by omega),if_neg h7,if_neg h8]
    rw[ho];have HBD:=lH ((HB1.out.trans (HB2.out.mono HB1.out.size)).trans (hd.below _));clear ho hd;go_wp2_with fail
    go_returns;exact⟨rfl,HBD.out⟩
theorem txt_sgn_of{s:Bool}{n:Nat}{r:Int}{S:ByteArray}(hS:S=txt r)(h:sgn s n=r):txt (sgn s n)=S:=by rw[hS,h]
set_option maxHeartbeats 800000 in
theorem radd_walk(a b:Int)(w:World)(ha:Few a)(hb:Few b):
  Calls Tryz.prog 126 #[.string (txt a), .string (txt b)] w fun e w'=>e= .returned (.string (txt (a+b))) /\ Below w.heap.size w w':=by
 have HFA:=lH ha;have HFB:=lH hb;clear ha hb;obtain⟨S,hS⟩:=eX (txt (a+b));rw[<- hS];have HS:=lH hS;clear hS;go_enter Tryz.func126,Tryz.ntmps126;go_wp2_with fail
 refine(rdigits_walk a _ HFA.out.lt).mono ?_;rintro e w2 ⟨v1,rfl,hv1,hb1⟩;have HV1:=lH hv1;have HB1:=lH hb1;clear hv1 hb1;go_wp2_with fail
 refine(rdigits_walk b _ HFB.out.lt).mono ?_;rintro e w3 ⟨v2,rfl,hv2,hb2⟩;have HV2:=lH hv2;have HV1':=lH (HV1.out.below hb2);have HBW:=lH (HB1.out.trans (hb2.mono HB1.out.size));clear hv2 hb2 HV1 HB1;go_wp2_with fail
 refine(rsign_walk a _).mono ?_;rintro e w1 ⟨rfl,rfl⟩;go_wp2_with fail
 refine(rsign_walk b _).mono ?_;rintro e w1 ⟨rfl,rfl⟩;by_cases hs:isNeg a=isNeg b
 ·have hs':(decide (sgI a<0)==decide (sgI b<0))=true:=by
   unfold isNeg at hs;rw[hs];simp
  have HSE:=lH hs;clear hs;go_wp2_with fail
  refine(rsign_walk a _).mono ?_;rintro e w1 ⟨rfl,rfl⟩;go_wp2_with fail
  obtain⟨A,ca,rfl,hca,hcm,hua⟩:=HV1'.out;obtain⟨B,cb,rfl,hcb,hcmb,hub⟩:=HV2.out;refine(rplus_lists A B ca cb _ _ _ hua hub (T.dig_digs _) (T.dig_digs _) HFA.out.lt HFB.out.lt).mono ?_;rintro e w4 ⟨v3,rfl,lr,hv3,hdl,hval,hlen,hb4⟩;have HV3:=lH hv3;have HDL:=lH hdl;have HVAL:=lH hval;have HLEN:=lH hlen;have HBW4:=lH (HBW.out.trans (hb4.mono HBW.out.size));clear hv3 hdl hval hlen hb4 hua hub;go_wp2_with fail
  refine(rtext_walk (isNeg a) v3 lr _ HV3.out HDL.out (by have:=HLEN.out;have h1:=HFA.out;have h2:=HFB.out;unfold Few at h1 h2;omega)).mono ?_;rintro e w5 ⟨rfl,hb5⟩;have HBW5:=lH (HBW4.out.trans (hb5.mono HBW4.out.size))
  rw[txt_sgn_of HS.out (by
   rw[HVAL.out,T.val_digs,T.val_digs];have h1:=HSE.out;rw[isNeg_eq,isNeg_eq] at h1;rw[isNeg_eq];unfold sgn;by_cases h2:a<0
   ·rw[decide_eq_true h2] at h1 ⊢;have:b<0:=of_decide_eq_true h1.symm;simp;omega
   ·rw[decide_eq_false h2] at h1 ⊢;have:¬b<0:=of_decide_eq_false h1.symm
    simp;omega)]
  clear hb5;go_wp2_with fail
  go_returns;exact⟨rfl,HBW5.out⟩
 ·have hs':(decide (sgI a<0)==decide (sgI b<0))=false:=by
   unfold isNeg at hs;rw[beq_eq_false_iff_ne];exact hs
  have HSE:=lH hs;clear hs;have hcmp:Hid (isNeg a=isNeg b -> False):=lH HSE.out;by_cases hge:b.natAbs <= a.natAbs
  ·have hor:(0:Int) <= ordN a.natAbs b.natAbs:=by unfold ordN;split <;> (try split) <;> omega
   have HGE:=lH hge;clear hge;go_wp2_with fail
   refine(rorder_walk v1 v2 _ _ _ HV1'.out HV2.out HFA.out.lt2 HFB.out.lt2).mono ?_;rintro e w4 ⟨rfl,hd⟩;have HBW4:=lH (HBW.out.trans (hd.below _));have HV1'':=lH (HV1'.out.below (hd.below _));have HV2'':=lH (HV2.out.below (hd.below _));clear hd HV1' HV2;go_wp2_with fail
   refine(rsign_walk a _).mono ?_;rintro e w1 ⟨rfl,rfl⟩;go_wp2_with fail
   refine(rminus_walk v1 v2 _ _ _ HV1''.out HV2''.out HFA.out.lt HGE.out).mono ?_;rintro e w5 ⟨v3,rfl,hv3,hb5⟩;have HV3:=lH hv3;have HBW5:=lH (HBW4.out.trans (hb5.mono HBW4.out.size));clear hv3 hb5;go_wp2_with fail
   refine(rtext_walk (isNeg a) v3 _ _ HV3.out (T.dig_digs _) (Nat.le_trans (T.digs_len_mono (Nat.sub_le _ _)) HFA.out.le)).mono ?_;rintro e w6 ⟨rfl,hb6⟩;have HBW6:=lH (HBW5.out.trans (hb6.mono HBW5.out.size))
   rw[txt_sgn_of HS.out (by
    rw[T.val_digs];have h1:=HSE.out;have h3:=HGE.out;rw[isNeg_eq,isNeg_eq] at h1;rw[isNeg_eq];unfold sgn;by_cases h2:a<0
    ·rw[decide_eq_true h2] at h1 ⊢;have:¬b<0:=fun h=>h1 (decide_eq_true h).symm
     simp;omega
    ·rw[decide_eq_false h2] at h1 ⊢
     have:b<0:=by
      rcases Int.lt_or_le b 0 with h | h
      ·exact h
      ·exact absurd (decide_eq_false (by omega)).symm h1
     simp;omega)]
   clear hb6;go_wp2_with fail
   go_returns;exact⟨rfl,HBW6.out⟩
  ·have hor:ordN a.natAbs b.natAbs<(0:Int):=by unfold ordN;split <;> (try split) <;> omega
   have HGE:Hid (a.natAbs <= b.natAbs):=lH (by omega);clear hge;go_wp2_with fail
   refine(rorder_walk v1 v2 _ _ _ HV1'.out HV2.out HFA.out.lt2 HFB.out.lt2).mono ?_;rintro e w4 ⟨rfl,hd⟩;have HBW4:=lH (HBW.out.trans (hd.below _));have HV1'':=lH (HV1'.out.below (hd.below _));have HV2'':=lH (HV2.out.below (hd.below _));clear hd HV1' HV2;go_wp2_with fail
   refine(rsign_walk b _).mono ?_;rintro e w1 ⟨rfl,rfl⟩;go_wp2_with fail
   refine(rminus_walk v2 v1 _ _ _ HV2''.out HV1''.out HFB.out.lt HGE.out).mono ?_;rintro e w5 ⟨v3,rfl,hv3,hb5⟩;have HV3:=lH hv3;have HBW5:=lH (HBW4.out.trans (hb5.mono HBW4.out.size));clear hv3 hb5;go_wp2_with fail
   refine(rtext_walk (isNeg b) v3 _ _ HV3.out (T.dig_digs _) (Nat.le_trans (T.digs_len_mono (Nat.sub_le _ _)) HFB.out.le)).mono ?_;rintro e w6 ⟨rfl,hb6⟩;have HBW6:=lH (HBW5.out.trans (hb6.mono HBW5.out.size))
   rw[txt_sgn_of HS.out (by
    rw[T.val_digs];have h1:=HSE.out;have h3:=HGE.out;rw[isNeg_eq,isNeg_eq] at h1;rw[isNeg_eq];unfold sgn;by_cases h2:b<0
    ·rw[decide_eq_true h2] at h1 ⊢;have:¬a<0:=fun h=>h1 (decide_eq_true h)
     simp;omega
    ·rw[decide_eq_false h2] at h1 ⊢
     have:a<0:=by
      rcases Int.lt_or_le a 0 with h | h
      ·exact h
      ·exact absurd (decide_eq_false (by omega)) h1
     simp;omega)]
   clear hb6;go_wp2_with fail
   go_returns;exact⟨rfl,HBW6.out⟩
theorem few_neg{a:Int}(h:Few a):Few (-a):=by unfold Few at*;rw[Int.natAbs_neg];exact h
theorem rsub_walk(a b:Int)(w:World)(ha:Few a)(hb:Few b):
  Calls Tryz.prog 125 #[.string (txt a), .string (txt b)] w fun e w'=>e= .returned (.string (txt (a-b))) /\ Below w.heap.size w w':=by
 have HFA:=lH ha;have HFB:=lH hb;clear ha hb;obtain⟨S,hS⟩:=eX (txt (a-b));rw[<- hS];have HS:=lH hS;clear hS;go_enter Tryz.func125,Tryz.ntmps125;go_wp2_with fail
 refine(rneg_walk b _ HFB.out).mono ?_;rintro e w2 ⟨rfl,hb1⟩;have HB1:=lH hb1;clear hb1;go_wp2_with fail
 refine(radd_walk a (-b) _ HFA.out (few_neg HFB.out)).mono ?_;rintro e w3 ⟨rfl,hb2⟩;have HB2:=lH (HB1.out.trans (hb2.mono HB1.out.size));rw[show txt (a+ -b)=S by rw[HS.out,Int.sub_eq_add_neg]];clear hb2;go_wp2_with fail
 go_returns;exact⟨rfl,HB2.out⟩
end
section
open Go.RowKit
def Row64(w:World)(g:Nat)(l:List Nat):Prop:=Row w g 3 (l.map dV)
section
variable {w w':World} {g:Nat} {l:List Nat}
theorem Row64.lt(h:Row64 w g l):g<w.heap.size:=Row.lt h
theorem Row64.cell(h:Row64 w g l){j:Nat}(hj:j<l.length): w.cell? ⟨g,j,none⟩=some (.int .i64 (dg l j:Nat)):=by
 rw[Row.cell h];exact dg_map hj
theorem Row64.free(h:Row64 w g l)(j:Nat): w.frozen? ⟨g,j,none⟩=false:=Row.free h j
theorem Row64.set(h:Row64 w g l)(j x:Nat){v:Value}(hv:v= .int .i64 (x:Nat)):Row64 (w.setCell ⟨g,j,none⟩ v) g (l.set j x):=by
 subst hv;have:=Row.set h j (dV x);unfold Row64;rw[List.map_set];exact this
theorem Row64.drewN(h:Row64 w g l)(n:Nat):Row64 (w.drewN n) g l:=h
theorem Row64.below(h:Row64 w g l){B:Nat}(hb:Below B w w')(hg:g<B):Row64 w' g l:=Row.below h hb hg
theorem Row64.made{n:Nat}(h:Row w g 3 (List.replicate n (Value.int .i64 0))):Row64 w g (List.replicate n 0):=by
 unfold Row64;rw[List.map_replicate];exact h
theorem Row64.isD(h:Row64 w g l){n:Nat}(hn:n=l.length)(hm:n <= maxLen):IsD w (.slice (some ⟨g,0,none⟩) n n) l:=by
 subst hn;refine⟨_,_,rfl,Nat.le_refl _,hm,?_⟩;exact .inr ⟨g,0,rfl,fun j hj=>by rw[Nat.zero_add];exact h.cell hj,_,_,_,h,fun z hz=>by simp at hz⟩
end
theorem dgT_zero{l:List Nat}{n j:Nat}(h:T.val l<T.BB^n)(hj:n <= j):dg l j=0:=by
 rcases Nat.lt_or_ge j l.length with h1 | h1
 ·have h2:=T.val_set l j 0 h1;have h3:T.BB^n <= T.BB^j:=Nat.pow_le_pow_right (by decide) hj
  rcases Nat.eq_zero_or_pos (dg l j) with h4 | h4
  ·exact h4
  ·have:=Nat.le_mul_of_pos_right (T.BB^j) h4;omega
 ·exact dg_ge h1
theorem rmul_inner{lo lo' lb:List Nat}{i k c x s V:Nat}(hi:i+k<lo'.length)(h:T.val lo'+T.BB^ (i+k)*c=V+T.BB^i* (x*T.val (lb.take k)))(hs:s=dg lo' (i+k)+c+x*dg lb k)
  (hh:∀j,i+k <= j -> dg lo' j=dg lo j):
  T.val (lo'.set (i+k) (s%10))+T.BB^ (i+ (k+1))* (s / 10)=V+T.BB^i* (x*T.val (lb.take (k+1))) /\ (∀j,i+ (k+1) <= j -> dg (lo'.set (i+k) (s%10)) j=dg lo j):=by
 refine⟨T.mul_step hi h (by rw[hs];omega),fun j hj=> ?_⟩;rw[dg_set,if_neg (by omega)];exact hh j (by omega)
theorem sgI_mul(a b:Int): -1 <= sgI a*sgI b /\ sgI a*sgI b <= 1 /\ sgn (decide (sgI a*sgI b<0)) (a.natAbs*b.natAbs)=a*b:=by
 obtain⟨n,rfl | rfl⟩:=Int.eq_nat_or_neg a <;> obtain⟨m,rfl | rfl⟩:=Int.eq_nat_or_neg b <;>
  rcases Nat.eq_zero_or_pos n with h | h <;> rcases Nat.eq_zero_or_pos m with h' | h' <;> simp[sgn,sgI,h,h',Int.natAbs_neg,Int.mul_neg,Int.neg_mul] <;> (try split) <;> (try split) <;> (try split) <;> (try split) <;> (try simp) <;> omega
def FewM(a:Int):Prop:=(T.digs a.natAbs).length<100000000
theorem FewM.few{a:Int}(h:FewM a):Few a:=Nat.lt_trans h (by decide)
end
section
open Go.RowKit
theorem owns_one(w:World)(e:TypeId)(x:Value):(w.alloc (.cells #[x] e)).ownsRow w.heap.size e 1 (.slice (some ⟨w.heap.size,0,none⟩) 1 1) 1 [x]:=
 ⟨rfl, .inr ⟨w.heap.size,1, #[x],rfl,Nat.le_refl _,heap_alloc_new w _,Nat.le_refl _,by unfold maxLen;omega,rfl,rfl⟩⟩
theorem wpList_prepend{P:Program}(w:World){ops:Array Oper}{rest:List Oper}{o:Oper}{a:Act}{Q:Exit -> Act -> World -> Prop}(hgd:o.guard=none)(s x:Operand)(t:TypeId)
  (ho:o.op= .call {callee:= .builtin .append,args:= #[s,x],argTypes:= #[t,t]})
  (e:TypeId) (i:TypeInfo) (z:Value) (bytes:Nat) (ht:P.underlying t=some (.slice e)) (hi: P.info? e=some i) (hz:i.zero=some z)
  (hsize:i.size=1) (hby:i.bytes=bytes) (hzs:z.cells.size=1)
  (u:Value) (hs:a.eval s= .slice (some ⟨w.heap.size,0,none⟩) 1 1)
  (B:Nat) (v:Value) (l:List Nat) (hf:FreshD B w v l) (hx:a.eval x=v) (hlen:1+l.length <= maxLen /\ (1+l.length)*bytes <= 140737488355328)
  (h:∀v' w',Owns1 w' w.heap.size e v' (u::l.map dV) -> Below w.heap.size w w' -> wpList P ops Q rest (a.put o.dst v') w'):wpList P ops Q (o::rest) a (w.alloc (.cells #[u] e)):=by
 have hb:=(boxes1 w (.cells #[u] e)).2.2;have hown:=owns_one w e u
 rcases hf with ⟨rfl,rfl⟩ | ⟨b,off,c,rfl,h0,h4,h1,h2,h3⟩
 ·refine wpList_append_own_none hgd s x t ho w.heap.size e i 1 ht hi _ 1 [u] hs hown hx ?_;exact h _ _ hown hb
 ·refine wpList_append_own _ hgd s x t ho w.heap.size e i z 1 bytes ht hi hz hsize hby hzs (by decide) _ 1 [u] hs hown ⟨b,off,none⟩ l.length c (l.map dV) hx (by simp) ?_ ?_ hlen.1 hlen.2 (by simp) ?_
  ·intro j y hj;have hjl:j<l.length:=by have:=(List.getElem?_eq_some_iff.1 hj).1;simpa using this
   rw[dg_map hjl] at hj;simp only[Option.some.injEq] at hj;subst hj;rw[Addr.add_lit]
   rcases h3 with h3 | ⟨b',off',hA,hc,_⟩
   ·omega
   ·simp only[Option.some.injEq,Addr.mk.injEq,and_true] at hA;obtain⟨rfl,rfl⟩:=hA;exact(hb.cell (p:=⟨b,off+j,none⟩) h4).trans (hc j hjl)
  ·intro y hy;rw[List.mem_map] at hy;obtain⟨d,_,rfl⟩:=hy;rfl
  ·intro v' w' hown' hgr _;refine h v' w' ?_ (hb.grown hgr hb.size (fun k hk=> ?_))
   ·unfold Owns1;rw[List.length_cons,List.length_map,Nat.add_comm];exact hown'
   ·simp[Value.ownBlock] at hk;omega
theorem div_round{lo la:List Nat}{j b r0 q r:Nat}(hj:j<la.length)(hlo:lo.length=la.length)(h:T.val (la.drop (j+1))=b*T.val (lo.drop (j+1))+r0)(hq:b*q+r=dg la j+10*r0):
  T.val (la.drop j)=b*T.val ((lo.set j q).drop j)+r:=by
 rw[T.val_drop _ _ hj,T.val_drop_set _ _ _ (by omega),h];simp only[T.BB_eq];rw[Nat.mul_add,Nat.mul_add,Nat.mul_left_comm b 10];omega
theorem val_cons10(d:Nat)(n:Nat):T.val (d::T.digs n)=d+10*n:=by rw[T.val,T.val_digs];rfl
theorem fdiv_text{a b:Int}(hb:b≠0)(p:Int)(hp:sgI a*sgI b=p):sgn (decide (p<0)) (a.natAbs / b.natAbs)=sgn (decide (a<0) !=decide (b<0)) (a.natAbs / b.natAbs):=by
 subst hp;by_cases ha0:a=0
 ·subst ha0;simp[sgn]
 ·congr 1;have h1:sgI a=if a<0 then -1 else 1:=by unfold sgI;rw[if_neg ha0]
  have h2:sgI b=if b<0 then -1 else 1:=by unfold sgI;rw[if_neg hb]
  rw[h1,h2];by_cases h3:a<0 <;> by_cases h4:b<0 <;> simp[h3,h4]
end
end Go.Proofs.YtdefghfjhgmpfaaGreatDoor
