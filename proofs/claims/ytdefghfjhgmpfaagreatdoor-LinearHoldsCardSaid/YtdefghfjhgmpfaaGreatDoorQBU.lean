/- Parts of this proof: TDot QHolds WithL. -/
import Derived.Test.YtdefghfjhgmpfaaGreatDoorQAE
import Derived.Test.YtdefghfjhgmpfaaGreatDoorQAY
import Derived.Test.YtdefghfjhgmpfaaGreatDoorQAS
import Derived.Test.YtdefghfjhgmpfaaGreatDoorQBI
import Derived.Test.YtdefghfjhgmpfaaGreatDoorQAR
import Derived.Test.YtdefghfjhgmpfaaGreatDoorQBL
import Derived.Test.YtdefghfjhgmpfaaGreatDoorQBB
import Derived.Test.YtdefghfjhgmpfaaGreatDoorQBM
namespace Go.Proofs.YtdefghfjhgmpfaaGreatDoor
section
open Go.RowKit
open Lp (RL upd Dict)
theorem dot_rl{n Ka Kb:Nat}{a b:Nat -> Rat}(ha:∀j,j<n -> RL Ka (a j))(hb:∀j,j<n -> RL Kb (b j)):∀k,k <= n -> RL (1+k* (Ka+Kb+1)) (Lp.dotN k a b)
 | 0,_=>RL.zero.mono (by omega)
 | k+1,hk=>by
  have h:=(dot_rl ha hb k (by omega)).add ((ha k (by omega)).mul (hb k (by omega)));exact RL.mono h (by rw[Nat.succ_mul];omega)
theorem cmpQ_pos{a b:Rat}:(0<cmpQ a b)↔¬a <= b:=by
 unfold cmpQ;by_cases h:a<b
 ·rw[if_pos h];exact⟨fun h=>absurd h (by decide),fun h2=>absurd (Rat.le_of_lt h) h2⟩
 ·rw[if_neg h];by_cases h2:a=b
  ·rw[if_pos h2];exact⟨fun h=>absurd h (by decide),fun h3=>absurd (by grind) h3⟩
  ·rw[if_neg h2];exact⟨fun _=>by grind,fun _=>by decide⟩
theorem qtxt0:qtxt 0=⟨#[48]⟩:=by kernel_rfl
set_option maxRecDepth 100000 in
set_option maxHeartbeats 3200000 in
theorem tdot_walk(va vb:Value)(n nb:Nat)(a b:Nat -> Rat)(Ka Kb Kq:Nat)(w:World)(ha:TS w va n (fun j=>qtxt (a j)))(hb:TS w vb nb (fun j=>qtxt (b j)))(hn:n <= nb)(hnn:nb <= 1000000000)(hla:∀j,j<n -> RL Ka (a j))(hlb:∀j,j<n -> RL Kb (b j))(hK:1+n* (Ka+Kb+1) <= Kq /\ Ka <= Kq /\ Kb <= Kq)(hk:4*Kq <= 1000000):
  Calls Tryz.prog 78 #[va,vb] w fun e w'=>e= .returned (.string (qtxt (Lp.dotN n a b))) /\ Below w.heap.size w w':=by
 obtain⟨A,c,rfl,_,_⟩:=ha.shape;obtain⟨B,d,rfl,_,_⟩:=hb.shape;have HA:=lH ha;have HBT:=lH hb;have HN:=lH (And.intro hn hnn);have HD:Hid (∀k,k <= n -> RL Kq (Lp.dotN k a b)):=lH (fun k hk=>(dot_rl hla hlb k hk).mono (by have:=Nat.mul_le_mul_right (Ka+Kb+1) hk;omega));have HM:Hid (∀k,k<n -> RL Kq (a k*b k)):=lH (fun k hk=>((hla k hk).mul (hlb k hk)).mono (by have:1* (Ka+Kb+1) <= n* (Ka+Kb+1):=Nat.mul_le_mul_right _ (by omega);omega));have HLA:Hid (∀k,k<n -> RL Kq (a k)):=lH (fun k hk=>(hla k hk).mono hK.2.1);have HLB:Hid (∀k,k<n -> RL Kq (b k)):=lH (fun k hk=>(hlb k hk).mono hK.2.2);have HK:=lH hk;clear ha hb hla hlb hK hk;go_enter Tryz.func78,Tryz.ntmps78;go_wp2_with fail
 go_loopw [5,6] (fun sv iv wr=>∃q:Nat,q <= n /\ sv= .string (qtxt (Lp.dotN q a b)) /\ iv= .int .i64 q /\ Below w.heap.size w wr)
  (fun _ iv _=>n-(intOf iv).toNat)
 case atStart=>exact⟨0,Nat.zero_le _,by rw[show Lp.dotN 0 a b=0 from rfl,qtxt0],rfl,Below.refl _ _⟩
 case round=>
  obtain⟨q,hq,rfl,rfl,hbw⟩:=hrel;have HB:=lH hbw;clear hbw;by_cases hqn:((q:Nat):Int)<((n:Nat):Int)
  ·have hqn1:q<n:=by omega
   have hqb1:((q:Nat):Int)<((nb:Nat):Int):=by omega
   obtain⟨gA,oA,rfl,hca⟩:=HA.out.at_ (by omega);obtain⟨gB,oB,rfl,hcb⟩:=HBT.out.at_ (by omega);have CA:=lH (cell_below HB.out (hca q hqn1));have CB:=lH (cell_below HB.out (hcb q (by omega)));clear hca hcb;go_wp2_with fail
   have HRG:=rG wr;have glCA:=cell_lt CA.out;have g0CA:=CA.out;have glCB:=cell_lt CB.out;have g0CB:=CB.out;have KS:=lH (kC g0CA (kN g0CB));clear glCA g0CA glCB g0CB;refine rL KS.out (fun i=>false) ?_;have hh:=KS.out _ HRG.out;refine tKs 0 13 hh ?_;refine tKs 1 14 hh ?_;refine tKs 2 15 hh ?_;refine tKs 3 16 hh ?_;refine tKs 4 17 hh ?_;refine tKs 5 18 hh ?_;refine tKs 6 19 hh ?_;refine tKs 7 20 hh ?_;refine tKs 8 21 hh ?_;refine rD 9 (fun K hK=> ?_);go_simp;refine(tmul_walk (a q) (b q) Kq _ (HLA.out q hqn1) (HLB.out q hqn1) HK.out).mono ?_;rintro e w3 ⟨rfl,hb3⟩;have hb3:Below wr.heap.size wr w3:=bD hb3;replace CA:=lH (cell_below hb3 CA.out);replace CB:=lH (cell_below hb3 CB.out);replace HB:=bT HB hb3;replace HRG:=bT HRG hb3;clear hh hb3;have hh:=KS.out _ HRG.out;refine kH hK hh ?_;clear hK K;refine rD 10 (fun K hK=> ?_);go_simp;refine(tadd_walk (Lp.dotN q a b) (a q*b q) Kq _ (HD.out q (by omega)) (HM.out q hqn1) HK.out).mono ?_;rintro e w4 ⟨rfl,hb4⟩;have hb4:Below w3.heap.size w3 w4:=bD hb4;replace CA:=lH (cell_below hb4 CA.out);replace CB:=lH (cell_below hb4 CB.out);replace HB:=bT HB hb4;replace HRG:=bT HRG hb4;clear hh hb4;have hh:=KS.out _ HRG.out;refine kH hK hh ?_;clear hK K;refine tKs 11 5 hh ?_;refine dN ?_ _;clear hh KS HRG;go_wp2_with fail
   go_roundw
   case rel=>exact⟨q+1,by omega,by rw[show Lp.dotN (q+1) a b=Lp.dotN q a b+a q*b q from rfl],by go_num,HB.out⟩
   case measure=>exact mZ
  ·obtain rfl:n=q:=by omega
   go_wp2_with fail
   go_returns;exact⟨rfl,HB.out⟩
set_option maxRecDepth 100000 in
set_option maxHeartbeats 3200000 in
theorem tholds_walk(va vr:Value)(n m:Nat)(k:Nat -> Nat)(s:Nat -> ByteArray)(t:Nat -> Nat -> ByteArray)(b:Nat -> ByteArray)(x:Nat -> Rat)(A:Nat -> Nat -> Rat)(bq:Nat -> Rat)(Ka Kb Kq:Nat)(w:World)(ha:TS w va n s)(hr:TRows w vr m k t b)(hs:∀j,j<n -> s j=qtxt (x j))(hkn:∀i,i<m -> k i=n)(ht:∀i,i<m -> ∀j,j<n -> t i j=qtxt (A i j))(hbb:∀i,i<m -> b i=qtxt (bq i))(hnn:n <= 1000000000)(hmm:m <= 1000000000)(hlA:∀i,i<m -> ∀j,j<n -> RL Ka (A i j))(hlx:∀j,j<n -> RL Kb (x j))(hlb:∀i,i<m -> RL Kq (bq i))(hK:1+n* (Ka+Kb+1) <= Kq /\ Ka <= Kq /\ Kb <= Kq)(hk:4*Kq <= 1000000):
  Calls Tryz.prog 45 #[va,vr] w fun e w'=>((Lp.HoldsN m n A bq x /\ e= .returned (.bool true)) \/ (¬Lp.HoldsN m n A bq x /\ e= .returned (.bool false))) /\ Below w.heap.size w w':=by
 obtain⟨AX,c,rfl,_,_⟩:=ha.shape;obtain⟨AR,cR,rfl,_,_⟩:=hr.shape;have HX:=lH (ha.congr hs);have HR:=lH hr;have HT:=lH (And.intro hkn (And.intro ht hbb));have HLA:=lH hlA;have HLX:=lH hlx;have HLB:=lH hlb;have HK:=lH (And.intro hK hk);have HN:=lH hnn;clear ha hr hs hkn ht hbb hlA hlx hlb hK hk;go_enter Tryz.func45,Tryz.ntmps45;go_wp2_with fail
 go_loopw [5] (fun iv wr=>∃q:Nat,q <= m /\ iv= .int .i64 q /\ Hid (∀i,i<q -> Lp.dotN n (A i) x <= bq i) /\ Below w.heap.size w wr)
  (fun iv _=>m-(intOf iv).toNat)
 case atStart=>exact⟨0,Nat.zero_le _,rfl,lH (fun i hi=>absurd hi (by omega)),Below.refl _ _⟩
 case round=>
  obtain⟨q,hq,rfl,hz,hbw⟩:=hrel;have HZ:=lH hz.out;have HB:=lH hbw;clear hz hbw;by_cases hqn:((q:Nat):Int)<((m:Nat):Int)
  ·have hqn1:q<m:=by omega
   obtain⟨gR,oR,rfl,hcs⟩:=HR.out.at_ (by omega);obtain⟨u,hc1,hc2,hts⟩:=hcs q hqn1;rw[HT.out.1 q hqn1] at hts;rw[HT.out.2.2 q hqn1] at hc2;obtain⟨Y,y,rfl,_,_⟩:=hts.shape;have HTS:=lH ((hts.congr (HT.out.2.1 q hqn1)).below HB.out);have C1:=lH (cell_below HB.out hc1);have C2:=lH (cell_below HB.out hc2);have HDR:Hid (RL Kq (Lp.dotN n (A q) x)):=lH ((dot_rl (HLA.out q hqn1) HLX.out n (Nat.le_refl _)).mono HK.out.1.1);clear hcs hc1 hc2 hts;obtain⟨zb,hzb⟩:∃z:Bool,z=decide (0<cmpQ (Lp.dotN n (A q) x) (bq q)):=⟨_,rfl⟩
   have HXR:=lH (HX.out.below HB.out);go_wp2_with fail
   have HRG:=rG wr;have glC1:=cell_lt C1.out;have g0C1:=C1.out;have glC2:=cell_lt C2.out;have g0C2:=C2.out;have KS:=lH (kC g0C1 (kN g0C2));clear glC1 g0C1 glC2 g0C2;refine rL KS.out (fun i=>false) ?_;have hh:=KS.out _ HRG.out;refine tKs 0 12 hh ?_;refine tKs 1 13 hh ?_;refine tKs 2 14 hh ?_;refine tKs 3 15 hh ?_;refine tKs 4 16 hh ?_;refine tKs 5 17 hh ?_;refine tKs 7 19 hh ?_;refine tKs 8 20 hh ?_;refine tKs 9 21 hh ?_;refine tKs 10 22 hh ?_;refine tKs 11 23 hh ?_;refine rD 6 (fun K hK=> ?_);go_simp;refine(tdot_walk _ _ n n (A q) x Ka Kb Kq _ (by exact HTS.out) (by exact HXR.out) (Nat.le_refl _) HN.out (HLA.out q hqn1) HLX.out HK.out.1 HK.out.2).mono ?_;rintro e w3 ⟨rfl,hb3⟩;have hb3:Below wr.heap.size wr w3:=bD hb3;replace HTS:=lH (HTS.out.below hb3);replace HXR:=lH (HXR.out.below hb3);replace C1:=lH (cell_below hb3 C1.out);replace C2:=lH (cell_below hb3 C2.out);replace HB:=bT HB hb3;replace HRG:=bT HRG hb3;clear hh hb3;have hh:=KS.out _ HRG.out;refine kH hK hh ?_;clear hK K;refine rD 12 (fun K hK=> ?_);go_simp;refine(tcmp_walk (Lp.dotN n (A q) x) (bq q) Kq _ HDR.out (HLB.out q hqn1) HK.out.2).mono ?_;rintro e w4 ⟨rfl,hb4⟩;have hb4:Below w3.heap.size w3 w4:=bD hb4;replace HTS:=lH (HTS.out.below hb4);replace HXR:=lH (HXR.out.below hb4);replace C1:=lH (cell_below hb4 C1.out);replace C2:=lH (cell_below hb4 C2.out);replace HB:=bT HB hb4;replace HRG:=bT HRG hb4;clear hh hb4;have hh:=KS.out _ HRG.out;refine kH hK hh ?_;clear hK K;refine wpAnyE_taked (i:=13) (v:= .bool zb) (some 25) rfl (by rfl) (by kernel_rfl) (by kernel_rfl) (by kernel_rfl) (by kernel_rfl) (fun _ _ _ h=>h) (Or.inl ⟨by rfl,?_⟩) hh ?_
   ·(intro w' hSw;clear hSw;go_simp;(first | done | (rw[hzb];done) | (rw[hzb];rfl) | (simp[hzb];done)))
   simp only[Act.put,List.setIfInBounds_toArray,List.set_cons_zero,List.set_cons_succ];refine dN ?_ _;clear hh KS HRG;by_cases h0:Lp.dotN n (A q) x <= bq q
   ·have hcd:zb=false:=hzb.trans (decide_eq_false (fun h=>cmpQ_pos.1 h h0));clear hzb;subst hcd;have HC:=lH h0;clear h0;go_wp2_with fail
    go_roundw
    case rel=>exact⟨q+1,by omega,by go_num,lH (fun i hi=>by by_cases e:i=q;subst e;exact HC.out;exact HZ.out i (by omega)),HB.out⟩
    case measure=>exact mZ
   ·have hcd:zb=true:=hzb.trans (decide_eq_true (cmpQ_pos.2 h0));clear hzb;subst hcd;have HC:Hid (¬Lp.HoldsN m n A bq x):=lH (fun h=>h0 (h q hqn1));clear h0;go_wp2_with fail
    go_returns;exact⟨.inr ⟨HC.out,rfl⟩,HB.out⟩
  ·obtain rfl:m=q:=by omega
   go_wp2_with fail
   go_returns;exact⟨.inl ⟨HZ.out,rfl⟩,HB.out⟩
end
section
open Go.RowKit
open Lp (RL upd Dict)
set_option maxRecDepth 100000 in
set_option maxHeartbeats 3200000 in
theorem qholds_walk(AC AR AD AX:Option Addr)(n m cC cR cD cX:Nat)(A:Nat -> Nat -> Rat)(bq x:Nat -> Rat)(w:World)(hA:IsRows w (.slice AR m cR) m n A)(hD:IsRats w (.slice AD m cD) m bq)(hx:IsRats w (.slice AX n cX) n x)(hm:m <= 1000000000)
  (hlA:∀i,i<m -> ∀j,j<n -> RL 400000000000 (A i j)) (hlx:∀j,j<n -> RL 400000000000 (x j)) (hlb:∀i,i<m -> RL 1000000000000 (bq i)) (hld:∀i,i<m -> ∀k,k <= n -> RL 1000000000000 (Lp.dotN k (A i) x)):
  Calls Tryz.prog 83 #[.agg #[.slice AC n cC, .slice AR m cR, .slice AD m cD], .slice AX n cX] w fun e w'=>((Lp.HoldsN m n A bq x /\ e= .returned (.bool true)) \/ (¬Lp.HoldsN m n A bq x /\ e= .returned (.bool false))) /\ Below w.heap.size w w':=by
 have HA:=lH hA;have HD:=lH hD;have HX:=lH hx;have HLA:=lH hlA;have HLX:=lH hlx;have HLB:=lH hlb;have HLD:=lH hld;clear hA hD hx hlA hlx hlb hld;obtain⟨W,hW,PB,HB⟩:=eN1 w [.slice AC n cC, .slice AR m cR, .slice AD m cD] 98;go_enter Tryz.func83,Tryz.ntmps83;obtain⟨p0,p1,p2⟩:=aT3 PB.out;have pl:=PB.out.lt;rw[hW] at p0 p1 p2 pl;go_wp2_with fail
 rw[<- hW];clear hW p0 p1 p2 pl;have PB0:=PB;have HB0:=HB;clear PB HB
 go_loopw [10] (fun iv wr=>∃q:Nat,q <= m /\ iv= .int .i64 q /\ Hid (∀i,i<q -> Lp.dotN n (A i) x <= bq i) /\ Below W.heap.size W wr)
  (fun iv _=>m-(intOf iv).toNat)
 case atStart=>exact⟨0,Nat.zero_le _,rfl,lH (fun i hi=>absurd hi (by omega)),Below.refl _ _⟩
 case round=>
  obtain⟨q,hq,rfl,hz,hbw⟩:=hrel;have HZ:=lH hz.out;have HBW:=lH hbw;have PB:=lH (PB0.out.below hbw PB0.out.lt);have HB:=lH (HB0.out.trans (hbw.mono HB0.out.size));clear hz hbw;by_cases hqn:((q:Nat):Int)<((m:Nat):Int)
  ·have hqn1:q<m:=by omega
   have hqi:((q:Nat):Int) <= 1000000000:=by omega
   obtain⟨gR,rfl,hcs⟩:=HA.out.at_ (by omega);obtain⟨X,y,hc1,_,hrr⟩:=hcs q hqn1;have HRR:=lH (hrr.below HB.out);obtain⟨gD,rfl,hrd⟩:=HD.out.at_ (by omega);have hrd2:=hrd.below HB.out;obtain⟨sz,Az,lz,cz,tz,Bz,mz,dz,hQy,hvy⟩:=hrd2.quad hqn1;have QB:=lH hQy;have Vz:=lH hvy;have c1:=cell_below HB.out hc1;have cl:=cell_lt c1;clear hcs hc1 hrr hrd hrd2 hQy hvy;have HXR:=lH (HX.out.below HB.out);go_wp2_with fail
   clear c1 cl;obtain⟨zb,hzb⟩:∃z:Bool,z=decide (0<cmpQ (Lp.dotN n (A q) x) (bq q)):=⟨_,rfl⟩
   go_wp2_with fail
   have HRG:=rG wr;have glPB:=PB.out.lt;obtain⟨g0PB,g1PB,g2PB⟩:=aT3 PB.out;have glQB:=QB.out.lt;obtain⟨g0QB,g1QB,g2QB,g3QB⟩:=QB.out;have KS:=lH (kC g0PB (kC g1PB (kC g2PB (kC g0QB (kC g1QB (kC g2QB (kN g3QB)))))));clear glPB g0PB g1PB g2PB glQB g0QB g1QB g2QB g3QB;refine rL KS.out (fun i=>false) ?_;have hh:=KS.out _ HRG.out;refine tKs 0 15 hh ?_;refine tKs 1 16 hh ?_;refine tKs 3 18 hh ?_;refine tKs 4 19 hh ?_;refine tKs 5 20 hh ?_;refine tKs 6 21 hh ?_;refine tKs 7 22 hh ?_;refine rD 2 (fun K hK=> ?_);go_simp;refine(dot_walk _ _ n n (A q) x _ (by exact HRR.out) (by exact HXR.out) (Nat.le_refl _) (HLA.out q hqn1) HLX.out (HLD.out q hqn1)).mono ?_;rintro e w3 ⟨vd,rfl,hvd,hb3⟩;have hb3:Below wr.heap.size wr w3:=bD hb3;replace Vz:=lH (Vz.out.below hb3);replace PB:=rW PB hb3;replace QB:=lH (QB.out.below hb3);replace HRR:=lH (HRR.out.below hb3);replace HXR:=lH (HXR.out.below hb3);replace HB:=bT HB hb3;replace HRG:=bT HRG hb3;replace HBW:=lH (HBW.out.trans (hb3.mono HBW.out.size));obtain⟨sd,Ad,ld,cd,td,Bd,md,dd,rfl⟩:=hvd.shape;have Vd:=lH hvd;clear hvd;clear hh hb3;have hh:=KS.out _ HRG.out;refine kH hK hh ?_;clear hK K;refine rD 8 (fun K hK=> ?_);go_simp;refine(rcmpq_walk _ _ (Lp.dotN n (A q) x) (bq q) _ (by exact Vd.out) (by exact Vz.out) (HLD.out q hqn1 n (Nat.le_refl _)) (HLB.out q hqn1)).mono ?_;rintro e w4 ⟨rfl,hb4⟩;have hb4:Below w3.heap.size w3 w4:=bD hb4;replace Vz:=lH (Vz.out.below hb4);replace PB:=rW PB hb4;replace QB:=lH (QB.out.below hb4);replace HRR:=lH (HRR.out.below hb4);replace HXR:=lH (HXR.out.below hb4);replace HB:=bT HB hb4;replace HRG:=bT HRG hb4;replace HBW:=lH (HBW.out.trans (hb4.mono HBW.out.size));clear hh hb4;have hh:=KS.out _ HRG.out;refine kH hK hh ?_;clear hK K;refine wpAnyE_taked (i:=9) (v:= .bool zb) (some 24) rfl (by rfl) (by kernel_rfl) (by kernel_rfl) (by kernel_rfl) (by kernel_rfl) (fun _ _ _ h=>h) (Or.inl ⟨by rfl,?_⟩) hh ?_
   ·(intro w' hSw;clear hSw;go_simp;(first | done | (rw[hzb];done) | (rw[hzb];rfl) | (simp[hzb];done)))
   simp only[Act.put,List.setIfInBounds_toArray,List.set_cons_zero,List.set_cons_succ];refine dN ?_ _;clear hh KS HRG;by_cases h0:Lp.dotN n (A q) x <= bq q
   ·have hcd:zb=false:=hzb.trans (decide_eq_false (fun h=>cmpQ_pos.1 h h0));clear hzb;subst hcd;have HC:=lH h0;clear h0;go_wp2_with fail
    go_roundw
    case rel=>exact⟨q+1,by omega,by go_num,lH (fun i hi=>by by_cases e:i=q;subst e;exact HC.out;exact HZ.out i (by omega)),HBW.out⟩
    case measure=>exact mZ
   ·have hcd:zb=true:=hzb.trans (decide_eq_true (cmpQ_pos.2 h0));clear hzb;subst hcd;have HC:Hid (¬Lp.HoldsN m n A bq x):=lH (fun h=>h0 (h q hqn1));clear h0;go_wp2_with fail
    go_returns;exact⟨.inr ⟨HC.out,rfl⟩,HB.out⟩
  ·obtain rfl:m=q:=by omega
   go_wp2_with fail
   go_returns;exact⟨.inl ⟨HZ.out,rfl⟩,HB.out⟩
end
section
open Go.RowKit
open Lp (RL upd Dict)
def WithR(w':World)(v:Int)(m:Nat)(k:Nat -> Nat)(t:Nat -> Nat -> ByteArray)(b:Nat -> ByteArray)(e:Ending):Prop:=
 ((v<0 \/ 96<v) /\ e= .returned (.tuple #[.agg #[.slice none 0 0, .slice none 0 0, .slice none 0 0], .int .i64 2])) \/ (0 <= v /\ v <= 96 /\ ParseR w' v.toNat m k (fun _=>⟨#[48]⟩) t b e)
theorem IsRows.other{w w':World}{v:Value}{m n:Nat}{A:Nat -> Nat -> Rat}{g:Nat}{e:TypeId}{cs:List Value}(h:IsRows w v m n A)(hi:RowsIn w v m)(hg:w.grownBy w' (some g))(hr:Row w g e cs)(he:e≠160)(hq:e≠105)(hs:e≠95):IsRows w' v m n A /\ RowsIn w' v m:=by
 obtain⟨A',c,rfl,h1,h2,h3⟩:=h
 rcases hi with hi | ⟨x,c2,cs2,hv,hrow⟩
 ·subst hi;exact⟨⟨A',c,rfl,h1,h2, .inl rfl⟩, .inl rfl⟩
 ·have hne:x≠g:=ne_ty hrow hr (fun e=>hs e.symm);refine⟨⟨A',c,rfl,h1,h2,?_⟩, .inr ⟨x,c2,cs2,hv,hrow.other hg hne⟩⟩
  rcases h3 with h3 | ⟨y,hy,hc⟩
  ·exact .inl h3
  ·obtain rfl:y=x:=by
    rw[hy] at hv;simp only[Value.slice.injEq,Option.some.injEq,Addr.mk.injEq,and_true] at hv;exact hv.1
   refine .inr ⟨y,hy,fun i hi=> ?_⟩;obtain⟨X,z,a1,a2,a3⟩:=hc i hi;exact⟨X,z,cell_other hg hne a1,a2,a3.other hg hr he hq⟩
theorem ParseR.other{w w':World}{n m:Nat}{k:Nat -> Nat}{o:Nat -> ByteArray}{t:Nat -> Nat -> ByteArray}{b:Nat -> ByteArray}{e:Ending}{g:Nat}{cs:List Value}(h:ParseR w n m k o t b e)(hg:w.grownBy w' (some g))(hr:Row w g 98 cs):ParseR w' n m k o t b e:=by
 rcases h with h | ⟨h0,AC,AR,AD,cC,cR,cD,A,bq,c,he,hc,hA,hD,hP,hI⟩
 ·exact .inl h
 ·have hx:=hA.other hI hg hr (by decide) (by decide) (by decide);exact .inr ⟨h0,AC,AR,AD,cC,cR,cD,A,bq,c,he,hc.other hg hr (by decide) (by decide),hx.1,hD.other hg hr (by decide) (by decide),hP,hx.2⟩
theorem ParseR.form{w:World}{n m:Nat}{k:Nat -> Nat}{o:Nat -> ByteArray}{t:Nat -> Nat -> ByteArray}{b:Nat -> ByteArray}{e:Ending}(h:ParseR w n m k o t b e):∃AC n1 cC AR m1 cR AD m2 cD z,e= .returned (.tuple #[.agg #[.slice AC n1 cC, .slice AR m1 cR, .slice AD m2 cD], .int .i64 z]):=by
 rcases h with ⟨_,h⟩ | ⟨_,AC,AR,AD,cC,cR,cD,_,_,_,h,_⟩
 ·exact⟨_,_,_,_,_,_,_,_,_,_,h⟩
 ·exact⟨_,_,_,_,_,_,_,_,_,_,h⟩
def RowsFit(m:Nat)(k:Nat -> Nat)(t:Nat -> Nat -> ByteArray)(b:Nat -> ByteArray):Prop:=m <= 1000000000 /\ (∀i,i<m -> ∀j,j<k i -> (t i j).size <= 65536) /\ ∀i,i<m -> (b i).size <= 65536
set_option maxRecDepth 100000 in
set_option maxHeartbeats 6400000 in
theorem with_walk(v:Int)(AR:Option Addr)(m cR:Nat)(k:Nat -> Nat)(t:Nat -> Nat -> ByteArray)(b:Nat -> ByteArray)(w:World)(hr:TRows w (.slice AR m cR) m k t b)(hf:RowsFit m k t b)(hg:Glob w):
  Calls Tryz.prog 63 #[.int .i64 v, .slice AR m cR] w fun e w'=>WithR w' v m k t b e /\ Below w.heap.size w w':=by
 have HR:=lH hr;have HF:=lH hf;have HGL:=lH hg;clear hr hf hg;obtain⟨W,hW,RO,HB⟩:=eN1 w [.slice none 0 0, .slice none 0 0, .slice none 0 0] 98;go_enter Tryz.func63,Tryz.ntmps63;by_cases h0:v<0
 ·have HV:Hid (v<0 \/ 96<v):=lH (.inl h0);have hd0:decide (v<0)=true:=decide_eq_true h0;obtain⟨r0,f0,r1,f1,r2,f2⟩:=aF3 RO.out;have rl:=RO.out.lt;rw[hW] at r0 r1 r2 f0 f1 f2 rl;go_wp2_with fail
  rw[<- hW];clear hW rl r0 f0 r1 f1 r2 f2;obtain⟨k0,k1,k2⟩:=aT3 RO.out;refine bodyPost_ret (v:= .tuple #[.agg #[.slice none 0 0, .slice none 0 0, .slice none 0 0], .int .i64 2]) (by simp[results,Tryz.results63,go_sem,k0,k1,k2]) rfl ?_;exact⟨.inl ⟨HV.out,rfl⟩,HB.out⟩
 ·by_cases h96:96<v
  ·have HV:Hid (v<0 \/ 96<v):=lH (.inr h96);have hd0:decide (v<0)=false:=decide_eq_false h0;have hd1:decide (96<v)=true:=decide_eq_true h96;obtain⟨r0,f0,r1,f1,r2,f2⟩:=aF3 RO.out;have rl:=RO.out.lt;rw[hW] at r0 r1 r2 f0 f1 f2 rl;go_wp2_with fail
   rw[<- hW];clear hW rl r0 f0 r1 f1 r2 f2;obtain⟨k0,k1,k2⟩:=aT3 RO.out;refine bodyPost_ret (v:= .tuple #[.agg #[.slice none 0 0, .slice none 0 0, .slice none 0 0], .int .i64 2]) (by simp[results,Tryz.results63,go_sem,k0,k1,k2]) rfl ?_;exact⟨.inl ⟨HV.out,rfl⟩,HB.out⟩
  ·obtain⟨n,rfl⟩:∃n:Nat,v=n:=⟨v.toNat,by omega⟩
   have hd0:decide (((n:Nat):Int)<0)=false:=decide_eq_false h0;have hd1:decide ((96:Int)<((n:Nat):Int))=false:=decide_eq_false h96;have hd2:decide (96<n)=false:=decide_eq_false (by omega);have hn:n <= 96:=by omega
   have HN96:=lH hn;clear h0 h96;have rl:=RO.out.lt;rw[hW] at rl
   go_wp2_with (at_make;refine wpList_mkN _ rfl (.tmp 15) (.tmp 15) rfl _ _ n rfl rfl rfl rfl (by omega) ?_)
   rw[<- hW];have hsz:W.heap.size=w.heap.size+1:=by rw[hW];simp
   clear hW rl;intro w1 hrb hb1 hs1;rw[<- hsz] at hrb hb1 hs1 ⊢;clear hsz;obtain⟨gN,hgN⟩:=eX (W.heap.size);rw[<- hgN] at hrb ⊢;have HGN:Hid (w.heap.size<gN):=lH (by rw[hgN];exact RO.out.lt);have BG0:=lH hrb;have HB0:=lH (HB.out.trans (hb1.mono HB.out.size));have RO0:=lH (RO.out.below hb1 RO.out.lt);clear hrb hb1 hs1 hgN HB RO;go_wp2_with fail
   go_loopw [19] (fun iv wr=>∃q:Nat,q <= n /\ iv= .int .i64 q /\ SK wr gN n (fun j=>if j<q then⟨#[48]⟩ else⟨#[]⟩) /\ Row wr w.heap.size 98 [.slice none 0 0, .slice none 0 0, .slice none 0 0] /\ Below w.heap.size w wr)
    (fun iv _=>n-(intOf iv).toNat)
   case atStart=>exact⟨0,Nat.zero_le _,rfl,BG0.out.congr (fun j _=>by rw[if_neg (by omega)]),RO0.out,HB0.out⟩
   case round=>
    clear BG0 HB0 RO0;obtain⟨q,hq,rfl,hbg,hro,hbw⟩:=hrel;have BG:=lH hbg;have RO:=lH hro;have HB:=lH hbw;clear hbg hro hbw;by_cases hqn:((q:Nat):Int)<(n:Nat)
    ·have hqn1:q<n:=by omega
     have hgn:=HGN.out;have kg:=BG.out.at_ hqn1;have fg:=BG.out.free q;have kl:=BG.out.lt;have hg:World.grownBy wr (wr.setCell ⟨gN,q,none⟩ (.string ⟨#[48]⟩)) (some gN):=grownBy_set _ _ _ _;have BN:=BG.out.set (x:=⟨#[48]⟩) hqn1;have RN:=RO.out.other hg (by omega);have HBN:=HB.out.grown hg HB.out.size (by first | (simp;done) | (simp;omega));go_wp2_with fail
     clear kg fg kl;go_roundw
     case rel=>
      refine⟨q+1,by omega,by simp,BN.congr (fun j hj=> ?_),RN,HBN⟩;by_cases e:j=q
      ·subst e;rw[Lp.upd_same,if_pos (by omega)]
      ·rw[Lp.upd_other _ _ e];by_cases e2:j<q
       ·rw[if_pos e2,if_pos (by omega)]
       ·rw[if_neg e2,if_neg (by omega)]
     case measure=>exact mZ
    ·obtain rfl:n=q:=by omega
     have HTS:Hid (TS wr (.slice (some ⟨gN,0,none⟩) n n) n (fun _=>⟨#[48]⟩)):=lH ((BG.out.congr (fun j hj=>if_pos hj)).ts (Nat.le_refl _) (by unfold maxLen;omega));clear BG;go_wp2_with fail
     refine(parse_walk (some ⟨gN,0,none⟩) AR n m n cR k (fun _=>⟨#[48]⟩) t b _ HTS.out (HR.out.below HB.out) (by omega) HF.out.1 (fun j _=>by show(1:Nat) <= 65536;omega) HF.out.2.1 HF.out.2.2 (HGL.out.below HB.out)).mono ?_;rintro e w3 ⟨hr,hb3⟩;obtain⟨AC,n1,cC,AS,m1,cS,AD,m2,cD,z,rfl⟩:=hr.form;have HP:=lH hr;replace RO:=rW RO hb3;replace HB:=bT HB hb3;clear hb3 hr;obtain⟨r0,f0,r1,f1,r2,f2⟩:=aF3 RO.out;have rl:=RO.out.lt;go_wp2_with fail
     clear rl r0 f0 r1 f1 r2 f2;have hg:World.grownBy w3 (((w3.setCell ⟨w.heap.size,0,none⟩ (.slice AC n1 cC)).setCell ⟨w.heap.size,1,none⟩ (.slice AS m1 cS)).setCell ⟨w.heap.size,2,none⟩ (.slice AD m2 cD)) (some w.heap.size):=grownBy_trans (grownBy_trans (grownBy_set _ _ _ _) (grownBy_set _ _ _ _)) (grownBy_set _ _ _ _);have RE:Row (((w3.setCell ⟨w.heap.size,0,none⟩ (.slice AC n1 cC)).setCell ⟨w.heap.size,1,none⟩ (.slice AS m1 cS)).setCell ⟨w.heap.size,2,none⟩ (.slice AD m2 cD)) w.heap.size 98 [.slice AC n1 cC, .slice AS m1 cS, .slice AD m2 cD]:=((RO.out.set 0 (.slice AC n1 cC)).set 1 (.slice AS m1 cS)).set 2 (.slice AD m2 cD);have HN:=HB.out.grown hg HB.out.size (by first | (simp;done) | (simp;omega));have HPE:=HP.out.other hg RO.out;obtain⟨wE,hwE⟩:=eX ((((w3.setCell ⟨w.heap.size,0,none⟩ (.slice AC n1 cC)).setCell ⟨w.heap.size,1,none⟩ (.slice AS m1 cS)).setCell ⟨w.heap.size,2,none⟩ (.slice AD m2 cD)));rw[<- hwE] at RE HN HPE ⊢;have k0:=RE.at_ 0 rfl;have k1:=RE.at_ 1 rfl;have k2:=RE.at_ 2 rfl;refine bodyPost_ret (v:= .tuple #[.agg #[.slice AC n1 cC, .slice AS m1 cS, .slice AD m2 cD], .int .i64 z]) (by simp[results,Tryz.results63,go_sem,k0,k1,k2]) rfl ?_;exact⟨.inr ⟨by omega,by omega,HPE⟩,HN⟩
end
end Go.Proofs.YtdefghfjhgmpfaaGreatDoor
