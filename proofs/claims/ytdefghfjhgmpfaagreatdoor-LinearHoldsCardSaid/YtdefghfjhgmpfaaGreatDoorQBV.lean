/- Parts of this proof: LHold. -/
import Derived.Test.YtdefghfjhgmpfaaGreatDoorQBU
import Derived.Test.YtdefghfjhgmpfaaGreatDoorQBJ
import Derived.Test.YtdefghfjhgmpfaaGreatDoorQBS
namespace Go.Proofs.YtdefghfjhgmpfaaGreatDoor
open Go.RowKit
open Lp (RL upd Dict)
def holdE(n m:Nat)(k:Nat -> Nat)(s:Nat -> ByteArray)(t:Nat -> Nat -> ByteArray)(b:Nat -> ByteArray):Nat:=
 if 96<n then 6 else if progE n m k (fun _=>⟨#[48]⟩) t b≠0 then progE n m k (fun _=>⟨#[48]⟩) t b else firstE n (fun j=>sE (s j))
def LHoldsR(n m:Nat)(k:Nat -> Nat)(s:Nat -> ByteArray)(t:Nat -> Nat -> ByteArray)(b:Nat -> ByteArray)(e:Ending):Prop:=
 (holdE n m k s t b≠0 /\ e= .returned (.tuple #[.bool false, .int .i64 (holdE n m k s t b:Nat)])) \/
 (holdE n m k s t b=0 /\ ∃ (A:Nat -> Nat -> Rat) (bq x:Nat -> Rat),(∀i,i<m -> k i=n) /\ (∀i,i<m -> ∀j,j<n -> (t i j).data.toList=qtxtL (A i j)) /\ (∀i,i<m -> (b i).data.toList=qtxtL (bq i)) /\ (∀j,j<n -> (s j).data.toList=qtxtL (x j)) /\
  ((Lp.HoldsN m n A bq x /\ e= .returned (.tuple #[.bool true, .int .i64 0])) \/ (¬Lp.HoldsN m n A bq x /\ e= .returned (.tuple #[.bool false, .int .i64 0]))))
theorem WithR.nat{w:World}{n m:Nat}{k:Nat -> Nat}{t:Nat -> Nat -> ByteArray}{b:Nat -> ByteArray}{e:Ending}(h:WithR w n m k t b e)(hn:n <= 96):ParseR w n m k (fun _=>⟨#[48]⟩) t b e:=by
 rcases h with ⟨h,_⟩ | ⟨_,_,h⟩
 ·omega
 ·simpa using h
set_option maxRecDepth 100000 in
set_option maxHeartbeats 6400000 in
theorem lholds_walk(AX AR:Option Addr)(n m cX cR Kq:Nat)(k:Nat -> Nat)(s:Nat -> ByteArray)(t:Nat -> Nat -> ByteArray)(b:Nat -> ByteArray)(w:World)(hx:TS w (.slice AX n cX) n s)(hr:TRows w (.slice AR m cR) m k t b)(hn:n <= 1000000000)(hm:m <= 1000000000)(hK:Kq <= 65536)
  (hs:∀j,j<n -> (s j).size <= Kq) (ht:∀i,i<m -> ∀j,j<k i -> (t i j).size <= Kq) (hb:∀i,i<m -> (b i).size <= Kq) (hg:Glob w):
  Calls Tryz.prog 44 #[.slice AX n cX, .slice AR m cR] w fun e w'=>LHoldsR n m k s t b e /\ Below w.heap.size w w':=by
 have HX:=lH hx;have HR:=lH hr;have HS:=lH (And.intro hs (And.intro ht hb));have HF:Hid (RowsFit m k t b):=lH ⟨hm,fun i hi j hj=>Nat.le_trans (ht i hi j hj) hK,fun i hi=>Nat.le_trans (hb i hi) hK⟩;have HGL:=lH hg;have HNM:=lH (And.intro hn (And.intro hm hK));clear hx hr hs ht hb hg hK;go_enter Tryz.func44,Tryz.ntmps44;by_cases h96:96<n
 ·have hi:(96:Int)<((n:Nat):Int):=by omega
  have HE:Hid (holdE n m k s t b=6):=lH (by unfold holdE;rw[if_pos h96]);clear h96 hn;go_wp2_with fail
  go_returns;exact⟨.inl ⟨by rw[HE.out];decide,by rw[HE.out];rfl⟩,Below.refl _ _⟩
 ·have hi:((n:Nat):Int) <= 96:=by omega
  have hd:decide ((96:Int)<((n:Nat):Int))=false:=decide_eq_false (by omega);have hdn:decide (96<n)=false:=decide_eq_false h96;have HN:=lH h96;clear h96;go_wp2_with fail
  clear hi hd hdn;refine(with_walk n AR m cR k t b _ HR.out HF.out HGL.out).mono ?_;rintro e w1 ⟨hr,hb1⟩;have HB:Hid (Below w.heap.size w w1):=lH hb1;have hp:=hr.nat (by have:=HN.out;omega);clear hr hb1
  rcases hp with ⟨h0,rfl⟩ | ⟨h0,AC,AS,AD,cC,cS,cD,A,bq,c,rfl,hc,hA,hD,hP,_⟩
  ·obtain⟨cc,hcc⟩:=eX (progE n m k (fun _=>⟨#[48]⟩) t b);rw[<- hcc] at h0;have hci:((cc:Nat):Int)≠0:=by omega
   have hcd:(((cc:Nat):Int) !=0)=true:=by simpa using hci
   have hcn:(cc !=0)=true:=by simpa using h0
   have HC0:=lH h0;have HE:Hid (holdE n m k s t b=cc):=lH (by unfold holdE;rw[if_neg HN.out, <- hcc,if_pos h0]);rw[<- hcc];clear h0 hcc;have HB2:=lH (HB.out.trans ((below_new w1 (.cells #[.slice none 0 0, .slice none 0 0, .slice none 0 0] 98)).mono HB.out.size));go_wp2_with fail
   go_returns;exact⟨.inl ⟨by rw[HE.out];exact HC0.out,by rw[HE.out];rfl⟩,HB2.out⟩
  ·have HP0:=lH h0;have HKN:=lH (progE_ok h0);have HPI:=lH hP;have HA:=lH hA;have HD:=lH hD;clear h0 hP hc hA hD;obtain⟨w2,hw2⟩:=eX (w1.alloc (.cells #[.slice AC n cC, .slice AS m cS, .slice AD m cD] 98));obtain⟨gQ,hgQ⟩:=eX (w1.heap.size);have hb2:Below w1.heap.size w1 w2:=by rw[hw2];exact below_new _ _
   have QB:Hid (Row w2 gQ 98 [.slice AC n cC, .slice AS m cS, .slice AD m cD]):=lH (by rw[hw2,hgQ];exact heap_new _ _);replace HA:=lH (HA.out.below hb2);replace HD:=lH (HD.out.below hb2);replace HB:=bT HB hb2;go_wp2_with fail
   rw[<- hw2, <- hgQ];clear hw2 hb2 hgQ;refine(reads_walk _ n s _ (HX.out.below HB.out) HNM.out.1 (fun j hj=>by have:=HS.out.1 j hj;have:=HNM.out.2.2;omega) (HGL.out.below HB.out)).mono ?_;rintro e w3 ⟨hr,hb3⟩;replace HA:=lH (HA.out.below hb3);replace HD:=lH (HD.out.below hb3);replace QB:=rW QB hb3;replace HB:=bT HB hb3;clear hb3
   rcases readsR_first hr with ⟨h0,rfl⟩ | ⟨h0,gC,x,_,rfl,hrc,hcc⟩
   ·obtain⟨cc,hcc⟩:=eX (firstE n (fun j=>sE (s j)));rw[<- hcc] at h0;have hci:((cc:Nat):Int)≠0:=by omega
    have hcd:(((cc:Nat):Int) !=0)=true:=by simpa using hci
    have hcn:(cc !=0)=true:=by simpa using h0
    have HC0:=lH h0;have HE:Hid (holdE n m k s t b=cc):=lH (by unfold holdE;rw[if_neg HN.out,if_neg (by rw[HP0.out];simp),hcc]);rw[<- hcc];clear h0 hcc hr;go_wp2_with fail
    go_returns;exact⟨.inl ⟨by rw[HE.out];exact HC0.out,by rw[HE.out];rfl⟩,HB.out⟩
   ·have HE:Hid (holdE n m k s t b=0):=lH (by unfold holdE;rw[if_neg HN.out,if_neg (by rw[HP0.out];simp)];exact h0);have HCC:=lH hcc;have BC:=lH (ratsOf hrc HNM.out.1);clear h0 hcc hr hrc;obtain⟨q0,q1,q2⟩:=aT3 QB.out;have ql:=QB.out.lt;go_wp2_with fail
    clear q0 q1 q2 ql;have HLA:Hid (∀i,i<m -> ∀j,j<n -> RL Kq (A i j)):=lH (fun i hi j hj=>rl_size (HPI.out.rows i hi j hj) (HS.out.2.1 i hi j (by rw[HKN.out.2.2.1 i hi];exact hj)));have HLX:Hid (∀j,j<n -> RL Kq (x j)):=lH (fun j hj=>rl_size (HCC.out j hj) (HS.out.1 j hj));have HLB:Hid (∀i,i<m -> RL Kq (bq i)):=lH (fun i hi=>rl_size (HPI.out.bounds i hi) (HS.out.2.2 i hi));have hnk:n* (Kq+Kq+1) <= 96*131073:=Nat.mul_le_mul (by have:=HN.out;omega) (by have:=HNM.out.2.2;omega);refine(qholds_walk AC AS AD _ n m cC cS cD _ A bq x _ HA.out HD.out BC.out hm (fun i hi j hj=>(HLA.out i hi j hj).mono (by have:=HNM.out.2.2;omega)) (fun j hj=>(HLX.out j hj).mono (by have:=HNM.out.2.2;omega)) (fun i hi=>(HLB.out i hi).mono (by have:=HNM.out.2.2;omega)) (fun i hi q hq=>(dot_rl (HLA.out i hi) HLX.out q hq).mono (by have:=Nat.mul_le_mul_right (Kq+Kq+1) hq;omega))).mono ?_;rintro e w4 ⟨hh,hb4⟩;replace HB:=bT HB hb4;clear hb4
    rcases hh with ⟨hh,rfl⟩ | ⟨hh,rfl⟩
    ·have HH:=lH hh;clear hh;go_wp2_with fail
     go_returns;exact⟨.inr ⟨HE.out,A,bq,x,HKN.out.2.2.1,HPI.out.rows,HPI.out.bounds,HCC.out, .inl ⟨HH.out,rfl⟩⟩,HB.out⟩
    ·have HH:=lH hh;clear hh;go_wp2_with fail
     go_returns;exact⟨.inr ⟨HE.out,A,bq,x,HKN.out.2.2.1,HPI.out.rows,HPI.out.bounds,HCC.out, .inr ⟨HH.out,rfl⟩⟩,HB.out⟩
end Go.Proofs.YtdefghfjhgmpfaaGreatDoor
