/- Parts of this proof: TDot. -/
import Derived.Test.YtdefghfjhgmpfaaGreatDoorMAE
import Derived.Test.YtdefghfjhgmpfaaGreatDoorMAV
import Derived.Test.YtdefghfjhgmpfaaGreatDoorMAP
import Derived.Test.YtdefghfjhgmpfaaGreatDoorMAY
namespace Go.Proofs.YtdefghfjhgmpfaaGreatDoor
open Go.Proofs.Tryz
open Go.RowKit
open Lp (RL upd eu)
theorem jy{n r t:Nat}{a b:Nat -> Rat}(C:∀j,j<n -> RL r (a j))(E:∀j,j<n -> RL t (b j)):∀k,k <= n -> RL (1+k* (r+t+1)) (Lp.eB k a b)
 | 0,_=>RL.zero.mono oM
 | k+1,F=>by
  have h:=(jy C E k oM).add ((C k oM).mul (E k oM));exact RL.mono h (by rw[Nat.succ_mul];omega)
theorem uk{a b:Rat}:(0<jq a b)↔¬a <= b:=by
 unfold jq;by_cases h:a<b
 ·rw[if_pos h];exact⟨fun h=>absurd h dC,fun r=>absurd (Rat.le_of_lt h) r⟩
 ·rw[if_neg h];by_cases r:a=b
  ·rw[if_pos r];exact⟨fun h=>absurd h dC,fun t=>absurd (by grind) t⟩
  ·rw[if_neg r];exact⟨fun _=>by grind,fun _=>by decide⟩
theorem mF:eF 0=⟨#[48]⟩:=by kernel_rfl
set_option maxRecDepth 100000 in
set_option maxHeartbeats 3200000 in
theorem ul(va vb:Value)(n X:Nat)(a b:Nat -> Rat)(G M t:Nat)(w:World)(Y:TS w va n (fun j=>eF (a j)))(Z:TS w vb X (fun j=>eF (b j)))(hn:n <= X)(aa:X <= 1000000000)(U:∀j,j<n -> RL G (a j))(V:∀j,j<n -> RL M (b j))(C:1+n* (G+M+1) <= t /\ G <= t /\ M <= t)(r:4*t <= 1000000):
  Calls prog 78 #[va,vb] w fun e w'=>e= .returned (.string (eF (Lp.eB n a b))) /\ Below w.heap.size w w':=by
 obtain⟨A,c,rfl,_,_⟩:=Y.shape;obtain⟨B,d,rfl,_,_⟩:=Z.shape;have HA:=lH Y;have a5:=lH Z;have HN:=lH (And.intro hn aa);have HD:Hid (∀k,k <= n -> RL t (Lp.eB k a b)):=lH (fun k r=>(jy U V k r).mono (by have:=Nat.mul_le_mul_right (G+M+1) r;omega));have HM:Hid (∀k,k<n -> RL t (a k*b k)):=lH (fun k r=>((U k r).mul (V k r)).mono (by have:1* (G+M+1) <= n* (G+M+1):=Nat.mul_le_mul_right _ oM;omega));have a6:Hid (∀k,k<n -> RL t (a k)):=lH (fun k r=>(U k r).mono C.2.1);have a7:Hid (∀k,k<n -> RL t (b k)):=lH (fun k r=>(V k r).mono C.2.2);have HK:=lH r;clear Y Z U V C r;go_enter func78,ntmps78;go_wp2_with fail
 go_loopw [5,6] (fun sv iv wr=>∃q:Nat,q <= n /\ sv= .string (eF (Lp.eB q a b)) /\ iv= .int .i64 q /\ Below w.heap.size w wr)
  (fun _ iv _=>n-(intOf iv).toNat)
 case atStart=>exact⟨0,Nat.zero_le _,by rw[show Lp.eB 0 a b=0 from rfl,mF],rfl,Below.refl _ _⟩
 case round=>
  obtain⟨q,hq,rfl,rfl,a2⟩:=hrel;have E:=lH a2;clear a2;by_cases ac:((q:Nat):Int)<((n:Nat):Int)
  ·have W:q<n:=oM
   have ab:((q:Nat):Int)<((X:Nat):Int):=oM
   obtain⟨gA,oA,rfl,a3⟩:=HA.o.at_ oM;obtain⟨gB,oB,rfl,a4⟩:=a5.o.at_ oM;have CA:=lH (cell_below E.o (a3 q W));have CB:=lH (cell_below E.o (a4 q oM));clear a3 a4;go_wp2_with fail
   have F:=rG wr;have a8:=eG CA.o;have a0:=CA.o;have a9:=eG CB.o;have a1:=CB.o;have O:=lH (kC a0 (kN a1));clear a8 a0 a9 a1;refine rL O.o (fun i=>false) ?_;have h:=O.o _ F.o;refine tKs 0 13 h ?_;refine tKs 1 14 h ?_;refine tKs 2 15 h ?_;refine tKs 3 16 h ?_;refine tKs 4 17 h ?_;refine tKs 5 18 h ?_;refine tKs 6 19 h ?_;refine tKs 7 20 h ?_;refine tKs 8 21 h ?_;refine rD 9 (fun K C=> ?_);go_simp;refine(vP (a q) (b q) t _ (a6.o q W) (a7.o q W) HK.o).mono ?_;rintro e w3 ⟨rfl,R⟩;have R:Below wr.heap.size wr w3:=bD R;replace E:=bT E R;replace F:=bT F R;clear h R;have h:=O.o _ F.o;refine kH C h ?_;clear C K;refine rD 10 (fun K C=> ?_);go_simp;refine(vQ (Lp.eB q a b) (a q*b q) t _ (HD.o q oM) (HM.o q W) HK.o).mono ?_;rintro e w4 ⟨rfl,T⟩;have T:Below w3.heap.size w3 w4:=bD T;replace E:=bT E T;replace F:=bT F T;clear h T;have h:=O.o _ F.o;refine kH C h ?_;clear C K;refine tKs 11 5 h ?_;refine dN ?_ _;clear h O F;go_wp2_with fail
   go_roundw
   case rel=>exact⟨q+1,by omega,by rw[show Lp.eB (q+1) a b=Lp.eB q a b+a q*b q from rfl],by go_num,E.o⟩
   case measure=>exact mZ
  ·obtain rfl:n=q:=oM
   go_wp2_with fail
   go_returns;exact⟨rfl,E.o⟩
set_option maxRecDepth 100000 in
set_option maxHeartbeats 3200000 in
theorem Cv(va vr:Value)(n m:Nat)(k:Nat -> Nat)(s:Nat -> ByteArray)(t:Nat -> Nat -> ByteArray)(b:Nat -> ByteArray)(x:Nat -> Rat)(A:Nat -> Nat -> Rat)(E:Nat -> Rat)(X Z G:Nat)(w:World)(ha:TS w va n s)(hr:fZ w vr m k t b)(hs:∀j,j<n -> s j=eF (x j))(ab:∀i,i<m -> k i=n)(ht:∀i,i<m -> ∀j,j<n -> t i j=eF (A i j))(a7:∀i,i<m -> b i=eF (E i))(am:n <= 1000000000)(an:m <= 1000000000)(ac:∀i,i<m -> ∀j,j<n -> RL X (A i j))(ae:∀j,j<n -> RL Z (x j))(ad:∀i,i<m -> RL G (E i))(M:1+n* (X+Z+1) <= G /\ X <= G /\ Z <= G)(hk:4*G <= 1000000):
  Calls prog 45 #[va,vr] w fun e w'=>((Lp.jC m n A E x /\ e= .returned (.bool true)) \/ (¬Lp.jC m n A E x /\ e= .returned (.bool false))) /\ Below w.heap.size w w':=by
 obtain⟨AX,c,rfl,_,_⟩:=ha.shape;obtain⟨AR,cR,rfl,_,_⟩:=hr.shape;have HX:=lH (ha.congr hs);have HR:=lH hr;have HT:=lH (And.intro ab (And.intro ht a7));have a3:=lH ac;have a4:=lH ae;have ag:=lH ad;have W:=lH (And.intro M hk);have HN:=lH am;clear ha hr hs ab ht a7 ac ae ad M hk;go_enter func45,ntmps45;go_wp2_with fail
 go_loopw [5] (fun iv wr=>∃q:Nat,q <= m /\ iv= .int .i64 q /\ Hid (∀i,i<q -> Lp.eB n (A i) x <= E i) /\ Below w.heap.size w wr)
  (fun iv _=>m-(intOf iv).toNat)
 case atStart=>exact⟨0,Nat.zero_le _,rfl,lH (fun i hi=>absurd hi oM),Below.refl _ _⟩
 case round=>
  obtain⟨q,hq,rfl,hz,a8⟩:=hrel;have HZ:=lH hz.o;have C:=lH a8;clear hz a8;by_cases ao:((q:Nat):Int)<((m:Nat):Int)
  ·have O:q<m:=oM
   obtain⟨gR,oR,rfl,aa⟩:=HR.o.at_ oM;obtain⟨u,a9,a1,a0⟩:=aa q O;rw[HT.o.1 q O] at a0;rw[HT.o.2.2 q O] at a1;obtain⟨Y,y,rfl,_,_⟩:=a0.shape;have ah:=lH ((a0.congr (HT.o.2.1 q O)).below C.o);have C1:=lH (cell_below C.o a9);have C2:=lH (cell_below C.o a1);have af:Hid (RL G (Lp.eB n (A q) x)):=lH ((jy (a3.o q O) a4.o n (Nat.le_refl _)).mono W.o.1.1);clear aa a9 a1 a0;obtain⟨zb,R⟩:∃z:Bool,z=decide (0<jq (Lp.eB n (A q) x) (E q)):=⟨_,rfl⟩
   have ai:=lH (HX.o.below C.o);go_wp2_with fail
   have F:=rG wr;have aj:=eG C1.o;have a5:=C1.o;have ak:=eG C2.o;have a6:=C2.o;have T:=lH (kC a5 (kN a6));clear aj a5 ak a6;refine rL T.o (fun i=>false) ?_;have r:=T.o _ F.o;refine tKs 0 12 r ?_;refine tKs 1 13 r ?_;refine tKs 2 14 r ?_;refine tKs 3 15 r ?_;refine tKs 4 16 r ?_;refine tKs 5 17 r ?_;refine tKs 7 19 r ?_;refine tKs 8 20 r ?_;refine tKs 9 21 r ?_;refine tKs 10 22 r ?_;refine tKs 11 23 r ?_;refine rD 6 (fun K M=> ?_);go_simp;refine(ul _ _ n n (A q) x X Z G _ (by exact ah.o) (by exact ai.o) (Nat.le_refl _) HN.o (a3.o q O) a4.o W.o.1 W.o.2).mono ?_;rintro e w3 ⟨rfl,U⟩;have U:Below wr.heap.size wr w3:=bD U;replace C:=bT C U;replace F:=bT F U;clear r U;have r:=T.o _ F.o;refine kH M r ?_;clear M K;refine rD 12 (fun K M=> ?_);go_simp;refine(H8 (Lp.eB n (A q) x) (E q) G _ af.o (ag.o q O) W.o.2).mono ?_;rintro e w4 ⟨rfl,V⟩;have V:Below w3.heap.size w3 w4:=bD V;replace C:=bT C V;replace F:=bT F V;clear r V;have r:=T.o _ F.o;refine kH M r ?_;clear M K;refine jf (i:=13) (v:= .bool zb) (some 25) rfl (by rfl) kR kR kR kR (fun _ _ _ h=>h) (Or.inl ⟨by rfl,?_⟩) r ?_
   ·(intro w' al;clear al;go_simp;(first | done | (rw[R];done) | (rw[R];rfl) | (simp[R];done)))
   simp only[Act.put,List.setIfInBounds_toArray,List.set_cons_zero,List.set_cons_succ];refine dN ?_ _;clear r T F;by_cases h0:Lp.eB n (A q) x <= E q
   ·have a2:zb=false:=R.trans (decide_eq_false (fun h=>uk.1 h h0));clear R;subst a2;have HC:=lH h0;clear h0;go_wp2_with fail
    go_roundw
    case rel=>exact⟨q+1,by omega,by go_num,lH (fun i hi=>by by_cases e:i=q;subst e;exact HC.o;exact HZ.o i oM),C.o⟩
    case measure=>exact mZ
   ·have a2:zb=true:=R.trans (decide_eq_true (uk.2 h0));clear R;subst a2;have HC:Hid (¬Lp.jC m n A E x):=lH (fun h=>h0 (h q O));clear h0;go_wp2_with fail
    go_returns;exact⟨.inr ⟨HC.o,rfl⟩,C.o⟩
  ·obtain rfl:m=q:=oM
   go_wp2_with fail
   go_returns;exact⟨.inl ⟨HZ.o,rfl⟩,C.o⟩
end Go.Proofs.YtdefghfjhgmpfaaGreatDoor
