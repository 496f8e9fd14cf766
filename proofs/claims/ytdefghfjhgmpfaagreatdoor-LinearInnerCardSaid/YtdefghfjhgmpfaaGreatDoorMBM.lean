/- Parts of this proof: TDot. -/
import Derived.Test.YtdefghfjhgmpfaaGreatDoorMAE
import Derived.Test.YtdefghfjhgmpfaaGreatDoorMAV
import Derived.Test.YtdefghfjhgmpfaaGreatDoorMAP
import Derived.Test.YtdefghfjhgmpfaaGreatDoorMAY
namespace Go.Proofs.YtdefghfjhgmpfaaGreatDoor
open Go.Proofs.Tryz
open Go.RowKit
open Lp (RL upd eu)
theorem jy{n t E:Nat}{a b:Nat -> Rat}(F:∀j,j<n -> RL t (a j))(G:∀j,j<n -> RL E (b j)):∀k,k <= n -> RL (1+k* (t+E+1)) (Lp.eB k a b)
 | 0,_=>RL.zero.mono oM
 | k+1,M=>by
  have h:=(jy F G k oM).add ((F k oM).mul (G k oM));exact RL.mono h (by rw[Nat.succ_mul];omega)
theorem uk{a b:Rat}:(0<jq a b)↔¬a <= b:=by
 unfold jq;by_cases h:a<b
 ·rw[if_pos h];exact⟨fun h=>absurd h dC,fun t=>absurd (Rat.le_of_lt h) t⟩
 ·rw[if_neg h];by_cases t:a=b
  ·rw[if_pos t];exact⟨fun h=>absurd h dC,fun E=>absurd (by grind) E⟩
  ·rw[if_neg t];exact⟨fun _=>by grind,fun _=>by decide⟩
theorem mF:eF 0=⟨#[48]⟩:=by kernel_rfl
set_option maxRecDepth 100000 in
set_option maxHeartbeats 3200000 in
theorem ul(va vb:Value)(n nb:Nat)(a b:Nat -> Rat)(O R E:Nat)(w:World)(ha:TS w va n (fun j=>eF (a j)))(hb:TS w vb nb (fun j=>eF (b j)))(hn:n <= nb)(ab:nb <= 1000000000)(Y:∀j,j<n -> RL O (a j))(Z:∀j,j<n -> RL R (b j))(F:1+n* (O+R+1) <= E /\ O <= E /\ R <= E)(t:4*E <= 4000000):
  Calls prog 78 #[va,vb] w fun e w'=>e= .returned (.string (eF (Lp.eB n a b))) /\ Below w.heap.size w w':=by
 obtain⟨A,c,rfl,_,_⟩:=ha.shape;obtain⟨B,d,rfl,_,_⟩:=hb.shape;have HA:=lH ha;have a6:=lH hb;have HN:=lH (And.intro hn ab);have HD:Hid (∀k,k <= n -> RL E (Lp.eB k a b)):=lH (fun k t=>(jy Y Z k t).mono (by have:=Nat.mul_le_mul_right (O+R+1) t;omega));have HM:Hid (∀k,k<n -> RL E (a k*b k)):=lH (fun k t=>((Y k t).mul (Z k t)).mono (by have:1* (O+R+1) <= n* (O+R+1):=Nat.mul_le_mul_right _ oM;omega));have a7:Hid (∀k,k<n -> RL E (a k)):=lH (fun k t=>(Y k t).mono F.2.1);have a8:Hid (∀k,k<n -> RL E (b k)):=lH (fun k t=>(Z k t).mono F.2.2);have HK:=lH t;clear ha hb Y Z F t;go_enter func78,ntmps78;go_wp2_with fail
 go_loopw [5,6] (fun sv iv wr=>∃q:Nat,q <= n /\ sv= .string (eF (Lp.eB q a b)) /\ iv= .int .i64 q /\ Below w.heap.size w wr)
  (fun _ iv _=>n-(intOf iv).toNat)
 case atStart=>exact⟨0,Nat.zero_le _,by rw[show Lp.eB 0 a b=0 from rfl,mF],rfl,Below.refl _ _⟩
 case round=>
  obtain⟨q,hq,rfl,rfl,a3⟩:=hrel;have G:=lH a3;clear a3;by_cases ad:((q:Nat):Int)<((n:Nat):Int)
  ·have a0:q<n:=oM
   have ac:((q:Nat):Int)<((nb:Nat):Int):=oM
   obtain⟨gA,oA,rfl,a4⟩:=HA.o.at_ oM;obtain⟨gB,oB,rfl,a5⟩:=a6.o.at_ oM;have CA:=lH (cell_below G.o (a4 q a0));have CB:=lH (cell_below G.o (a5 q oM));clear a4 a5;go_wp2_with fail
   have M:=rG wr;have a9:=eG CA.o;have a1:=CA.o;have aa:=eG CB.o;have a2:=CB.o;have T:=lH (kC a1 (kN a2));clear a9 a1 aa a2;refine rL T.o (fun i=>false) ?_;have h:=T.o _ M.o;refine tKs 0 13 h ?_;refine tKs 1 14 h ?_;refine tKs 2 15 h ?_;refine tKs 3 16 h ?_;refine tKs 4 17 h ?_;refine tKs 5 18 h ?_;refine tKs 6 19 h ?_;refine tKs 7 20 h ?_;refine tKs 8 21 h ?_;refine rD 9 (fun K F=> ?_);go_simp;refine(vP (a q) (b q) E _ (a7.o q a0) (a8.o q a0) HK.o).mono ?_;rintro e w3 ⟨rfl,U⟩;have U:Below wr.heap.size wr w3:=bD U;replace G:=bT G U;replace M:=bT M U;clear h U;have h:=T.o _ M.o;refine kH F h ?_;clear F K;refine rD 10 (fun K F=> ?_);go_simp;refine(vQ (Lp.eB q a b) (a q*b q) E _ (HD.o q oM) (HM.o q a0) HK.o).mono ?_;rintro e w4 ⟨rfl,X⟩;have X:Below w3.heap.size w3 w4:=bD X;replace G:=bT G X;replace M:=bT M X;clear h X;have h:=T.o _ M.o;refine kH F h ?_;clear F K;refine tKs 11 5 h ?_;refine dN ?_ _;clear h T M;go_wp2_with fail
   go_roundw
   case rel=>exact⟨q+1,by omega,by rw[show Lp.eB (q+1) a b=Lp.eB q a b+a q*b q from rfl],by go_num,G.o⟩
   case measure=>exact mZ
  ·obtain rfl:n=q:=oM
   go_wp2_with fail
   go_returns;exact⟨rfl,G.o⟩
set_option maxRecDepth 100000 in
set_option maxHeartbeats 3200000 in
theorem Cv(va vr:Value)(n m:Nat)(k:Nat -> Nat)(s:Nat -> ByteArray)(t:Nat -> Nat -> ByteArray)(b:Nat -> ByteArray)(x:Nat -> Rat)(A:Nat -> Nat -> Rat)(bq:Nat -> Rat)(Ka Kb M:Nat)(w:World)(ha:TS w va n s)(hr:fZ w vr m k t b)(hs:∀j,j<n -> s j=eF (x j))(ab:∀i,i<m -> k i=n)(ht:∀i,i<m -> ∀j,j<n -> t i j=eF (A i j))(a7:∀i,i<m -> b i=eF (bq i))(am:n <= 1000000000)(an:m <= 1000000000)(ac:∀i,i<m -> ∀j,j<n -> RL Ka (A i j))(ae:∀j,j<n -> RL Kb (x j))(ad:∀i,i<m -> RL M (bq i))(O:1+n* (Ka+Kb+1) <= M /\ Ka <= M /\ Kb <= M)(hk:4*M <= 4000000):
  Calls prog 45 #[va,vr] w fun e w'=>((Lp.jC m n A bq x /\ e= .returned (.bool true)) \/ (¬Lp.jC m n A bq x /\ e= .returned (.bool false))) /\ Below w.heap.size w w':=by
 obtain⟨AX,c,rfl,_,_⟩:=ha.shape;obtain⟨AR,cR,rfl,_,_⟩:=hr.shape;have HX:=lH (ha.congr hs);have HR:=lH hr;have HT:=lH (And.intro ab (And.intro ht a7));have a3:=lH ac;have a4:=lH ae;have ag:=lH ad;have HK:=lH (And.intro O hk);have HN:=lH am;clear ha hr hs ab ht a7 ac ae ad O hk;go_enter func45,ntmps45;go_wp2_with fail
 go_loopw [5] (fun iv wr=>∃q:Nat,q <= m /\ iv= .int .i64 q /\ Hid (∀i,i<q -> Lp.eB n (A i) x <= bq i) /\ Below w.heap.size w wr)
  (fun iv _=>m-(intOf iv).toNat)
 case atStart=>exact⟨0,Nat.zero_le _,rfl,lH (fun i hi=>absurd hi oM),Below.refl _ _⟩
 case round=>
  obtain⟨q,hq,rfl,hz,a8⟩:=hrel;have HZ:=lH hz.o;have F:=lH a8;clear hz a8;by_cases ao:((q:Nat):Int)<((m:Nat):Int)
  ·have R:q<m:=oM
   obtain⟨gR,oR,rfl,aa⟩:=HR.o.at_ oM;obtain⟨u,a9,a1,a0⟩:=aa q R;rw[HT.o.1 q R] at a0;rw[HT.o.2.2 q R] at a1;obtain⟨Y,y,rfl,_,_⟩:=a0.shape;have ah:=lH ((a0.congr (HT.o.2.1 q R)).below F.o);have C1:=lH (cell_below F.o a9);have C2:=lH (cell_below F.o a1);have af:Hid (RL M (Lp.eB n (A q) x)):=lH ((jy (a3.o q R) a4.o n (Nat.le_refl _)).mono HK.o.1.1);clear aa a9 a1 a0;obtain⟨zb,T⟩:∃z:Bool,z=decide (0<jq (Lp.eB n (A q) x) (bq q)):=⟨_,rfl⟩
   have ai:=lH (HX.o.below F.o);go_wp2_with fail
   have G:=rG wr;have aj:=eG C1.o;have a5:=C1.o;have ak:=eG C2.o;have a6:=C2.o;have U:=lH (kC a5 (kN a6));clear aj a5 ak a6;refine rL U.o (fun i=>false) ?_;have E:=U.o _ G.o;refine tKs 0 12 E ?_;refine tKs 1 13 E ?_;refine tKs 2 14 E ?_;refine tKs 3 15 E ?_;refine tKs 4 16 E ?_;refine tKs 5 17 E ?_;refine tKs 7 19 E ?_;refine tKs 8 20 E ?_;refine tKs 9 21 E ?_;refine tKs 10 22 E ?_;refine tKs 11 23 E ?_;refine rD 6 (fun K O=> ?_);go_simp;refine(ul _ _ n n (A q) x Ka Kb M _ (by exact ah.o) (by exact ai.o) (Nat.le_refl _) HN.o (a3.o q R) a4.o HK.o.1 HK.o.2).mono ?_;rintro e w3 ⟨rfl,X⟩;have X:Below wr.heap.size wr w3:=bD X;replace F:=bT F X;replace G:=bT G X;clear E X;have E:=U.o _ G.o;refine kH O E ?_;clear O K;refine rD 12 (fun K O=> ?_);go_simp;refine(H8 (Lp.eB n (A q) x) (bq q) M _ af.o (ag.o q R) HK.o.2).mono ?_;rintro e w4 ⟨rfl,Z⟩;have Z:Below w3.heap.size w3 w4:=bD Z;replace F:=bT F Z;replace G:=bT G Z;clear E Z;have E:=U.o _ G.o;refine kH O E ?_;clear O K;refine jf (i:=13) (v:= .bool zb) (some 25) rfl (by rfl) kR kR kR kR (fun _ _ _ h=>h) (Or.inl ⟨by rfl,?_⟩) E ?_
   ·(intro w' al;clear al;go_simp;(first | done | (rw[T];done) | (rw[T];rfl) | (simp[T];done)))
   simp only[Act.put,List.setIfInBounds_toArray,List.set_cons_zero,List.set_cons_succ];refine dN ?_ _;clear E U G;by_cases h0:Lp.eB n (A q) x <= bq q
   ·have a2:zb=false:=T.trans (decide_eq_false (fun h=>uk.1 h h0));clear T;subst a2;have HC:=lH h0;clear h0;go_wp2_with fail
    go_roundw
    case rel=>exact⟨q+1,by omega,by go_num,lH (fun i hi=>by by_cases e:i=q;subst e;exact HC.o;exact HZ.o i oM),F.o⟩
    case measure=>exact mZ
   ·have a2:zb=true:=T.trans (decide_eq_true (uk.2 h0));clear T;subst a2;have HC:Hid (¬Lp.jC m n A bq x):=lH (fun h=>h0 (h q R));clear h0;go_wp2_with fail
    go_returns;exact⟨.inr ⟨HC.o,rfl⟩,F.o⟩
  ·obtain rfl:m=q:=oM
   go_wp2_with fail
   go_returns;exact⟨.inl ⟨HZ.o,rfl⟩,F.o⟩
end Go.Proofs.YtdefghfjhgmpfaaGreatDoor
