/- Parts of this proof: QArith Copies FrameL FrameJ Num Texts Nums Enter. -/
import Derived.Test.YtdefghfjhgmpfaaGreatDoorMAU
import Derived.Test.YtdefghfjhgmpfaaGreatDoorMAK
import Derived.Test.YtdefghfjhgmpfaaGreatDoorMAR
import Derived.Test.YtdefghfjhgmpfaaGreatDoorMAT
import Derived.Test.YtdefghfjhgmpfaaGreatDoorMAS
import Derived.Test.YtdefghfjhgmpfaaGreatDoorMAP
import Derived.Test.YtdefghfjhgmpfaaGreatDoorCards
import Derived.Test.YtdefghfjhgmpfaaGreatDoorTie
import Derived.Test.YtdefghfjhgmpfaaGreatDoorMAA
import Derived.Test.YtdefghfjhgmpfaaGreatDoorMAQ
import Derived.ProofKit
import Derived.OpenShut
import Derived.WideKeyArgs
import Derived.Deep.Strs
import Derived.Deep.DeepHandedRow
import Derived.Deep.DeepWitnessRowRef
import Derived.Lib.LaidTab
import Derived.Lib.LaidIn
import Derived.Stop.LaidErr
import Derived.Test.YtdefghfjhgmpfaaGreatDoorMAE
import Derived.Test.YtdefghfjhgmpfaaGreatDoorMAM
namespace Go.Proofs.YtdefghfjhgmpfaaGreatDoor
open Go.Proofs.Tryz
section
open Go.RowKit
open Lp (RL upd eu)
theorem iT{a:Int}{k:Nat}(h:a.natAbs<10^k)(E:k <= 4000000):gu a:=by
 unfold gu;have h1:=xD a.natAbs;have t:=nJ k a.natAbs (Nat.lt_of_lt_of_le h (Nat.pow_le_pow_right dC oM));omega
theorem pJ{a:Int}{k:Nat}(h:a.natAbs<10^k):(txt a).size <= k+2:=by
 have E:=nJ k a.natAbs (Nat.lt_of_lt_of_le h (Nat.pow_le_pow_right dC oM));rw[show(txt a).size=(Lib.itoa a).length by unfold txt;rfl];by_cases t:a<0
 ·rw[itoa_neg t,List.length_cons];omega
 ·rw[iW t];omega
theorem oh{q:Rat}{k:Nat}(h:RL k q):(eF q).size <= 2*k+5:=by
 have h1:=pJ h.1;have t:=pJ (a:=(q.den:Int)) (k:=k) (by rw[Int.natAbs_natCast];exact h.2);by_cases e:q.den=1
 ·rw[rP e];omega
 ·rw[<- sS e,ByteArray.size_append,ByteArray.size_append];have:(⟨#[47]⟩:ByteArray).size=1:=rfl;omega
theorem GR(q:Rat):fQ (fA q)=Lib.itoa (q.den:Int):=by
 unfold fQ;by_cases e:q.den=1
 ·rw[if_pos (nL e).2,e];exact mY.symm
 ·obtain⟨_,h,t⟩:=nM e;rw[if_neg (by rw[h];simp),t,iW oM,Int.natAbs_natCast]
theorem GU(q:Rat):eH (fA q)=Lib.itoa q.num:=by
 by_cases e:q.den=1
 ·exact(nL e).1
 ·exact(nM e).1
theorem nu(q:Rat)(k:Nat)(w:World)(h:RL k q)(G:k <= 4000000):Calls prog 58 #[.string (eF q)] w fun e w'=>e= .returned (.tuple #[.string (txt q.num), .string (txt (q.den:Int))]) /\ Below w.heap.size w w':=by
 refine(zS (eF q) w (by have:=oh h;omega)).mono ?_;rintro e w' ⟨a,b,rfl,t,E,F⟩;rw[jI] at t E;rw[lJ (t.trans (GU q)),lJ (E.trans (GR q))];exact⟨rfl,F⟩
set_option maxRecDepth 100000 in
set_option maxHeartbeats 3200000 in
theorem vO(p d:Int)(q:Rat)(k:Nat)(w:World)(hq:q=Rat.divInt p d)(hd:d≠0)(hp:p.natAbs<10^k)(a5:d.natAbs<10^k)(hk:k <= 4000000):
  Calls prog 59 #[.string (txt p), .string (txt d)] w fun e w'=>e= .returned (.string (eF q)) /\ Below w.heap.size w w':=by
 have t:Hid (Below w.heap.size w w):=lH (Below.refl _ _);have a7:RL k q:=by rw[hq];exact Lp.uX hd hp a5
 have a0:=lH a7;have HK:=lH hk;have a3:=lH (iT hp hk);have a2:=lH (iT a5 hk);clear hp a5 hk a7;go_enter func59,ntmps59;go_wp2_with fail
 refine(iy d _).mono ?_;rintro e w1 ⟨rfl,rfl⟩;by_cases hn:d<0
 ·have a6:sgI d<0:=nZ.2 hn;have O:Hid (0< -d):=lH oM;have HQ:Hid (Rat.divInt (-p) (-d)=q):=lH (by rw[hq];exact qI p d);have X:Hid (gu (-p)):=lH (by unfold gu;rw[Int.natAbs_neg];exact a3.o);have R:Hid (gu (-d)):=lH (by unfold gu;rw[Int.natAbs_neg];exact a2.o);clear hn hd hq;go_wp2_with fail
  clear a6;refine(tF p _ a3.o.few).mono ?_;rintro e w9 ⟨rfl,h⟩;replace t:=bT t h;clear h;go_wp2_with fail
  refine(tF d _ a2.o.few).mono ?_;rintro e w9 ⟨rfl,h⟩;replace t:=bT t h;clear h;go_wp2_with fail
  obtain⟨P,hP⟩:=eX (-p);obtain⟨D,hD⟩:=eX (-d);rw[<- hP] at HQ X ⊢;rw[<- hD] at HQ R O ⊢;clear hP hD;refine(pF P D _ X.o R.o).mono ?_;rintro e w2 ⟨rfl,h⟩;replace t:=bT t h;clear h;have M:Hid (((Nat.gcd P.natAbs D.natAbs:Nat):Int)≠0 /\ gu ((Nat.gcd P.natAbs D.natAbs:Nat):Int)):=lH ⟨by have:=sH P D O.o;omega,vK R.o (sI P D O.o)⟩;have Z:=lH (qG P D O.o);have Y:=lH (qH P D O.o);obtain⟨G,hG⟩:=eX (((Nat.gcd P.natAbs D.natAbs:Nat):Int));rw[<- hG] at M Z Y ⊢;clear hG;go_wp2_with fail
  refine(qU P G _ X.o M.o.2 M.o.1).mono ?_;rintro e w3 ⟨rfl,h⟩;replace t:=bT t h;clear h;rw[Z.o];go_wp2_with fail
  refine(qU D G _ R.o M.o.2 M.o.1).mono ?_;rintro e w4 ⟨rfl,h⟩;replace t:=bT t h;clear h;rw[Y.o];rw[HQ.o];by_cases F:q.den=1
  ·obtain⟨T,E⟩:=eX (txt (q.den:Int));rw[<- E];have U:T.toList= [49]:=by rw[E,F,ByteArray.toList_eq,jS];exact mY
   have a4:(T.toList== [49])=true:=by rw[U];rfl
   have a1:=lH F;clear E F;go_wp2_with fail
   rw[<- rP a1.o];go_returns;exact⟨rfl,t.o⟩
  ·obtain⟨T,E⟩:=eX (txt (q.den:Int));rw[<- E];have U:T.toList≠ [49]:=by rw[E];exact pG F
   have a4:(T.toList== [49])=false:=by rw[beq_eq_false_iff_ne];exact U
   obtain⟨N,hN⟩:=eX (txt q.num);rw[<- hN];have a8:N.size <= 4000002:=by rw[hN];have:=pJ a0.o.1;have:=HK.o;omega
   have a9:T.size <= 4000002:=by rw[E];have:=pJ (a:=(q.den:Int)) (by rw[Int.natAbs_natCast];exact a0.o.2);have:=HK.o;omega
   have HE:Hid (N++ ⟨#[47]⟩++T=eF q):=lH (by rw[hN,E];exact sS F);have aa:(N++ ⟨#[47]⟩).size <= 4000003:=by rw[ByteArray.size_append];show N.size+1 <= _;omega
   clear E hN F;go_wp2_with fail
   rw[HE.o];go_returns;exact⟨rfl,t.o⟩
 ·have a6:0 <= sgI d:=by have:= @nZ d;omega
  have ab:decide (sgI d<0)=false:=decide_eq_false oM;have O:Hid (0<d):=lH oM;have HQ:Hid (Rat.divInt p d=q):=lH hq.symm;have X:=a3;have R:=a2;clear hn hd hq;go_wp2_with fail
  clear a6 ab;refine(pF p d _ X.o R.o).mono ?_;rintro e w2 ⟨rfl,h⟩;replace t:=bT t h;clear h;have M:Hid (((Nat.gcd p.natAbs d.natAbs:Nat):Int)≠0 /\ gu ((Nat.gcd p.natAbs d.natAbs:Nat):Int)):=lH ⟨by have:=sH p d O.o;omega,vK R.o (sI p d O.o)⟩;have Z:=lH (qG p d O.o);have Y:=lH (qH p d O.o);obtain⟨G,hG⟩:=eX (((Nat.gcd p.natAbs d.natAbs:Nat):Int));rw[<- hG] at M Z Y ⊢;clear hG;go_wp2_with fail
  refine(qU p G _ X.o M.o.2 M.o.1).mono ?_;rintro e w3 ⟨rfl,h⟩;replace t:=bT t h;clear h;rw[Z.o];go_wp2_with fail
  refine(qU d G _ R.o M.o.2 M.o.1).mono ?_;rintro e w4 ⟨rfl,h⟩;replace t:=bT t h;clear h;rw[Y.o];rw[HQ.o];by_cases F:q.den=1
  ·obtain⟨T,E⟩:=eX (txt (q.den:Int));rw[<- E];have U:T.toList= [49]:=by rw[E,F,ByteArray.toList_eq,jS];exact mY
   have a4:(T.toList== [49])=true:=by rw[U];rfl
   have a1:=lH F;clear E F;go_wp2_with fail
   rw[<- rP a1.o];go_returns;exact⟨rfl,t.o⟩
  ·obtain⟨T,E⟩:=eX (txt (q.den:Int));rw[<- E];have U:T.toList≠ [49]:=by rw[E];exact pG F
   have a4:(T.toList== [49])=false:=by rw[beq_eq_false_iff_ne];exact U
   obtain⟨N,hN⟩:=eX (txt q.num);rw[<- hN];have a8:N.size <= 4000002:=by rw[hN];have:=pJ a0.o.1;have:=HK.o;omega
   have a9:T.size <= 4000002:=by rw[E];have:=pJ (a:=(q.den:Int)) (by rw[Int.natAbs_natCast];exact a0.o.2);have:=HK.o;omega
   have HE:Hid (N++ ⟨#[47]⟩++T=eF q):=lH (by rw[hN,E];exact sS F);have aa:(N++ ⟨#[47]⟩).size <= 4000003:=by rw[ByteArray.size_append];show N.size+1 <= _;omega
   clear E hN F;go_wp2_with fail
   rw[HE.o];go_returns;exact⟨rfl,t.o⟩
theorem GV(a:Rat): -a=Rat.divInt (-a.num) (a.den:Int):=by
 conv=>lhs;rw[<- Rat.num_divInt_den a]
 rw[Rat.neg_divInt]
theorem GY(a b:Rat):gI (a.num* (b.den:Int)) (b.num* (a.den:Int))=jq a b:=sJ a b
set_option maxRecDepth 100000 in
set_option maxHeartbeats 1600000 in
theorem GZ(a:Rat)(k:Nat)(w:World)(G:RL k a)(M:4*k <= 4000000):
  Calls prog 21 #[.string (eF a)] w fun e w'=>e= .returned (.string (eF (-a))) /\ Below w.heap.size w w':=by
 have t:Hid (Below w.heap.size w w):=lH (Below.refl _ _);have E:=lH G;have F:=lH M;clear G M;go_enter func21,ntmps21;go_wp2_with fail
 refine(nu a k _ E.o (by have:=F.o;omega)).mono ?_;rintro e O ⟨rfl,h⟩;replace t:=bT t h;clear h;go_wp2_with fail
 refine(tF a.num _ (iT E.o.fE (by have:=F.o;omega)).few).mono ?_;rintro e O ⟨rfl,h⟩;replace t:=bT t h;clear h;go_wp2_with fail
 refine(vO (-a.num) (a.den:Int) (-a) k _ (GV a) (by have:=a.den_nz;omega) (by rw[Int.natAbs_neg];exact E.o.1) E.o.fB (by have:=F.o;omega)).mono ?_;rintro e O ⟨rfl,h⟩;replace t:=bT t h;clear h;go_wp2_with fail
 go_returns;exact⟨rfl,t.o⟩
set_option maxRecDepth 100000 in
set_option maxHeartbeats 1600000 in
theorem tO(a:Rat)(k:Nat)(w:World)(t:RL k a)(F:4*k <= 4000000):
  Calls prog 32 #[.string (eF a)] w fun e w'=>e= .returned (.int .i64 (sgI a.num)) /\ Below w.heap.size w w':=by
 have h:Hid (Below w.heap.size w w):=lH (Below.refl _ _);have G:=lH t;have M:=lH F;clear t F;go_enter func32,ntmps32;go_wp2_with fail
 refine(nu a k _ G.o (by have:=M.o;omega)).mono ?_;rintro e O ⟨rfl,E⟩;replace h:=bT h E;clear E;go_wp2_with fail
 refine(iy a.num _).mono ?_;rintro e O ⟨rfl,rfl⟩;go_wp2_with fail
 go_returns;exact⟨rfl,h.o⟩
set_option maxRecDepth 100000 in
set_option maxHeartbeats 1600000 in
theorem vP(a b:Rat)(k:Nat)(w:World)(O:RL k a)(h:RL k b)(R:4*k <= 4000000):
  Calls prog 33 #[.string (eF a), .string (eF b)] w fun e w'=>e= .returned (.string (eF (a*b))) /\ Below w.heap.size w w':=by
 have t:Hid (Below w.heap.size w w):=lH (Below.refl _ _);have F:=lH O;have G:=lH h;have E:=lH R;clear O h R;go_enter func33,ntmps33;go_wp2_with fail
 refine(nu a k _ F.o (by have:=E.o;omega)).mono ?_;rintro e M ⟨rfl,h⟩;replace t:=bT t h;clear h;go_wp2_with fail
 refine(nu b k _ G.o (by have:=E.o;omega)).mono ?_;rintro e M ⟨rfl,h⟩;replace t:=bT t h;clear h;go_wp2_with fail
 refine(o8 a.num b.num _ (iT F.o.fE (by have:=E.o;omega)) (iT G.o.fE (by have:=E.o;omega))).mono ?_;rintro e M ⟨rfl,h⟩;replace t:=bT t h;clear h;go_wp2_with fail
 refine(o8 (a.den:Int) (b.den:Int) _ (iT F.o.fB (by have:=E.o;omega)) (iT G.o.fB (by have:=E.o;omega))).mono ?_;rintro e M ⟨rfl,h⟩;replace t:=bT t h;clear h;go_wp2_with fail
 refine(vO _ _ (a*b) (k+k) _ (vv a b).symm (by have:=a.den_nz;have:=b.den_nz;exact Int.mul_ne_zero oM oM) (Lim.mul F.o.fE G.o.fE) (Lim.mul F.o.fB G.o.fB) (by have:=E.o;omega)).mono ?_;rintro e M ⟨rfl,h⟩;replace t:=bT t h;clear h;go_wp2_with fail
 go_returns;exact⟨rfl,t.o⟩
set_option maxRecDepth 100000 in
set_option maxHeartbeats 1600000 in
theorem vQ(a b:Rat)(k:Nat)(w:World)(R:RL k a)(t:RL k b)(T:4*k <= 4000000):
  Calls prog 114 #[.string (eF a), .string (eF b)] w fun e w'=>e= .returned (.string (eF (a+b))) /\ Below w.heap.size w w':=by
 have E:Hid (Below w.heap.size w w):=lH (Below.refl _ _);have G:=lH R;have M:=lH t;have F:=lH T;clear R t T;go_enter func114,ntmps114;go_wp2_with fail
 refine(nu a k _ G.o (by have:=F.o;omega)).mono ?_;rintro e O ⟨rfl,t⟩;replace E:=bT E t;clear t;go_wp2_with fail
 refine(nu b k _ M.o (by have:=F.o;omega)).mono ?_;rintro e O ⟨rfl,t⟩;replace E:=bT E t;clear t;go_wp2_with fail
 refine(o8 a.num (b.den:Int) _ (iT G.o.fE (by have:=F.o;omega)) (iT M.o.fB (by have:=F.o;omega))).mono ?_;rintro e O ⟨rfl,t⟩;replace E:=bT E t;clear t;go_wp2_with fail
 refine(o8 b.num (a.den:Int) _ (iT M.o.fE (by have:=F.o;omega)) (iT G.o.fB (by have:=F.o;omega))).mono ?_;rintro e O ⟨rfl,t⟩;replace E:=bT E t;clear t;go_wp2_with fail
 refine(vJ _ _ _ (iT (Lim.mul G.o.fE M.o.fB) (by have:=F.o;omega)).few (iT (Lim.mul M.o.fE G.o.fB) (by have:=F.o;omega)).few).mono ?_;rintro e O ⟨rfl,t⟩;replace E:=bT E t;clear t;go_wp2_with fail
 refine(o8 (a.den:Int) (b.den:Int) _ (iT G.o.fB (by have:=F.o;omega)) (iT M.o.fB (by have:=F.o;omega))).mono ?_;rintro e O ⟨rfl,t⟩;replace E:=bT E t;clear t;go_wp2_with fail
 refine(vO _ _ (a+b) (k+k+1) _ (uZ a b).symm (by have:=a.den_nz;have:=b.den_nz;exact Int.mul_ne_zero oM oM) (Lim.add (Lim.mul G.o.fE M.o.fB) (Lim.mul M.o.fE G.o.fB)) ((Lim.mul G.o.fB M.o.fB).mono oM) (by have:=F.o;by_cases h:k=0;subst h;decide;omega)).mono ?_;rintro e O ⟨rfl,t⟩;replace E:=bT E t;clear t;go_wp2_with fail
 go_returns;exact⟨rfl,E.o⟩
set_option maxRecDepth 100000 in
set_option maxHeartbeats 1600000 in
theorem H8(a b:Rat)(k:Nat)(w:World)(O:RL k a)(h:RL k b)(R:4*k <= 4000000):
  Calls prog 37 #[.string (eF a), .string (eF b)] w fun e w'=>e= .returned (.int .i64 (jq a b)) /\ Below w.heap.size w w':=by
 have t:Hid (Below w.heap.size w w):=lH (Below.refl _ _);have F:=lH O;have G:=lH h;have E:=lH R;clear O h R;go_enter func37,ntmps37;go_wp2_with fail
 refine(nu a k _ F.o (by have:=E.o;omega)).mono ?_;rintro e M ⟨rfl,h⟩;replace t:=bT t h;clear h;go_wp2_with fail
 refine(nu b k _ G.o (by have:=E.o;omega)).mono ?_;rintro e M ⟨rfl,h⟩;replace t:=bT t h;clear h;go_wp2_with fail
 refine(o8 a.num (b.den:Int) _ (iT F.o.fE (by have:=E.o;omega)) (iT G.o.fB (by have:=E.o;omega))).mono ?_;rintro e M ⟨rfl,h⟩;replace t:=bT t h;clear h;go_wp2_with fail
 refine(o8 b.num (a.den:Int) _ (iT G.o.fE (by have:=E.o;omega)) (iT F.o.fB (by have:=E.o;omega))).mono ?_;rintro e M ⟨rfl,h⟩;replace t:=bT t h;clear h;go_wp2_with fail
 refine(Gq _ _ _ (iT (Lim.mul F.o.fE G.o.fB) (by have:=E.o;omega)).few (iT (Lim.mul G.o.fE F.o.fB) (by have:=E.o;omega)).few).mono ?_;rintro e M ⟨rfl,h⟩;replace t:=bT t h;clear h;rw[GY];go_wp2_with fail
 go_returns;exact⟨rfl,t.o⟩
end
section
open Go.RowKit
open Lp (RL upd eu)
def fH(w:World)(v:Value)(n:Nat)(s:Nat -> ByteArray):Prop:=eY w v 30 n (fun j u=>u= .string (s j))
theorem fH.ts{w:World}{v:Value}{n:Nat}{s:Nat -> ByteArray}(h:fH w v n s):TS w v n s:=by
 obtain⟨A,c,t,h1,E⟩:=eY.shape h;subst t;refine⟨A,c,rfl,h1,E,?_⟩
 rcases Nat.eq_zero_or_pos n with h0 | h0
 ·exact .inl h0
 ·obtain⟨g,R,cs,t,M,_,F⟩:=eY.done h h0;simp only[Value.slice.injEq,true_and] at t;refine .inr ⟨g,0,t.1,fun j G=> ?_⟩;obtain⟨u,O,rfl⟩:=F j G;rw[Nat.zero_add];exact M.at_ j O
theorem fH.nil(w:World)(s:Nat -> ByteArray):fH w (.slice none 0 0) 0 s:=eY.nil _ _ _
set_option maxRecDepth 100000 in
theorem H9(F:Addr)(c:Nat)(w:World):
  Calls prog 29 #[.slice (some F) 0 c] w fun e w'=>∃v',e= .returned v' /\ fH w' v' 0 (fun _=>⟨#[]⟩) /\ (∀g,v'.ownBlock=some g -> w.heap.size <= g) /\ (∃g c',v'= .slice (some ⟨g,0,none⟩) 0 c') /\ Below w.heap.size w w':=by
 obtain⟨iN,T,a0,a1,a2⟩:=info_parts qW;have a4:∀ (w:World) (a:Option Addr) (n c E c':Nat),(binOp .eql 22 (.slice a n c) (.slice none E c')).run prog w= .ok (.bool a.isNone) w:=fun w a n c E c'=>Lib.run_eql_slice_nil w _ _ a n c E c' underlying22
 go_enter func29,ntmps29
 go_wp2_with (at_builtin;refine wpList_append_own _ rfl _ _ 22 rfl w.heap.size 30 iN _ 1 16 underlying22 T a0 a1 a2 rfl dC _ _ _ rfl (World.ownsRow_made w #[] 0 (Nat.le_refl _) (Nat.zero_le _) (by simp)) F 0 c [] rfl ?qc1 ?qc2 ?qc3 ?qc4 ?qc5 ?qc6 ?_)
 case qc1=>rfl
 case qc2=>intro j u h;simp at h
 case qc3=>intro u Z;simp at Z
 case qc4=>unfold maxLen;omega
 case qc5=>omega
 case qc6=>simp
 intro v' M Y R X
 go_wp2
 go_ret
 have t:M.ownsRow w.heap.size 30 1 v' 0 []:=by simpa using Y
 have G:fH M v' 0 (fun _=>⟨#[]⟩):=⟨_,sO t (Nat.zero_le _),fun j h=>absurd h oM⟩;obtain⟨A,c',hv,_,_⟩:=eY.shape G;refine⟨v',rfl,G,fun g O=>(t.lt g O).1,?_,((Below.refl _ w).alloc (Nat.le_refl _) _).grown R (by simp) (by intro k U;simp[Value.ownBlock] at U;omega)⟩
 rcases t.2 with ⟨rfl,_⟩ | ⟨g,cap,a3,rfl,_⟩
 ·exact absurd rfl X
 ·exact⟨g,cap,rfl⟩
theorem zX(v:Value)(n:Nat)(s:Nat -> ByteArray)(w:World)(h:TSA w v n s)(hn:n <= 1000000000):
  Calls prog 29 #[v] w fun e w'=>∃v',e= .returned v' /\ fH w' v' n s /\ (∀g,v'.ownBlock=some g -> w.heap.size <= g) /\ TSA w' v' n s /\ Below w.heap.size w w':=by
 obtain⟨T,⟨rfl,rfl⟩ | ⟨g,o,c,rfl⟩ | ⟨rfl,U,c,rfl⟩⟩:=h
 ·refine(GH 0 0 w).mono ?_;rintro e w' ⟨rfl,rfl⟩;exact⟨_,rfl,fH.nil _ _,fun g M=>by simp[Value.ownBlock] at M,⟨T, .inl ⟨rfl,rfl⟩⟩,Below.refl _ _⟩
 ·have X:∀ (j:Nat) u,((List.range n).map fun j=>Value.string (s j))[j]? =some u -> w.cell? ⟨g,o+j,none⟩=some u:=by
   intro j u t
   have R:j<n:=by
    have:=(List.getElem?_eq_some_iff.1 t).1
    simpa using this
   obtain⟨g',o',O,Y⟩:=T.at_ oM;simp only[Option.some.injEq,Addr.mk.injEq,and_true] at O;obtain⟨rfl,rfl⟩:=O;rw[Y j R];simp[R] at t;rw[t]
  refine(GG g o n c ((List.range n).map fun j=>Value.string (s j)) w (by simp) hn X (fun u hu=>by obtain⟨j,_,rfl⟩:=List.mem_map.1 hu;rfl)).mono ?_;rintro e w' ⟨v',rfl,E,a0,G⟩;have F:fH w' v' n s:=⟨_,sO E (Nat.zero_le _),fun j t=>⟨_,by simp[t],rfl⟩⟩;refine⟨v',rfl,F,fun g M=>(E.lt g M).1,⟨F.ts,?_⟩,G⟩
  rcases E.2 with ⟨rfl,h0⟩ | ⟨g',cap,a1,rfl,_⟩
  ·exact absurd rfl a0
  ·exact .inr (.inl ⟨g',0,cap,rfl⟩)
 ·refine(H9 U c w).mono ?_;rintro e w' ⟨v',rfl,E,Z,⟨g,c',rfl⟩,G⟩
  have F:fH w' (.slice (some ⟨g,0,none⟩) 0 c') 0 s:=by
   obtain⟨xs,h1,_⟩:=E;exact⟨xs,h1,fun j t=>absurd t oM⟩
  exact⟨_,rfl,F,Z,⟨F.ts, .inr (.inl ⟨g,0,c',rfl⟩)⟩,G⟩
theorem JZ(v u:Value)(n:Nat)(s:Nat -> ByteArray)(w:World)(F:TS w v n s)(E:TS w u n s)(O:n <= 1000000000):
  Calls prog 47 #[v,u] w fun e w'=>e= .returned (.bool true) /\ Below w.heap.size w w':=by
 obtain⟨A,c,rfl,_,_⟩:=F.shape;obtain⟨B,d,rfl,_,_⟩:=E.shape
 rcases Nat.eq_zero_or_pos n with h0 | h0
 ·subst h0;clear F E O;go_enter func47,ntmps47;go_wp2_with fail
  go_loopw [13] (fun R wr=>R= .int .i64 0 /\ wr=w) (fun _ _=>0)
  case atStart=>exact⟨rfl,rfl⟩
  case round=>
   obtain⟨rfl,rfl⟩:=hrel;go_wp2_with fail
   go_returns;exact⟨rfl,Below.refl _ _⟩
 ·obtain⟨g,o,rfl,G⟩:=F.at_ h0;obtain⟨g',T,rfl,M⟩:=E.at_ h0;refine(GK g o n c g' T n d ((List.range n).map s) ((List.range n).map s) w (by simp) (by simp) oM oM (fun j t=> ?_) (fun j t=> ?_)).mono ?_
  ·have h:j<n:=by simpa using t
   rw[G j h];simp[h]
  ·have h:j<n:=by simpa using t
   rw[M j h];simp[h]
  ·rintro e w' ⟨rfl,q,rfl⟩;refine⟨?_,below_drewN _ _ _⟩;rw[Lib.allEq_all _ _ _ rfl (fun j _=>by simp)]
set_option maxRecDepth 100000 in
set_option maxHeartbeats 3200000 in
theorem K3(v:Value)(n:Nat)(f:Nat -> Rat)(k:Nat)(w:World)(h:TS w v n (fun j=>eF (f j)))(hn:n <= 1000000000)(hl:∀j,j<n -> RL k (f j))(hk:4*k <= 4000000):
  Calls prog 30 #[v] w fun e w'=>∃v',e= .returned v' /\ fH w' v' n (fun j=>eF (-(f j))) /\ Below w.heap.size w w':=by
 obtain⟨A,c,rfl,_,_⟩:=h.shape;obtain⟨iN,a5,a7,a8,a9⟩:=info_parts qW;have HA:=lH h;have HL:=lH hl;have HK:=lH hk;clear h hl hk;go_enter func30,ntmps30;go_wp2_with fail
 go_loopw [3,8] (fun ov R wr=>∃ (q:Nat) (B:Option Addr) (d:Nat),q <= n /\ ov= .slice B q d /\ R= .int .i64 q /\ fH wr (.slice B q d) q (fun j=>eF (-(f j))) /\ Hid (∀g,(Value.slice B q d).ownBlock=some g -> w.heap.size <= g) /\ Below w.heap.size w wr) (fun _ R _=>n-(intOf R).toNat)
 case atStart=>exact⟨0,none,0,Nat.zero_le _,rfl,rfl,fH.nil _ _,lH (fun g hg=>by simp[Value.ownBlock] at hg),Below.refl _ _⟩
 case round=>
  obtain⟨q,B,d,hq,rfl,rfl,E,a0,X⟩:=hrel;have F:=lH E;have G:=lH a0.o;have t:=lH X;clear E a0 X;by_cases ab:((q:Nat):Int)<((n:Nat):Int)
  ·have a2:q<n:=oM
   obtain⟨gA,oA,rfl,Z⟩:=HA.o.at_ oM;have kc:=cell_below t.o (Z q a2);have aa:=eG kc;clear Z;go_wp2_with fail
   clear kc aa;refine(GZ (f q) k _ (HL.o q a2) HK.o).mono ?_;rintro e w2 ⟨rfl,M⟩;replace F:Hid (fH w2 (.slice B q d) q (fun j=>eF (-(f j)))):=lH (eY.below F.o M);replace t:=bT t M;clear M
   go_wp2_with (at_builtin;(refine wpList_plain rfl fun K hK=>qO _ (.tmp 12) (.tmp 15) 22 rfl 30 iN (.string ⟨#[]⟩) 16 underlying22 a5 a7 a8 a9 rfl (.slice B q d) q _ rfl F.o (.string (eF (-(f q)))) rfl rfl rfl ⟨by unfold maxLen;omega,by omega⟩ ?_))
   intro va w3 E O;obtain⟨T,U,a6,_,_⟩:=eY.shape E;subst a6;have Y:=O.below (B:=w.heap.size) t.o.size G.o;have a1:=O.base t.o.size G.o;have a4:Hid (fH w3 (.slice T (q+1) U) (q+1) (fun j=>eF (-(f j)))):=lH E;replace t:=lH (t.o.trans Y);have a3:=lH a1;clear Y a1 E O F G;refine hK _ _ ?_;go_wp2_with fail
   go_roundw
   case rel=>exact⟨q+1,T,U,by omega,rfl,by go_num,a4.o,a3,t.o⟩
   case measure=>exact mZ
  ·obtain rfl:q=n:=oM
   go_wp2_with fail
   go_returns;exact⟨_,rfl,F.o,t.o⟩
end
section
open Go.ChangeShapes Go.WideShapes Go.ChangeAt Go.RowKit
theorem own:ownKnob prog.godebug=none:=by kernel_rfl
theorem Ha:prog.globalNamed "internal/strconv.uint64pow10" =some 1:=by kernel_rfl
theorem Hd:(prog.globals[1]?).map (·.type)=some 261:=by kernel_rfl
theorem laidOut:laidOutB prog=true:=by kernel_rfl
section
variable {H:Type} {enc:TypeId × Value -> H} {P:Program}
theorem zY(T:laidOutB P=true){W O:World}(R:Below W.heap.size W O){U:Nat -> Bool}:∀ {ts:List TypeId} {vs:List Value} {ds:List (DataW H)} {M:List MemPlace},
  (ts.all fun t=>P.readableRec t && decide (t<P.types.size))=true -> DataW.TrodAll enc P W 0 (fun _=>true) true ts vs ds M -> (∀p ∈ M,p.block<W.heap.size /\ U p.block=true) -> DataW.TrodAll enc P O 0 U true ts vs ds M
 | [],_,_,_,_,h,_=>by
  obtain⟨rfl,rfl,rfl⟩:=trodAll_nil h;exact h
 | t::ts,_,_,_,F,h,G=>by
  obtain⟨v,Z,d,Y,a,b,rfl,rfl,rfl,h1,X⟩:=trodAll_cons h;simp only[List.all_cons,Bool.and_eq_true,decide_eq_true_eq] at F;refine⟨a,b,WideElems.Trod_stays T F.1.1 F.1.2 h1 (fun x E=>R.same (G x (by simp[E])).1) (fun x E=>(G x (by simp[E])).2),?_,rfl⟩;exact zY T R F.2 X (fun x E=>G x (by simp[E]))
theorem zZ{f:Func}{s:ChangeSpec}{apart fresh a4 a3:Bool}{W O:World}{args:Array Value}{v:Value}{G M:List (DataW H)}{F:List MemPlace}
  (U:DataW.Whole enc P f.params.toList s.vars apart W args.toList G M F) (hl:laidOutB P=true) (a8:(f.params.toList.all fun t=>P.readableRec t && decide (t<P.types.size))=true)
  (hv:s.vars= []) (hA:DataW.TrodAll enc P W 0 (fun _=>true) true f.params.toList args.toList G F) (a5:(s.fn H (G++M)).args=G) (a9:(s.fn H (G++M)).vars= [])
  (a0:∀ (b:Nat) (T:Nat -> Bool) (hd:Bool),DataW.TrodAll enc P O b T hd f.resultTypes.toList (v.resultList f.resultTypes.size) (s.fn H (G++M)).results [])
  (X:Below W.heap.size W O)
  (a6:∀ (j:Nat) (t:TypeId) (r:Value),f.resultTypes[j]? =some t -> (v.resultList f.resultTypes.size)[j]? =some r -> Value.okWide P O .any 0 t r):
  s.post enc P f apart fresh a4 a3 W args v O:=by
 have R:∀p ∈ F,p.block<W.heap.size:=fun p E=>U.lt p E
 have a7:∀p ∈ F,p.block<W.heap.size /\ (fun b=>decide (b<W.heap.size)) p.block=true:=fun p E=>⟨R p E,by simpa using R p E⟩
 have a1:∀T:Nat -> Bool,DataW.TrodVars enc P O T s.vars (s.fn H (G++M)).vars []:=fun T=>by rw[hv,a9];exact rfl
 have hA1:∀Y:Nat -> Bool,(∀p ∈ F,Y p.block=true) -> DataW.TrodAll enc P O 0 Y true f.params.toList args.toList (s.fn H (G++M)).args F:=fun Y h=>by
  rw[a5];exact zY hl X a8 hA (fun p E=>⟨R p E,h p E⟩)
 refine⟨G,M,F,[],F,[],U,a0 _ _ _,hA1 _ (fun p E=>(a7 p E).2),a1 _,X.frame _,fun _=> ?_⟩
 ·obtain⟨_,_,_,_,he,hz,hn⟩:=U;refine⟨a6,_,_,([]++F)++ [],⟨[]++F,[],trodAll_append (hA1 _ (fun _ _=>rfl)) (a0 _ _ _),a1 _,rfl,?_,?_⟩,?_⟩
  ·intro b a2 E;have Z:MemPlace.cell b a2 ∈ F:=by simpa using E
   rw[X.frozen (by exact R _ Z)];exact hz b a2 Z
  ·intro ha
   simpa using hn ha
  ·intro p E _
   simpa using E
end
set_option maxRecDepth 100000 in
theorem K4{W:World}{base:Nat}{v:Value}{H:Type}{enc:TypeId × Value -> H}{d:DataW H}{Z:List MemPlace}(h:Value.okWide prog W .any base 22 v)(R:DataW.Trod enc prog W 0 (fun _=>true) true 22 v d Z):
  ∃n s,TSA W v n s:=by
 obtain⟨a,n,c,rfl⟩:=okWide_slice underlying22 h;obtain⟨fuel,T⟩:=R
 have t:Cell.ok prog W .any base 22 (.slice a n c):=by
  unfold Value.okWide Cell.okWide at h;rw[underlying22] at h;exact h
 unfold Cell.ok at t;rw[underlying22] at t
 rcases Go.Deep.open_strs underlying22 underlying30 kR T with ⟨h0,_⟩ | ⟨G,len,cap,m,F,h0,_,U,X,Y,_,O⟩
 ·simp[Value.cells] at h0;obtain⟨rfl,rfl,rfl⟩:=h0;exact⟨0,fun _=>⟨#[]⟩,⟨_,_,rfl,Nat.le_refl _,Nat.zero_le _, .inl rfl⟩, .inl ⟨rfl,rfl⟩⟩
 ·simp[Value.cells] at h0;obtain⟨rfl,rfl,rfl⟩:=h0;obtain⟨_,_,_,E,_⟩:=t;obtain⟨b,o,a0⟩:=G;simp only at E;subst E;refine⟨n,F,⟨_,_,rfl,U,X, .inr ⟨b,o,rfl,fun j hj=> ?_⟩⟩, .inr (.inl ⟨b,o,c,rfl⟩)⟩;have h1:=(O j (by rw[Y];split <;> omega)).1
  have M:(⟨b,o,none⟩:Addr).add j=⟨b,o+j,none⟩:=by
   unfold Addr.add;by_cases e:j=0
   ·rw[if_pos e,e];rfl
   ·rw[if_neg e]
  rw[<- M];exact h1
theorem Al{W:World}(h:W.ShapedOpen prog):iG W:=Tryz.Da.s1_3 W h
theorem Aw{W:World}{rest:List (String × DataW Unit)}(h:laidMet prog (("math/bits.deBruijn32tab",Rows.laid_math_bits_deBruijn32tab):: ("math/bits.deBruijn64tab",Rows.laid_math_bits_deBruijn64tab):: ("internal/strconv.uint64pow10",Rows.laid_internal_strconv_uint64pow10)::rest) W):Tab W:=
 Lib.tabIs_of_head (rest:=rest) (k:= .u64) (zs:=Lib.pow10Tab) (n:=20) Ha Hd underlying261 underlying163 kR kR h.tail.tail
noncomputable def qZ(os:Os):World:=
 let N:=(World.holding prog default ⟨#[], #[],[]⟩).heap.size
 let w0:=World.holding prog os ⟨#[.cells #[.string ⟨#[105,110,118,97,108,105,100,32,115,121,110,116,97,120]⟩] 274, .cells #[.string ⟨#[118,97,108,117,101,32,111,117,116,32,111,102,32,114,97,110,103,101]⟩] 274], #[],[]⟩
 let put (h:Array Obj) (g:Nat) (cs:Array Value):Array Obj:=h.modify g fun
  | .cells _ t frozen=> .cells cs t frozen
  | o=>o
 let u8s (l:List Int):Array Value:=(l.map fun z=>Value.int .u8 z).toArray
 let h0:=put (put w0.heap 4 #[.iface 272 (.pointer (some ⟨N,0,none⟩))]) 5 #[.iface 272 (.pointer (some ⟨N+1,0,none⟩))]
 let h1:=put h0 1 (Lib.pow10Tab.map fun z=>Value.int .u64 z).toArray
 let h2:=put h1 6 (u8s [0,1,28,2,29,14,24,3,30,22,20,15,25,17,4,8,31,27,13,23,21,19,16,7,26,12,18,6,11,5,10,9])
 let h3:=put h2 7 (u8s [0,1,56,2,57,49,28,3,61,58,42,50,38,29,17,4,62,47,59,36,45,43,51,22,53,39,33,30,24,18,12,5,63,55,48,27,60,41,37,16,46,35,44,21,52,32,23,11,54,26,40,15,34,20,31,10,25,14,19,9,13,8,7,6])
 let h4:=put h3 3 (u8s ([128,191,160,191,128,159,144,191,128,143]++List.replicate 22 0))
 let h5:=put h4 2 (u8s (Go.Pinned.utf8FirstZ.map fun(n:Nat)=>(n:Int)))
 {w0 with heap:=h5}
theorem AA(h:Os)(args:Array Value):laidMet prog Rows.linearEquationsRow.laid ((qZ h).forCall (fun _ _=>0) ⟨#[],args,[]⟩).memory:=
 laidMet_of_run' 8 kR kR
end
section
open Go.ChangeShapes
theorem He:mapsRowed prog=true:=by kernel_rfl
theorem Hf:prog.stopsHeard=true:=by kernel_rfl
theorem Hg:prog.mayEnter=true:=by kernel_rfl
theorem Hl:prog.liftsFinal=Rows.linearEquationsRow.lifted:=by kernel_rfl
theorem Hm:prog.plainKeys=Rows.linearEquationsRow.plainKeys:=by kernel_rfl
set_option maxRecDepth 100000 in
theorem AB{f:FuncId}{fn:Func}{s:ChangeSpec}{c:OpenClaim}(h1:c.inPlace=prog.inPlace f)(h2:c.unfollowed=prog.unfollowed f)(h3:c.recurses=prog.recurses f)(h4:c.named=prog.varsNamed f)
  (h5:c.lifted=Rows.linearEquationsRow.lifted) (h6:c.plainKeys=Rows.linearEquationsRow.plainKeys)
  (h:(c.wf (OpenSpec.ofChange s) && fn.params.all (prog.readableRec ·) && namedTie prog c.named s.vars && (c.stops== []) && (prog.stops== []) && (c.knobs== []) && (prog.stopKnobs== []) &&
   (c.maps== (fn.params.toList++s.plain.varTypes prog).any (prog.mapsRec ·)) && (c.ifaces== (fn.params.toList++s.plain.varTypes prog).any (prog.ifacesRec ·)) && (c.mapsOut==prog.mapsAmong fn.resultTypes.toList) &&
   (c.loops== (fn.params.toList++s.plain.varTypes prog).any (prog.loopsFrom ·)) && (c.wideKeys== (fn.params.toList++s.plain.varTypes prog++fn.resultTypes.toList).any (prog.wideKeysFrom ·)) &&
   s.vars.all (prog.varReadable ·) && fn.resultTypes.all (fun t=>prog.readableRec t && decide (t<prog.types.size)) && (c.ifacesOut==fn.resultTypes.toList.any (prog.ifacesRec ·)) && (c.loopsOut==fn.resultTypes.toList.any (prog.loopsFrom ·)) && c.shortTexts.isNone && (prog.make==some c.make) && (c.kinds== (if c.domain.isEmpty then [] else fn.params.toList.map fun t=>match prog.underlying t with | some (.int k)=>some k | _=>none)) && (c.pinned==c.pinnedBy) &&
   (c.veiled== (fn.params.toList++s.plain.varTypes prog++fn.resultTypes.toList).any (prog.veiledRec ·)) && c.veiledFits prog fn.params.toList (fn.params.toList++s.plain.varTypes prog++fn.resultTypes.toList))=true):joinedFacts prog f fn s c=true:=by
 simp only[Bool.and_eq_true] at h;simp only[joinedFacts,Bool.and_eq_true];obtain⟨⟨⟨⟨⟨⟨⟨⟨⟨⟨⟨⟨⟨⟨⟨⟨⟨⟨⟨⟨⟨E,a2⟩,a3⟩,a4⟩,a5⟩,a6⟩,a7⟩,a8⟩,a9⟩,F⟩,G⟩,M⟩,O⟩,R⟩,T⟩,U⟩,X⟩,Y⟩,Z⟩,a0⟩,aa⟩,ab⟩:=h;have q:∀ {α:Type} [BEq α] [LawfulBEq α] {x y:α},x=y -> (x==y)=true:=fun h=>by rw[h];simp
 exact⟨⟨⟨⟨⟨⟨⟨⟨⟨⟨⟨⟨⟨⟨⟨⟨⟨⟨⟨⟨⟨⟨⟨⟨⟨⟨⟨⟨⟨⟨⟨E,laidOut⟩,He⟩,a2⟩,a3⟩,a4⟩,a5⟩,a6⟩,a7⟩,q h1⟩,q h2⟩,q h3⟩,q h4⟩,a8⟩,a9⟩,F⟩,G⟩,M⟩,O⟩,R⟩,T⟩,U⟩,by rw[h6,Hm];simp⟩,X⟩,Hf⟩,Hg⟩,by rw[h5,Hl];simp⟩,Y⟩,Z⟩,a0⟩,aa⟩,ab⟩
end
section
open Go.RowKit
open Lp (RL upd eu)
set_option maxRecDepth 100000 in
set_option maxHeartbeats 3200000 in
theorem tQ(va:Value)(a:Rat)(R:Nat)(w:World)(ha:eO w va a)(hl:RL R a)(a0:R <= 1000000)(ht:Tab w):
  Calls prog 68 #[va] w fun e w'=>e= .returned (.string (eF a)) /\ Below w.heap.size w w':=by
 obtain⟨sa,Aa,la,ca,ta,Ba,ma,da,rfl⟩:=ha.shape;obtain⟨ag,y,af,hy⟩:=ha.parts;have X:=lH hl;have HY:=lH hy;obtain⟨W,hW,M,t⟩:=eN1 w [.bool sa, .slice Aa la ca, .bool ta, .slice Ba ma da] 105;have Va:=lH ((ha).below t.o);have Vn:=lH ((ag).below t.o);have Vd:=lH ((af).below t.o);go_enter func68,ntmps68;have O:=lH (ht.below (show Below w.heap.size w W by have:=t.o;exact this));clear ha hl hy ag af ht;obtain⟨a3,a4,a5,a6⟩:=aT4 M.o;have a7:=M.o.lt;rw[hW] at a3 a4 a5 a6 a7;go_wp2_with fail
 rw[<- hW];clear hW a3 a4 a5 a6 a7;refine(lG _ a _ Va.o (X.o.mono oM)).mono ?_;rintro e w1 ⟨rfl,T⟩;replace Vn:=lH (Vn.o.below T);replace Vd:=lH (Vd.o.below T);replace M:=rW M T;replace t:=bT t T;replace O:=lH (O.o.below T);clear T;by_cases U:a.den=1
 ·have ak:decide (a.den=1)=true:=decide_eq_true U;have a2:=lH U;clear U;obtain⟨a3,a4,a5,a6⟩:=aT4 M.o;have a7:=M.o.lt;go_wp2_with fail
  clear a3 a4 a5 a6 a7;refine(vF _ a.num R _ Vn.o X.o.1 a0 O.o).mono ?_;rintro e w2 ⟨rfl,F⟩;replace t:=bT t F;clear F;rw[<- rP a2.o];go_wp2_with fail
  go_returns;exact⟨rfl,t.o⟩
 ·have ak:decide (a.den=1)=false:=decide_eq_false U;have a2:=lH U;have ah:y=a.den:=by rcases HY.o with h | h;exact h;exact absurd h.2 a2.o
  have VD:Hid (eQ w1 (.agg #[.bool ta, .slice Ba ma da]) (a.den:Int)):=lH (by have h:=Vd.o;rw[ah] at h;exact h);clear U ah Vd;have a9:Hid (((a.den:Nat):Int).natAbs<10^R):=lH (by rw[Int.natAbs_natCast];exact X.o.2);have aa:Hid ((txt a.num).size <= 1000002):=lH (zA X.o.1 a0);have ai:Hid ((txt (a.den:Int)).size <= 1000002):=lH (zA a9.o a0);go_wp2_with fail
  have G:=rG w1;have aj:=M.o.lt;obtain⟨ab,ac,ad,ae⟩:=aT4 M.o;have Y:=lH (kC ab (kC ac (kC ad (kN ae))));clear aj ab ac ad ae;refine rL Y.o (fun i=>false) ?_;have E:=Y.o _ G.o;refine tKs 0 8 E ?_;refine tKs 1 9 E ?_;refine tKs 4 12 E ?_;refine tKs 5 13 E ?_;refine rD 2 (fun K Z=> ?_);go_simp;refine(vF _ a.num R _ (by exact Vn.o) X.o.1 a0 (by exact O.o)).mono ?_;rintro e w2 ⟨rfl,F⟩;have F:Below w1.heap.size w1 w2:=bD F;replace VD:=lH (VD.o.below F);replace t:=bT t F;replace O:=lH (O.o.below F);replace G:=bT G F;clear E F;have E:=Y.o _ G.o;refine kH Z E ?_;clear Z K;refine jf (i:=3) (v:= .string (txt a.num++ ⟨#[47]⟩)) (some 11) rfl (by rfl) kR kR kR kR (fun _ _ _ h=>h) (Or.inl ⟨by rfl,?_⟩) E ?_
  ·(intro w' a8;clear a8;go_simp;have:=aa.o;omega)
  simp only[Act.put,List.setIfInBounds_toArray,List.set_cons_zero,List.set_cons_succ];refine rD 6 (fun K Z=> ?_);go_simp;refine(vF _ (a.den:Int) R _ (by exact VD.o) a9.o a0 (by exact O.o)).mono ?_;rintro e w3 ⟨rfl,a1⟩;have a1:Below w2.heap.size w2 w3:=bD a1;replace t:=bT t a1;replace G:=bT G a1;clear E a1;have E:=Y.o _ G.o;refine kH Z E ?_;clear Z K;refine jf (i:=7) (v:= .string (txt a.num++ ⟨#[47]⟩++txt (a.den:Int))) (some 15) rfl (by rfl) kR kR kR kR (fun _ _ _ h=>h) (Or.inl ⟨by rfl,?_⟩) E ?_
  ·(intro w' a8;clear a8;go_simp;have h1:=aa.o;have h2:=ai.o;(try simp only[ByteArray.size_append]);first | omega | (simp;omega) | (show(txt a.num).size+1+ (txt (a.den:Int)).size <= _;omega))
  simp only[Act.put,List.setIfInBounds_toArray,List.set_cons_zero,List.set_cons_succ];refine tKs 8 2 E ?_;refine dN ?_ _;clear E Y G;go_wp2_with fail
  rw[sS a2.o];go_returns;exact⟨rfl,t.o⟩
end
section
open Go.RowKit
open Lp (RL upd eu)
def SK(w:World)(g n:Nat)(s:Nat -> ByteArray):Prop:=∃cs:List Value,Row w g 30 cs /\ n <= cs.length /\ ∀j,j<n -> cs[j]? =some (.string (s j))
section
variable {w w':World} {g n:Nat} {s:Nat -> ByteArray}
theorem SK.lt(h:SK w g n s):g<w.heap.size:=by obtain⟨cs,t,_⟩:=h;exact t.lt
theorem SK.below(h:SK w g n s)(E:Below w.heap.size w w'):SK w' g n s:=by obtain⟨cs,t,h⟩:=h;exact⟨cs,t.below E t.lt,h⟩
theorem SK.other{g':Nat}(h:SK w g n s)(t:w.grownBy w' (some g'))(E:g≠g'):SK w' g n s:=by obtain⟨cs,F,h⟩:=h;exact⟨cs,F.other t E,h⟩
theorem SK.at_(h:SK w g n s){j:Nat}(t:j<n): w.cell? ⟨g,j,none⟩=some (.string (s j)):=by obtain⟨cs,E,_,h⟩:=h;exact E.at_ _ (h j t)
theorem SK.free(h:SK w g n s)(j:Nat): w.frozen? ⟨g,j,none⟩=false:=by obtain⟨cs,t,_⟩:=h;exact t.free j
theorem SK.congr{s':Nat -> ByteArray}(h:SK w g n s)(G:∀j,j<n -> s j=s' j):SK w g n s':=by
 obtain⟨cs,F,E,h⟩:=h;exact⟨cs,F,E,fun j t=>by rw[<- G j t];exact h j t⟩
theorem SK.set(h:SK w g n s){j:Nat}{x:ByteArray}(G:j<n):SK (w.setCell ⟨g,j,none⟩ (.string x)) g n (upd s j x):=by
 obtain⟨cs,F,E,h⟩:=h;refine⟨_,F.set j _,by simpa using E,fun k t=> ?_⟩;by_cases e:k=j
 ·subst e;rw[Lp.upd_same];simp[List.getElem?_set];omega
 ·rw[List.getElem?_set_ne oM,Lp.eT _ _ e];exact h k t
theorem SK.row(h:SK w g n s):∃cs,Row w g 30 cs:=by obtain⟨cs,t,_⟩:=h;exact⟨cs,t⟩
theorem SK.ts(h:SK w g n s){c:Nat}(t:n <= c)(F:c <= maxLen):TS w (.slice (some ⟨g,0,none⟩) n c) n s:=⟨_,_,rfl,t,F, .inr ⟨g,0,rfl,fun j E=>by rw[Nat.zero_add];exact h.at_ E⟩⟩
theorem SK.tsa(h:SK w g n s){c:Nat}(t:n <= c)(E:c <= maxLen):TSA w (.slice (some ⟨g,0,none⟩) n c) n s:=⟨h.ts t E, .inr (.inl ⟨g,0,c,rfl⟩)⟩
end
theorem Ho:(prog.info? 30).map (fun i=>(i.zero,i.size,i.bytes))=some (some (.string ⟨#[]⟩),1,16):=by kernel_rfl
theorem SK.made{w:World}{base g n:Nat}(h:w.ownsRow base 30 1 (.slice (some ⟨g,0,none⟩) n n) n (madeCells (Value.string ⟨#[]⟩).cells (n*1)).toList):SK w g n (fun _=>⟨#[]⟩):=by
 have E:=Row.made (z:= .string ⟨#[]⟩) (by rw[Nat.mul_one] at h;exact h);refine⟨_,E,by simp,fun j t=> ?_⟩;rw[List.getElem?_replicate,if_pos t]
theorem AJ(w:World){ops:Array Oper}{rest:List Oper}{o:Oper}{a:Act}{Q:Exit -> Act -> World -> Prop}
  (M:o.guard=none) (l c:Operand) (U:o.op=Op.makeSlice 22 l c) (L C:Int) (n:Nat) (T:a.eval l= .int .i64 L) (G:a.eval c= .int .i64 C) (F:L=(n:Int)) (t:C=(n:Int)) (b2:n <= 4398046511104)
  (E:∀w',SK w' w.heap.size n (fun _=>⟨#[]⟩) -> Below w.heap.size w w' -> w.heap.size<w'.heap.size -> wpList prog ops Q rest (a.put o.dst (.slice (some ⟨w.heap.size,0,none⟩) n n)) w'):
  wpList prog ops Q (o::rest) a w:=by
 obtain⟨i,R,Y,Z,a0⟩:=info_parts Ho;refine wpList_make_full w M l c _ U w.heap.size _ i _ 1 underlying22 R Y Z .i64 .i64 L C n T G F t (by rw[a0];omega) (by unfold maxLen;omega) (Nat.le_refl _) ?_;intro w' X O;have h:=SK.made X;exact E w' h ((Below.refl _ _).grown O (Nat.le_refl _) (by simp)) h.lt
end
section
open Go.RowKit
open Lp (RL upd eu)
set_option maxRecDepth 100000 in
set_option maxHeartbeats 6400000 in
theorem om(va:Value)(n X:Nat)(f:Nat -> Rat)(w:World)(ha:eZ w va n f)(hn:n <= 1000000000)(hl:∀j,j<n -> RL X (f j))(ae:X <= 1000000)(ht:Tab w):
  Calls prog 77 #[va] w fun e w'=>∃g,e= .returned (.slice (some ⟨g,0,none⟩) n n) /\ w.heap.size <= g /\ SK w' g n (fun j=>eF (f j)) /\ Below w.heap.size w w':=by
 obtain⟨A,c,rfl,al,am⟩:=ha.shape;have HA:=lH ha;have HL:=lH hl;have HT:=lH ht;clear ha hl ht;go_enter func77,ntmps77
 go_wp2_with (at_make;refine AJ _ rfl (.tmp 7) (.tmp 7) rfl _ _ n rfl rfl rfl rfl oM ?_)
 intro w1 F E af;have a1:=lH F;have a2:=lH E;clear F E af;go_wp2_with fail
 go_loopw [11] (fun iv wr=>∃k:Nat,k <= n /\ iv= .int .i64 k /\ SK wr w.heap.size n (fun j=>if j<k then eF (f j) else⟨#[]⟩) /\ Below w.heap.size w wr)
  (fun iv _=>n-(intOf iv).toNat)
 case atStart=>exact⟨0,Nat.zero_le _,rfl,a1.o.congr (fun j _=>by rw[if_neg oM]),a2.o⟩
 case round=>
  clear a1 a2;obtain⟨k,hk,rfl,a4,a5⟩:=hrel;have h:=lH a4;have t:=lH a5;clear a4 a5;by_cases ap:((k:Nat):Int)<(n:Nat)
  ·have O:k<n:=oM
   obtain⟨gA,rfl,F⟩:=HA.o.at_ oM;have a6:=F.below t.o;have an:=F.lt;obtain⟨sx,T,lx,Z,tx,U,mx,dx,a3,a7⟩:=(a6).fO O;have Y:=lH a3;have G:=lH a7;clear a3 a7;clear F a6;obtain⟨ag,ah,ai,aj⟩:=Y.o;have ak:=Y.o.lt;clear Y;have M:=hN wr [.bool sx, .slice T lx Z, .bool tx, .slice U mx dx] 105;have E:=eD wr (.cells #[.bool sx, .slice T lx Z, .bool tx, .slice U mx dx] 105);obtain⟨w1,R⟩:=eX (wr.alloc (.cells #[.bool sx, .slice T lx Z, .bool tx, .slice U mx dx] 105));rw[<- R] at M E;have ao:=h.o.lt;replace G:=lH (G.o.below E);replace h:=lH (h.o.below E);replace t:=bT t E;clear E;obtain⟨a8,a9,aa,ab⟩:=aT4 M.o;have ac:=M.o.lt;rw[R] at a8 a9 aa ab ac;go_wp2_with fail
   rw[<- R];clear R a8 a9 aa ab ac ag ah ai aj ak;refine(tQ _ (f k) X _ G.o (HL.o k O) ae (HT.o.below t.o)).mono ?_;rintro e w2 ⟨rfl,a0⟩;replace h:=lH (h.o.below a0);replace t:=bT t a0;clear a0 M G;have kg:=h.o.at_ O;have fg:=h.o.free k;have kl:=h.o.lt;have hg:World.grownBy w2 (w2.setCell ⟨w.heap.size,k,none⟩ (.string (eF (f k)))) (some w.heap.size):=grownBy_set _ _ _ _;have BN:=h.o.set (x:=eF (f k)) O;have ad:=t.o.grown hg t.o.size (by first | (simp;done) | (simp;omega));go_wp2_with fail
   clear kg fg kl;go_roundw
   case rel=>
    refine⟨k+1,by omega,by simp,BN.congr (fun j hj=> ?_),ad⟩;by_cases e:j=k
    ·subst e;rw[Lp.upd_same,if_pos oM]
    ·rw[Lp.eT _ _ e];by_cases e2:j<k
     ·rw[if_pos e2,if_pos oM]
     ·rw[if_neg e2,if_neg oM]
   case measure=>exact mZ
  ·obtain rfl:n=k:=oM
   go_wp2_with fail
   go_returns;exact⟨_,rfl,Nat.le_refl _,h.o.congr (fun j hj=>if_pos hj),t.o⟩
end
section
open Go.RowKit
open Lp (RL upd eu)
theorem AL{a:Int}:sgI a<0↔a<0:=by unfold sgI;split <;> (try split) <;> omega
theorem AQ{a:Int}:0<sgI a↔0<a:=by unfold sgI;split <;> (try split) <;> omega
theorem AV{q:Rat}:q.num<0↔q<0:=by
 rw[<- Rat.not_le, <- Rat.num_nonneg];omega
theorem vR{q:Rat}:0<q.num↔0<q:=by
 have h1:= @Rat.num_nonneg q;have t:= @Rat.num_eq_zero q;constructor
 ·intro h;exact Rat.lt_of_le_of_ne (h1.1 oM) (fun e=>by have:=t.2 e.symm;omega)
 ·intro h;have E:=h1.2 (Rat.le_of_lt h);have F:q.num≠0:=fun e=>by have:=t.1 e;rw[this] at h;exact absurd h Rat.lt_irrefl
  omega
theorem pK{q:Rat}(h:q<0):sgI q.num<0:=AL.2 (AV.2 h)
theorem pM{q:Rat}(h:0 <= q):0 <= sgI q.num:=by
 have h1:=Rat.num_nonneg.2 h;exact Int.not_lt.1 (fun e=>by have:=AL.1 e;omega)
theorem vS{q:Rat}(h:0<q):0<sgI q.num:=AQ.2 (vR.2 h)
theorem vT{q:Rat}(h:q <= 0):sgI q.num <= 0:=by
 have t:¬0<q:=Rat.not_lt.2 h;exact Int.not_lt.1 (fun e=>t (vR.1 (AQ.1 e)))
def jw(n b:Nat)(o:Nat -> Nat)(f:Nat -> Rat)(out:Int):Prop:=
 (out= -1 /\ ∀c,c<b -> n <= o c -> 0 <= f c) \/ ∃x:Nat,out=(x:Nat) /\ x<b /\ n <= o x /\ f x<0 /\ ∀c,c<b -> n <= o c -> o c<o x -> 0 <= f c
theorem tT{n k:Nat}{o:Nat -> Nat}{f:Nat -> Rat}{out:Int}(h:jw n k o f out)(F:n <= o k -> 0 <= f k):jw n (k+1) o f out:=by
 rcases h with ⟨h1,E⟩ | ⟨x,h1,E,G,M,O⟩
 ·exact .inl ⟨h1,fun c R t=>by by_cases e:c=k;subst e;exact F t;exact E c oM t⟩
 ·exact .inr ⟨x,h1,by omega,G,M,fun c R t T=>by by_cases e:c=k;subst e;exact F t;exact O c oM t T⟩
theorem Bf{n k x:Nat}{o:Nat -> Nat}{f:Nat -> Rat}(h:jw n k o f (x:Nat))(O:¬o k<o x):jw n (k+1) o f (x:Nat):=by
 rcases h with ⟨h1,E⟩ | ⟨y,h1,E,F,G,M⟩
 ·omega
 ·obtain rfl:x=y:=oM
  exact .inr ⟨x,rfl,by omega,F,G,fun c T R t=>by by_cases e:c=k;subst e;exact absurd t O;exact M c oM R t⟩
theorem Bj{n k:Nat}{o:Nat -> Nat}{f:Nat -> Rat}(h:jw n k o f (-1))(F:n <= o k)(E:f k<0):jw n (k+1) o f (k:Nat):=by
 rcases h with ⟨h1,t⟩ | ⟨x,h1,t,M,O,R⟩
 ·exact .inr ⟨k,rfl,by omega,F,E,fun c T G U=>by by_cases e:c=k;subst e;omega;exact t c oM G⟩
 ·omega
theorem Bl{n k x:Nat}{o:Nat -> Nat}{f:Nat -> Rat}(h:jw n k o f (x:Nat))(G:n <= o k)(F:f k<0)(U:o k<o x):jw n (k+1) o f (k:Nat):=by
 rcases h with ⟨h1,t⟩ | ⟨y,h1,t,O,R,E⟩
 ·omega
 ·obtain rfl:x=y:=oM
  exact .inr ⟨k,rfl,by omega,G,F,fun c T M X=>by by_cases e:c=k;subst e;omega;exact E c oM M oM⟩
set_option maxRecDepth 100000 in
set_option maxHeartbeats 6400000 in
theorem Hq(L:Lay)(m n i:Nat)(D:eu)(w:World)(hT:fq w L m n D)(hi:i<m)(hm:m <= 4611686018427387904)(hn:n <= 4611686018427387904):
  Calls prog 131 #[.pointer (some ⟨L.gt,0,none⟩), .int .i64 i] w fun e w'=>∃out:Int,e= .returned (.int .i64 out) /\ jw n n D.off (D.cell i) out /\ Below w.heap.size w w':=by
 have a8:0<m:=oM
 have ak:=lH hT;obtain⟨sv,Av,lv,cv,tv,Bv,mv,dv,a6,af⟩:=hT.st;unfold Lay.cells at a6;rw[(hT.ab a8).1,(hT.ab a8).2.1,(hT.ab a8).2.2] at a6;have h:=lH a6;clear a6 af;have k2:=aI 2 h;have kl:=h.o.lt;clear hT;have ag:Hid (jw n 0 D.off (D.cell i) (-1)):=lH (.inl ⟨rfl,fun c hc=>absurd hc oM⟩);have aq:((i:Nat):Int)<(m:Nat):=oM
 go_enter func131,ntmps131;go_wp2_with fail
 clear k2 kl h
 go_loopw [5,13] (fun ov iv wr=>∃ (k:Nat) (out:Int),k <= n /\ iv= .int .i64 k /\ ov= .int .i64 out /\ Hid (jw n k D.off (D.cell i) out) /\ Below w.heap.size w wr)
  (fun _ iv _=>n-(intOf iv).toNat)
 case atStart=>exact⟨0, -1,Nat.zero_le _,rfl,rfl,ag,Below.refl _ _⟩
 case round=>
  clear ag;obtain⟨k,out,hk,rfl,rfl,HS,ae⟩:=hrel;have HB:=lH ae;have HT:=lH (ak.o.below ae);clear ae;by_cases ar:((k:Nat):Int)<(n:Nat)
  ·have ai:k<n:=oM
   have a9:0<n:=oM
   rw[(HT.o.ao a9).1];obtain⟨sv,Av,lv,cv,tv,Bv,mv,dv,a6,af⟩:=HT.o.st;unfold Lay.cells at a6;rw[(HT.o.ab a8).1,(HT.o.ab a8).2.1,(HT.o.ab a8).2.2] at a6;rw[(HT.o.ao a9).1,(HT.o.ao a9).2] at a6;have h:=lH a6;clear a6 af;have E:=lH ((HT.o.off a9).at_ ai);have F:=lH ((HT.o.out a8).at_ a9 hi);obtain⟨sx,Ax,lx,cx,tx,Bx,mx,dx,ah,aj⟩:=((HT.o.rows a9 i hi)).fO ai;have G:=lH ah;have Vx:=lH aj;clear ah aj;by_cases hf:¬n <= D.off k
   ·have al:decide (n <= D.off k)=false:=by simp;omega
    have HF:=lH hf;clear hf;have T:=aI 0 h;have X:=aI 1 h;have Z:=aI 2 h;have a1:=aI 4 h;have a5:=h.o.lt;have M:=E.o;have a2:=eG E.o;have O:=F.o;have a3:=eG F.o;obtain⟨R,U,Y,a0⟩:=G.o;have a4:=G.o.lt;go_wp2_with fail
    clear T X Z a1 a5 M a2 O a3 R U Y a0 a4;go_roundw
    case rel=>exact⟨k+1,out,by omega,by simp,rfl,lH (tT HS.o (fun e=>absurd e HF.o)),HB.o⟩
    case measure=>exact mZ
   ·have al:decide (n <= D.off k)=true:=by simp;omega
    have HF:Hid (n <= D.off k):=lH oM;clear hf;by_cases hc:0 <= D.cell i k
    ·have a7:decide (sgI (D.cell i k).num<0)=false:=by have:=hc;simp;exact pM hc
     have HC:=lH hc;have ad:=lH a7;clear hc a7;have T:=aI 0 h;have X:=aI 1 h;have Z:=aI 2 h;have a1:=aI 4 h;have a5:=h.o.lt;have M:=E.o;have a2:=eG E.o;have O:=F.o;have a3:=eG F.o;obtain⟨R,U,Y,a0⟩:=G.o;have a4:=G.o.lt;go_wp2_with fail
     clear T X Z a1 a5 M a2 O a3 R U Y a0 a4;refine(fU _ (D.cell i k) _ Vx.o).mono ?_;rintro e w1 ⟨rfl,t⟩;replace h:=rW h t;replace G:=lH (G.o.below t);replace E:=lH (cell_below t E.o);replace F:=lH (cell_below t F.o);replace HB:=bT HB t;clear t;have a7:=ad.o;have T:=aI 0 h;have X:=aI 1 h;have Z:=aI 2 h;have a1:=aI 4 h;have a5:=h.o.lt;have M:=E.o;have a2:=eG E.o;have O:=F.o;have a3:=eG F.o;obtain⟨R,U,Y,a0⟩:=G.o;have a4:=G.o.lt;go_wp2_with fail
     clear T X Z a1 a5 M a2 O a3 R U Y a0 a4;go_roundw
     case rel=>exact⟨k+1,out,by omega,by simp,rfl,lH (tT HS.o (fun _=>HC.o)),HB.o⟩
     case measure=>exact mZ
    ·replace hc:D.cell i k<0:=Rat.not_le.1 hc;have a7:decide (sgI (D.cell i k).num<0)=true:=by simp;exact pK hc
     have HC:Hid (D.cell i k<0):=lH hc;have ad:=lH a7;clear hc a7;by_cases ho:out= -1
     ·obtain rfl:out= -1:=ho;have ap:=HS;have T:=aI 0 h;have X:=aI 1 h;have Z:=aI 2 h;have a1:=aI 4 h;have a5:=h.o.lt;have M:=E.o;have a2:=eG E.o;have O:=F.o;have a3:=eG F.o;obtain⟨R,U,Y,a0⟩:=G.o;have a4:=G.o.lt;go_wp2_with fail
      clear T X Z a1 a5 M a2 O a3 R U Y a0 a4;refine(fU _ (D.cell i k) _ Vx.o).mono ?_;rintro e w1 ⟨rfl,t⟩;replace h:=rW h t;replace G:=lH (G.o.below t);replace E:=lH (cell_below t E.o);replace F:=lH (cell_below t F.o);replace HB:=bT HB t;clear t;have a7:=ad.o;have T:=aI 0 h;have X:=aI 1 h;have Z:=aI 2 h;have a1:=aI 4 h;have a5:=h.o.lt;have M:=E.o;have a2:=eG E.o;have O:=F.o;have a3:=eG F.o;obtain⟨R,U,Y,a0⟩:=G.o;have a4:=G.o.lt;go_wp2_with fail
      clear T X Z a1 a5 M a2 O a3 R U Y a0 a4;go_roundw
      case rel=>exact⟨k+1,(k:Nat),by omega,by simp,rfl,lH (Bj HS.o HF.o HC.o),HB.o⟩
      case measure=>exact mZ
     ·obtain⟨x,hx⟩:∃x:Nat,out=(x:Nat):=by rcases HS.o with ⟨h1,_⟩ | ⟨x,h1,_⟩;exact absurd h1 ho;exact⟨x,h1⟩
      subst hx;have an:x<n:=by rcases HS.o with ⟨h1,_⟩ | ⟨y,h1,h2,_⟩;omega;omega
      have au:decide (((x:Nat):Int)<0)=false:=by simp
      have av:((x:Nat):Int)<(n:Nat):=oM
      clear ho;have C2:=lH ((HT.o.off a9).at_ an);by_cases hl:D.off k<D.off x
      ·have am:decide (D.off k<D.off x)=true:=by simpa using hl
       have HL:=lH hl;clear hl;have T:=aI 0 h;have X:=aI 1 h;have Z:=aI 2 h;have a1:=aI 4 h;have a5:=h.o.lt;have M:=E.o;have a2:=eG E.o;have O:=F.o;have a3:=eG F.o;obtain⟨R,U,Y,a0⟩:=G.o;have a4:=G.o.lt;have aa:=C2.o;have ac:=eG C2.o;go_wp2_with fail
       clear T X Z a1 a5 M a2 O a3 R U Y a0 a4 aa ac;refine(fU _ (D.cell i k) _ Vx.o).mono ?_;rintro e w1 ⟨rfl,t⟩;replace h:=rW h t;replace G:=lH (G.o.below t);replace E:=lH (cell_below t E.o);replace F:=lH (cell_below t F.o);replace C2:=lH (cell_below t C2.o);replace HB:=bT HB t;clear t;have a7:=ad.o;have T:=aI 0 h;have X:=aI 1 h;have Z:=aI 2 h;have a1:=aI 4 h;have a5:=h.o.lt;have M:=E.o;have a2:=eG E.o;have O:=F.o;have a3:=eG F.o;obtain⟨R,U,Y,a0⟩:=G.o;have a4:=G.o.lt;have aa:=C2.o;have ac:=eG C2.o;go_wp2_with fail
       clear T X Z a1 a5 M a2 O a3 R U Y a0 a4 aa ac;go_roundw
       case rel=>exact⟨k+1,(k:Nat),by omega,by simp,rfl,lH (Bl HS.o HF.o HC.o HL.o),HB.o⟩
       case measure=>exact mZ
      ·have am:decide (D.off k<D.off x)=false:=by simpa using hl
       have HL:=lH hl;clear hl;have T:=aI 0 h;have X:=aI 1 h;have Z:=aI 2 h;have a1:=aI 4 h;have a5:=h.o.lt;have M:=E.o;have a2:=eG E.o;have O:=F.o;have a3:=eG F.o;obtain⟨R,U,Y,a0⟩:=G.o;have a4:=G.o.lt;have aa:=C2.o;have ac:=eG C2.o;go_wp2_with fail
       clear T X Z a1 a5 M a2 O a3 R U Y a0 a4 aa ac;refine(fU _ (D.cell i k) _ Vx.o).mono ?_;rintro e w1 ⟨rfl,t⟩;replace h:=rW h t;replace G:=lH (G.o.below t);replace E:=lH (cell_below t E.o);replace F:=lH (cell_below t F.o);replace C2:=lH (cell_below t C2.o);replace HB:=bT HB t;clear t;have a7:=ad.o;have T:=aI 0 h;have X:=aI 1 h;have Z:=aI 2 h;have a1:=aI 4 h;have a5:=h.o.lt;have M:=E.o;have a2:=eG E.o;have O:=F.o;have a3:=eG F.o;obtain⟨R,U,Y,a0⟩:=G.o;have a4:=G.o.lt;have aa:=C2.o;have ac:=eG C2.o;go_wp2_with fail
       clear T X Z a1 a5 M a2 O a3 R U Y a0 a4 aa ac;go_roundw
       case rel=>exact⟨k+1,(x:Nat),by omega,by simp,rfl,lH (Bf HS.o HL.o),HB.o⟩
       case measure=>exact mZ
  ·obtain rfl:n=k:=oM
   go_wp2_with fail
   go_returns;exact⟨out,rfl,HS.o,HB.o⟩
end
end Go.Proofs.YtdefghfjhgmpfaaGreatDoor
