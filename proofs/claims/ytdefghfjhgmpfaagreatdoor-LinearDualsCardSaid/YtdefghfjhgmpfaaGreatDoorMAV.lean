/- Parts of this proof: QArith Copies FrameL FrameJ Num Texts Nums Enter. -/
import Derived.Test.YtdefghfjhgmpfaaGreatDoorMAU
import Derived.Test.YtdefghfjhgmpfaaGreatDoorMAK
import Derived.Test.YtdefghfjhgmpfaaGreatDoorMAR
import Derived.Test.YtdefghfjhgmpfaaGreatDoorMAT
import Derived.Test.YtdefghfjhgmpfaaGreatDoorMAS
import Derived.Test.YtdefghfjhgmpfaaGreatDoorMAP
import Derived.Test.YtdefghfjhgmpfaaGreatDoorCards
import Derived.Test.YtdefghfjhgmpfaaGreatDoorTie
import Derived.Test.YtdefghfjhgmpfaaGreatDoorMAA
import Derived.Test.YtdefghfjhgmpfaaGreatDoorMAQ
import Derived.ProofKit
import Derived.OpenShut
import Derived.WideKeyArgs
import Derived.Deep.Strs
import Derived.Deep.DeepHandedRow
import Derived.Deep.DeepWitnessRowRef
import Derived.Lib.LaidTab
import Derived.Lib.LaidIn
import Derived.Stop.LaidErr
import Derived.Test.YtdefghfjhgmpfaaGreatDoorMAE
import Derived.Test.YtdefghfjhgmpfaaGreatDoorMAM
namespace Go.Proofs.YtdefghfjhgmpfaaGreatDoor
open Go.Proofs.Tryz
section
open Go.RowKit
open Lp (RL upd eu)
theorem iT{a:Int}{k:Nat}(h:a.natAbs<10^k)(t:k <= 1000000):gu a:=by
 unfold gu;have h1:=xD a.natAbs;have r:=nJ k a.natAbs (Nat.lt_of_lt_of_le h (Nat.pow_le_pow_right dC oM));omega
theorem pJ{a:Int}{k:Nat}(h:a.natAbs<10^k):(txt a).size <= k+2:=by
 have t:=nJ k a.natAbs (Nat.lt_of_lt_of_le h (Nat.pow_le_pow_right dC oM));rw[show(txt a).size=(Lib.itoa a).length by unfold txt;rfl];by_cases r:a<0
 ·rw[itoa_neg r,List.length_cons];omega
 ·rw[iW r];omega
theorem oh{q:Rat}{k:Nat}(h:RL k q):(eF q).size <= 2*k+5:=by
 have h1:=pJ h.1;have r:=pJ (a:=(q.den:Int)) (k:=k) (by rw[Int.natAbs_natCast];exact h.2);by_cases e:q.den=1
 ·rw[rP e];omega
 ·rw[<- sS e,ByteArray.size_append,ByteArray.size_append];have:(⟨#[47]⟩:ByteArray).size=1:=rfl;omega
theorem GR(q:Rat):fQ (fA q)=Lib.itoa (q.den:Int):=by
 unfold fQ;by_cases e:q.den=1
 ·rw[if_pos (nL e).2,e];exact mY.symm
 ·obtain⟨_,h,r⟩:=nM e;rw[if_neg (by rw[h];simp),r,iW oM,Int.natAbs_natCast]
theorem GU(q:Rat):eH (fA q)=Lib.itoa q.num:=by
 by_cases e:q.den=1
 ·exact(nL e).1
 ·exact(nM e).1
theorem nu(q:Rat)(k:Nat)(w:World)(h:RL k q)(E:k <= 1000000):Calls prog 58 #[.string (eF q)] w fun e w'=>e= .returned (.tuple #[.string (txt q.num), .string (txt (q.den:Int))]) /\ Below w.heap.size w w':=by
 refine(zS (eF q) w (by have:=oh h;omega)).mono ?_;rintro e w' ⟨a,b,rfl,r,t,C⟩;rw[jI] at r t;rw[lJ (r.trans (GU q)),lJ (t.trans (GR q))];exact⟨rfl,C⟩
set_option maxRecDepth 100000 in
set_option maxHeartbeats 3200000 in
theorem vO(p d:Int)(q:Rat)(k:Nat)(w:World)(Y:q=Rat.divInt p d)(hd:d≠0)(hp:p.natAbs<10^k)(a5:d.natAbs<10^k)(hk:k <= 1000000):
  Calls prog 59 #[.string (txt p), .string (txt d)] w fun e w'=>e= .returned (.string (eF q)) /\ Below w.heap.size w w':=by
 have r:Hid (Below w.heap.size w w):=lH (Below.refl _ _);have a7:RL k q:=by rw[Y];exact Lp.uX hd hp a5
 have a0:=lH a7;have Z:=lH hk;have a3:=lH (iT hp hk);have a2:=lH (iT a5 hk);clear hp a5 hk a7;go_enter func59,ntmps59;go_wp2_with fail
 refine(iy d _).mono ?_;rintro e w1 ⟨rfl,rfl⟩;by_cases hn:d<0
 ·have a6:sgI d<0:=nZ.2 hn;have F:Hid (0< -d):=lH oM;have W:Hid (Rat.divInt (-p) (-d)=q):=lH (by rw[Y];exact qI p d);have R:Hid (gu (-p)):=lH (by unfold gu;rw[Int.natAbs_neg];exact a3.o);have M:Hid (gu (-d)):=lH (by unfold gu;rw[Int.natAbs_neg];exact a2.o);clear hn hd Y;go_wp2_with fail
  clear a6;refine(tF p _ a3.o.few).mono ?_;rintro e w9 ⟨rfl,h⟩;replace r:=bT r h;clear h;go_wp2_with fail
  refine(tF d _ a2.o.few).mono ?_;rintro e w9 ⟨rfl,h⟩;replace r:=bT r h;clear h;go_wp2_with fail
  obtain⟨P,hP⟩:=eX (-p);obtain⟨D,hD⟩:=eX (-d);rw[<- hP] at W R ⊢;rw[<- hD] at W M F ⊢;clear hP hD;refine(pF P D _ R.o M.o).mono ?_;rintro e w2 ⟨rfl,h⟩;replace r:=bT r h;clear h;have E:Hid (((Nat.gcd P.natAbs D.natAbs:Nat):Int)≠0 /\ gu ((Nat.gcd P.natAbs D.natAbs:Nat):Int)):=lH ⟨by have:=sH P D F.o;omega,vK M.o (sI P D F.o)⟩;have V:=lH (qG P D F.o);have U:=lH (qH P D F.o);obtain⟨G,X⟩:=eX (((Nat.gcd P.natAbs D.natAbs:Nat):Int));rw[<- X] at E V U ⊢;clear X;go_wp2_with fail
  refine(qU P G _ R.o E.o.2 E.o.1).mono ?_;rintro e w3 ⟨rfl,h⟩;replace r:=bT r h;clear h;rw[V.o];go_wp2_with fail
  refine(qU D G _ M.o E.o.2 E.o.1).mono ?_;rintro e w4 ⟨rfl,h⟩;replace r:=bT r h;clear h;rw[U.o];rw[W.o];by_cases C:q.den=1
  ·obtain⟨T,t⟩:=eX (txt (q.den:Int));rw[<- t];have O:T.toList= [49]:=by rw[t,C,ByteArray.toList_eq,jS];exact mY
   have a4:(T.toList== [49])=true:=by rw[O];rfl
   have a1:=lH C;clear t C;go_wp2_with fail
   rw[<- rP a1.o];go_returns;exact⟨rfl,r.o⟩
  ·obtain⟨T,t⟩:=eX (txt (q.den:Int));rw[<- t];have O:T.toList≠ [49]:=by rw[t];exact pG C
   have a4:(T.toList== [49])=false:=by rw[beq_eq_false_iff_ne];exact O
   obtain⟨N,hN⟩:=eX (txt q.num);rw[<- hN];have a8:N.size <= 1000002:=by rw[hN];have:=pJ a0.o.1;have:=Z.o;omega
   have a9:T.size <= 1000002:=by rw[t];have:=pJ (a:=(q.den:Int)) (by rw[Int.natAbs_natCast];exact a0.o.2);have:=Z.o;omega
   have HE:Hid (N++ ⟨#[47]⟩++T=eF q):=lH (by rw[hN,t];exact sS C);have aa:(N++ ⟨#[47]⟩).size <= 1000003:=by rw[ByteArray.size_append];show N.size+1 <= _;omega
   clear t hN C;go_wp2_with fail
   rw[HE.o];go_returns;exact⟨rfl,r.o⟩
 ·have a6:0 <= sgI d:=by have:= @nZ d;omega
  have ab:decide (sgI d<0)=false:=decide_eq_false oM;have F:Hid (0<d):=lH oM;have W:Hid (Rat.divInt p d=q):=lH Y.symm;have R:=a3;have M:=a2;clear hn hd Y;go_wp2_with fail
  clear a6 ab;refine(pF p d _ R.o M.o).mono ?_;rintro e w2 ⟨rfl,h⟩;replace r:=bT r h;clear h;have E:Hid (((Nat.gcd p.natAbs d.natAbs:Nat):Int)≠0 /\ gu ((Nat.gcd p.natAbs d.natAbs:Nat):Int)):=lH ⟨by have:=sH p d F.o;omega,vK M.o (sI p d F.o)⟩;have V:=lH (qG p d F.o);have U:=lH (qH p d F.o);obtain⟨G,X⟩:=eX (((Nat.gcd p.natAbs d.natAbs:Nat):Int));rw[<- X] at E V U ⊢;clear X;go_wp2_with fail
  refine(qU p G _ R.o E.o.2 E.o.1).mono ?_;rintro e w3 ⟨rfl,h⟩;replace r:=bT r h;clear h;rw[V.o];go_wp2_with fail
  refine(qU d G _ M.o E.o.2 E.o.1).mono ?_;rintro e w4 ⟨rfl,h⟩;replace r:=bT r h;clear h;rw[U.o];rw[W.o];by_cases C:q.den=1
  ·obtain⟨T,t⟩:=eX (txt (q.den:Int));rw[<- t];have O:T.toList= [49]:=by rw[t,C,ByteArray.toList_eq,jS];exact mY
   have a4:(T.toList== [49])=true:=by rw[O];rfl
   have a1:=lH C;clear t C;go_wp2_with fail
   rw[<- rP a1.o];go_returns;exact⟨rfl,r.o⟩
  ·obtain⟨T,t⟩:=eX (txt (q.den:Int));rw[<- t];have O:T.toList≠ [49]:=by rw[t];exact pG C
   have a4:(T.toList== [49])=false:=by rw[beq_eq_false_iff_ne];exact O
   obtain⟨N,hN⟩:=eX (txt q.num);rw[<- hN];have a8:N.size <= 1000002:=by rw[hN];have:=pJ a0.o.1;have:=Z.o;omega
   have a9:T.size <= 1000002:=by rw[t];have:=pJ (a:=(q.den:Int)) (by rw[Int.natAbs_natCast];exact a0.o.2);have:=Z.o;omega
   have HE:Hid (N++ ⟨#[47]⟩++T=eF q):=lH (by rw[hN,t];exact sS C);have aa:(N++ ⟨#[47]⟩).size <= 1000003:=by rw[ByteArray.size_append];show N.size+1 <= _;omega
   clear t hN C;go_wp2_with fail
   rw[HE.o];go_returns;exact⟨rfl,r.o⟩
theorem GV(a:Rat): -a=Rat.divInt (-a.num) (a.den:Int):=by
 conv=>lhs;rw[<- Rat.num_divInt_den a]
 rw[Rat.neg_divInt]
theorem GY(a b:Rat):gI (a.num* (b.den:Int)) (b.num* (a.den:Int))=jq a b:=sJ a b
set_option maxRecDepth 100000 in
set_option maxHeartbeats 1600000 in
theorem GZ(a:Rat)(k:Nat)(w:World)(E:RL k a)(F:4*k <= 1000000):
  Calls prog 21 #[.string (eF a)] w fun e w'=>e= .returned (.string (eF (-a))) /\ Below w.heap.size w w':=by
 have r:Hid (Below w.heap.size w w):=lH (Below.refl _ _);have t:=lH E;have C:=lH F;clear E F;go_enter func21,ntmps21;go_wp2_with fail
 refine(nu a k _ t.o (by have:=C.o;omega)).mono ?_;rintro e G ⟨rfl,h⟩;replace r:=bT r h;clear h;go_wp2_with fail
 refine(tF a.num _ (iT t.o.fE (by have:=C.o;omega)).few).mono ?_;rintro e G ⟨rfl,h⟩;replace r:=bT r h;clear h;go_wp2_with fail
 refine(vO (-a.num) (a.den:Int) (-a) k _ (GV a) (by have:=a.den_nz;omega) (by rw[Int.natAbs_neg];exact t.o.1) t.o.fB (by have:=C.o;omega)).mono ?_;rintro e G ⟨rfl,h⟩;replace r:=bT r h;clear h;go_wp2_with fail
 go_returns;exact⟨rfl,r.o⟩
set_option maxRecDepth 100000 in
set_option maxHeartbeats 1600000 in
theorem tO(a:Rat)(k:Nat)(w:World)(r:RL k a)(C:4*k <= 1000000):
  Calls prog 32 #[.string (eF a)] w fun e w'=>e= .returned (.int .i64 (sgI a.num)) /\ Below w.heap.size w w':=by
 have h:Hid (Below w.heap.size w w):=lH (Below.refl _ _);have E:=lH r;have F:=lH C;clear r C;go_enter func32,ntmps32;go_wp2_with fail
 refine(nu a k _ E.o (by have:=F.o;omega)).mono ?_;rintro e G ⟨rfl,t⟩;replace h:=bT h t;clear t;go_wp2_with fail
 refine(iy a.num _).mono ?_;rintro e G ⟨rfl,rfl⟩;go_wp2_with fail
 go_returns;exact⟨rfl,h.o⟩
set_option maxRecDepth 100000 in
set_option maxHeartbeats 1600000 in
theorem vP(a b:Rat)(k:Nat)(w:World)(G:RL k a)(h:RL k b)(M:4*k <= 1000000):
  Calls prog 33 #[.string (eF a), .string (eF b)] w fun e w'=>e= .returned (.string (eF (a*b))) /\ Below w.heap.size w w':=by
 have r:Hid (Below w.heap.size w w):=lH (Below.refl _ _);have C:=lH G;have E:=lH h;have t:=lH M;clear G h M;go_enter func33,ntmps33;go_wp2_with fail
 refine(nu a k _ C.o (by have:=t.o;omega)).mono ?_;rintro e F ⟨rfl,h⟩;replace r:=bT r h;clear h;go_wp2_with fail
 refine(nu b k _ E.o (by have:=t.o;omega)).mono ?_;rintro e F ⟨rfl,h⟩;replace r:=bT r h;clear h;go_wp2_with fail
 refine(o8 a.num b.num _ (iT C.o.fE (by have:=t.o;omega)) (iT E.o.fE (by have:=t.o;omega))).mono ?_;rintro e F ⟨rfl,h⟩;replace r:=bT r h;clear h;go_wp2_with fail
 refine(o8 (a.den:Int) (b.den:Int) _ (iT C.o.fB (by have:=t.o;omega)) (iT E.o.fB (by have:=t.o;omega))).mono ?_;rintro e F ⟨rfl,h⟩;replace r:=bT r h;clear h;go_wp2_with fail
 refine(vO _ _ (a*b) (k+k) _ (vv a b).symm (by have:=a.den_nz;have:=b.den_nz;exact Int.mul_ne_zero oM oM) (Lim.mul C.o.fE E.o.fE) (Lim.mul C.o.fB E.o.fB) (by have:=t.o;omega)).mono ?_;rintro e F ⟨rfl,h⟩;replace r:=bT r h;clear h;go_wp2_with fail
 go_returns;exact⟨rfl,r.o⟩
set_option maxRecDepth 100000 in
set_option maxHeartbeats 1600000 in
theorem vQ(a b:Rat)(k:Nat)(w:World)(M:RL k a)(r:RL k b)(O:4*k <= 1000000):
  Calls prog 114 #[.string (eF a), .string (eF b)] w fun e w'=>e= .returned (.string (eF (a+b))) /\ Below w.heap.size w w':=by
 have t:Hid (Below w.heap.size w w):=lH (Below.refl _ _);have E:=lH M;have F:=lH r;have C:=lH O;clear M r O;go_enter func114,ntmps114;go_wp2_with fail
 refine(nu a k _ E.o (by have:=C.o;omega)).mono ?_;rintro e G ⟨rfl,r⟩;replace t:=bT t r;clear r;go_wp2_with fail
 refine(nu b k _ F.o (by have:=C.o;omega)).mono ?_;rintro e G ⟨rfl,r⟩;replace t:=bT t r;clear r;go_wp2_with fail
 refine(o8 a.num (b.den:Int) _ (iT E.o.fE (by have:=C.o;omega)) (iT F.o.fB (by have:=C.o;omega))).mono ?_;rintro e G ⟨rfl,r⟩;replace t:=bT t r;clear r;go_wp2_with fail
 refine(o8 b.num (a.den:Int) _ (iT F.o.fE (by have:=C.o;omega)) (iT E.o.fB (by have:=C.o;omega))).mono ?_;rintro e G ⟨rfl,r⟩;replace t:=bT t r;clear r;go_wp2_with fail
 refine(vJ _ _ _ (iT (Lim.mul E.o.fE F.o.fB) (by have:=C.o;omega)).few (iT (Lim.mul F.o.fE E.o.fB) (by have:=C.o;omega)).few).mono ?_;rintro e G ⟨rfl,r⟩;replace t:=bT t r;clear r;go_wp2_with fail
 refine(o8 (a.den:Int) (b.den:Int) _ (iT E.o.fB (by have:=C.o;omega)) (iT F.o.fB (by have:=C.o;omega))).mono ?_;rintro e G ⟨rfl,r⟩;replace t:=bT t r;clear r;go_wp2_with fail
 refine(vO _ _ (a+b) (k+k+1) _ (uZ a b).symm (by have:=a.den_nz;have:=b.den_nz;exact Int.mul_ne_zero oM oM) (Lim.add (Lim.mul E.o.fE F.o.fB) (Lim.mul F.o.fE E.o.fB)) ((Lim.mul E.o.fB F.o.fB).mono oM) (by have:=C.o;by_cases h:k=0;subst h;decide;omega)).mono ?_;rintro e G ⟨rfl,r⟩;replace t:=bT t r;clear r;go_wp2_with fail
 go_returns;exact⟨rfl,t.o⟩
set_option maxRecDepth 100000 in
set_option maxHeartbeats 1600000 in
theorem H8(a b:Rat)(k:Nat)(w:World)(G:RL k a)(h:RL k b)(M:4*k <= 1000000):
  Calls prog 37 #[.string (eF a), .string (eF b)] w fun e w'=>e= .returned (.int .i64 (jq a b)) /\ Below w.heap.size w w':=by
 have r:Hid (Below w.heap.size w w):=lH (Below.refl _ _);have C:=lH G;have E:=lH h;have t:=lH M;clear G h M;go_enter func37,ntmps37;go_wp2_with fail
 refine(nu a k _ C.o (by have:=t.o;omega)).mono ?_;rintro e F ⟨rfl,h⟩;replace r:=bT r h;clear h;go_wp2_with fail
 refine(nu b k _ E.o (by have:=t.o;omega)).mono ?_;rintro e F ⟨rfl,h⟩;replace r:=bT r h;clear h;go_wp2_with fail
 refine(o8 a.num (b.den:Int) _ (iT C.o.fE (by have:=t.o;omega)) (iT E.o.fB (by have:=t.o;omega))).mono ?_;rintro e F ⟨rfl,h⟩;replace r:=bT r h;clear h;go_wp2_with fail
 refine(o8 b.num (a.den:Int) _ (iT E.o.fE (by have:=t.o;omega)) (iT C.o.fB (by have:=t.o;omega))).mono ?_;rintro e F ⟨rfl,h⟩;replace r:=bT r h;clear h;go_wp2_with fail
 refine(Gq _ _ _ (iT (Lim.mul C.o.fE E.o.fB) (by have:=t.o;omega)).few (iT (Lim.mul E.o.fE C.o.fB) (by have:=t.o;omega)).few).mono ?_;rintro e F ⟨rfl,h⟩;replace r:=bT r h;clear h;rw[GY];go_wp2_with fail
 go_returns;exact⟨rfl,r.o⟩
end
section
open Go.RowKit
open Lp (RL upd eu)
def fH(w:World)(v:Value)(n:Nat)(s:Nat -> ByteArray):Prop:=eY w v 30 n (fun j u=>u= .string (s j))
theorem fH.ts{w:World}{v:Value}{n:Nat}{s:Nat -> ByteArray}(h:fH w v n s):TS w v n s:=by
 obtain⟨A,c,r,h1,t⟩:=eY.shape h;subst r;refine⟨A,c,rfl,h1,t,?_⟩
 rcases Nat.eq_zero_or_pos n with h0 | h0
 ·exact .inl h0
 ·obtain⟨g,M,cs,r,F,_,C⟩:=eY.done h h0;simp only[Value.slice.injEq,true_and] at r;refine .inr ⟨g,0,r.1,fun j E=> ?_⟩;obtain⟨u,G,rfl⟩:=C j E;rw[Nat.zero_add];exact F.at_ j G
theorem fH.nil(w:World)(s:Nat -> ByteArray):fH w (.slice none 0 0) 0 s:=eY.nil _ _ _
set_option maxRecDepth 100000 in
theorem H9(C:Addr)(c:Nat)(w:World):
  Calls prog 29 #[.slice (some C) 0 c] w fun e w'=>∃v',e= .returned v' /\ fH w' v' 0 (fun _=>⟨#[]⟩) /\ (∀g,v'.ownBlock=some g -> w.heap.size <= g) /\ (∃g c',v'= .slice (some ⟨g,0,none⟩) 0 c') /\ Below w.heap.size w w':=by
 obtain⟨Z,O,W,X,Y⟩:=info_parts qW;have a1:∀ (w:World) (a:Option Addr) (n c t c':Nat),(binOp .eql 22 (.slice a n c) (.slice none t c')).run prog w= .ok (.bool a.isNone) w:=fun w a n c t c'=>Lib.run_eql_slice_nil w _ _ a n c t c' underlying22
 go_enter func29,ntmps29
 go_wp2_with (at_builtin;refine wpList_append_own _ rfl _ _ 22 rfl w.heap.size 30 Z _ 1 16 underlying22 O W X Y rfl dC _ _ _ rfl (World.ownsRow_made w #[] 0 (Nat.le_refl _) (Nat.zero_le _) (by simp)) C 0 c [] rfl ?qc1 ?qc2 ?qc3 ?qc4 ?qc5 ?qc6 ?_)
 case qc1=>rfl
 case qc2=>intro j u h;simp at h
 case qc3=>intro u V;simp at V
 case qc4=>unfold maxLen;omega
 case qc5=>omega
 case qc6=>simp
 intro v' F U M T
 go_wp2
 go_ret
 have r:F.ownsRow w.heap.size 30 1 v' 0 []:=by simpa using U
 have E:fH F v' 0 (fun _=>⟨#[]⟩):=⟨_,sO r (Nat.zero_le _),fun j h=>absurd h oM⟩;obtain⟨A,c',hv,_,_⟩:=eY.shape E;refine⟨v',rfl,E,fun g G=>(r.lt g G).1,?_,((Below.refl _ w).alloc (Nat.le_refl _) _).grown M (by simp) (by intro k R;simp[Value.ownBlock] at R;omega)⟩
 rcases r.2 with ⟨rfl,_⟩ | ⟨g,cap,a0,rfl,_⟩
 ·exact absurd rfl T
 ·exact⟨g,cap,rfl⟩
theorem zX(v:Value)(n:Nat)(s:Nat -> ByteArray)(w:World)(h:TSA w v n s)(W:n <= 1000000000):
  Calls prog 29 #[v] w fun e w'=>∃v',e= .returned v' /\ fH w' v' n s /\ (∀g,v'.ownBlock=some g -> w.heap.size <= g) /\ TSA w' v' n s /\ Below w.heap.size w w':=by
 obtain⟨O,⟨rfl,rfl⟩ | ⟨g,o,c,rfl⟩ | ⟨rfl,R,c,rfl⟩⟩:=h
 ·refine(GH 0 0 w).mono ?_;rintro e w' ⟨rfl,rfl⟩;exact⟨_,rfl,fH.nil _ _,fun g F=>by simp[Value.ownBlock] at F,⟨O, .inl ⟨rfl,rfl⟩⟩,Below.refl _ _⟩
 ·have T:∀ (j:Nat) u,((List.range n).map fun j=>Value.string (s j))[j]? =some u -> w.cell? ⟨g,o+j,none⟩=some u:=by
   intro j u r
   have M:j<n:=by
    have:=(List.getElem?_eq_some_iff.1 r).1
    simpa using this
   obtain⟨g',o',G,U⟩:=O.at_ oM;simp only[Option.some.injEq,Addr.mk.injEq,and_true] at G;obtain⟨rfl,rfl⟩:=G;rw[U j M];simp[M] at r;rw[r]
  refine(GG g o n c ((List.range n).map fun j=>Value.string (s j)) w (by simp) W T (fun u Y=>by obtain⟨j,_,rfl⟩:=List.mem_map.1 Y;rfl)).mono ?_;rintro e w' ⟨v',rfl,t,X,E⟩;have C:fH w' v' n s:=⟨_,sO t (Nat.zero_le _),fun j r=>⟨_,by simp[r],rfl⟩⟩;refine⟨v',rfl,C,fun g F=>(t.lt g F).1,⟨C.ts,?_⟩,E⟩
  rcases t.2 with ⟨rfl,h0⟩ | ⟨g',cap,Z,rfl,_⟩
  ·exact absurd rfl X
  ·exact .inr (.inl ⟨g',0,cap,rfl⟩)
 ·refine(H9 R c w).mono ?_;rintro e w' ⟨v',rfl,t,V,⟨g,c',rfl⟩,E⟩
  have C:fH w' (.slice (some ⟨g,0,none⟩) 0 c') 0 s:=by
   obtain⟨xs,h1,_⟩:=t;exact⟨xs,h1,fun j r=>absurd r oM⟩
  exact⟨_,rfl,C,V,⟨C.ts, .inr (.inl ⟨g,0,c',rfl⟩)⟩,E⟩
theorem JZ(v u:Value)(n:Nat)(s:Nat -> ByteArray)(w:World)(C:TS w v n s)(t:TS w u n s)(G:n <= 1000000000):
  Calls prog 47 #[v,u] w fun e w'=>e= .returned (.bool true) /\ Below w.heap.size w w':=by
 obtain⟨A,c,rfl,_,_⟩:=C.shape;obtain⟨B,d,rfl,_,_⟩:=t.shape
 rcases Nat.eq_zero_or_pos n with h0 | h0
 ·subst h0;clear C t G;go_enter func47,ntmps47;go_wp2_with fail
  go_loopw [13] (fun M wr=>M= .int .i64 0 /\ wr=w) (fun _ _=>0)
  case atStart=>exact⟨rfl,rfl⟩
  case round=>
   obtain⟨rfl,rfl⟩:=hrel;go_wp2_with fail
   go_returns;exact⟨rfl,Below.refl _ _⟩
 ·obtain⟨g,o,rfl,E⟩:=C.at_ h0;obtain⟨g',O,rfl,F⟩:=t.at_ h0;refine(GK g o n c g' O n d ((List.range n).map s) ((List.range n).map s) w (by simp) (by simp) oM oM (fun j r=> ?_) (fun j r=> ?_)).mono ?_
  ·have h:j<n:=by simpa using r
   rw[E j h];simp[h]
  ·have h:j<n:=by simpa using r
   rw[F j h];simp[h]
  ·rintro e w' ⟨rfl,q,rfl⟩;refine⟨?_,below_drewN _ _ _⟩;rw[Lib.allEq_all _ _ _ rfl (fun j _=>by simp)]
set_option maxRecDepth 100000 in
set_option maxHeartbeats 3200000 in
theorem K3(v:Value)(n:Nat)(f:Nat -> Rat)(k:Nat)(w:World)(h:TS w v n (fun j=>eF (f j)))(hn:n <= 1000000000)(X:∀j,j<n -> RL k (f j))(W:4*k <= 1000000):
  Calls prog 30 #[v] w fun e w'=>∃v',e= .returned v' /\ fH w' v' n (fun j=>eF (-(f j))) /\ Below w.heap.size w w':=by
 obtain⟨A,c,rfl,_,_⟩:=h.shape;obtain⟨iN,a3,a5,a6,a7⟩:=info_parts qW;have HA:=lH h;have HL:=lH X;have HK:=lH W;clear h X W;go_enter func30,ntmps30;go_wp2_with fail
 go_loopw [3,8] (fun ov M wr=>∃ (q:Nat) (B:Option Addr) (d:Nat),q <= n /\ ov= .slice B q d /\ M= .int .i64 q /\ fH wr (.slice B q d) q (fun j=>eF (-(f j))) /\ Hid (∀g,(Value.slice B q d).ownBlock=some g -> w.heap.size <= g) /\ Below w.heap.size w wr) (fun _ M _=>n-(intOf M).toNat)
 case atStart=>exact⟨0,none,0,Nat.zero_le _,rfl,rfl,fH.nil _ _,lH (fun g hg=>by simp[Value.ownBlock] at hg),Below.refl _ _⟩
 case round=>
  obtain⟨q,B,d,hq,rfl,rfl,t,Y,T⟩:=hrel;have C:=lH t;have E:=lH Y.o;have r:=lH T;clear t Y T;by_cases a9:((q:Nat):Int)<((n:Nat):Int)
  ·have a0:q<n:=oM
   obtain⟨gA,oA,rfl,V⟩:=HA.o.at_ oM;have kc:=cell_below r.o (V q a0);have a8:=eG kc;clear V;go_wp2_with fail
   clear kc a8;refine(GZ (f q) k _ (HL.o q a0) HK.o).mono ?_;rintro e w2 ⟨rfl,F⟩;replace C:Hid (fH w2 (.slice B q d) q (fun j=>eF (-(f j)))):=lH (eY.below C.o F);replace r:=bT r F;clear F
   go_wp2_with (at_builtin;(refine wpList_plain rfl fun K hK=>qO _ (.tmp 12) (.tmp 15) 22 rfl 30 iN (.string ⟨#[]⟩) 16 underlying22 a3 a5 a6 a7 rfl (.slice B q d) q _ rfl C.o (.string (eF (-(f q)))) rfl rfl rfl ⟨by unfold maxLen;omega,by omega⟩ ?_))
   intro va w3 t G;obtain⟨O,R,a4,_,_⟩:=eY.shape t;subst a4;have U:=G.below (B:=w.heap.size) r.o.size E.o;have Z:=G.base r.o.size E.o;have a2:Hid (fH w3 (.slice O (q+1) R) (q+1) (fun j=>eF (-(f j)))):=lH t;replace r:=lH (r.o.trans U);have a1:=lH Z;clear U Z t G C E;refine hK _ _ ?_;go_wp2_with fail
   go_roundw
   case rel=>exact⟨q+1,O,R,by omega,rfl,by go_num,a2.o,a1,r.o⟩
   case measure=>exact mZ
  ·obtain rfl:q=n:=oM
   go_wp2_with fail
   go_returns;exact⟨_,rfl,C.o,r.o⟩
end
section
open Go.ChangeShapes Go.WideShapes Go.ChangeAt Go.RowKit
theorem own:ownKnob prog.godebug=none:=by kernel_rfl
theorem Ha:prog.globalNamed "internal/strconv.uint64pow10" =some 1:=by kernel_rfl
theorem Hd:(prog.globals[1]?).map (·.type)=some 261:=by kernel_rfl
theorem laidOut:laidOutB prog=true:=by kernel_rfl
section
variable {H:Type} {enc:TypeId × Value -> H} {P:Program}
theorem zY(O:laidOutB P=true){W G:World}(M:Below W.heap.size W G){R:Nat -> Bool}:∀ {ts:List TypeId} {vs:List Value} {ds:List (DataW H)} {F:List MemPlace},
  (ts.all fun t=>P.readableRec t && decide (t<P.types.size))=true -> DataW.TrodAll enc P W 0 (fun _=>true) true ts vs ds F -> (∀p ∈ F,p.block<W.heap.size /\ R p.block=true) -> DataW.TrodAll enc P G 0 R true ts vs ds F
 | [],_,_,_,_,h,_=>by
  obtain⟨rfl,rfl,rfl⟩:=trodAll_nil h;exact h
 | t::ts,_,_,_,C,h,E=>by
  obtain⟨v,V,d,U,a,b,rfl,rfl,rfl,h1,T⟩:=trodAll_cons h;simp only[List.all_cons,Bool.and_eq_true,decide_eq_true_eq] at C;refine⟨a,b,WideElems.Trod_stays O C.1.1 C.1.2 h1 (fun x r=>M.same (E x (by simp[r])).1) (fun x r=>(E x (by simp[r])).2),?_,rfl⟩;exact zY O M C.2 T (fun x r=>E x (by simp[r]))
theorem zZ{f:Func}{s:ChangeSpec}{apart fresh a2 a1:Bool}{W M:World}{args:Array Value}{v:Value}{F G:List (DataW H)}{E:List MemPlace}
  (T:DataW.Whole enc P f.params.toList s.vars apart W args.toList F G E) (hl:laidOutB P=true) (a6:(f.params.toList.all fun t=>P.readableRec t && decide (t<P.types.size))=true)
  (hv:s.vars= []) (hA:DataW.TrodAll enc P W 0 (fun _=>true) true f.params.toList args.toList F E) (a3:(s.fn H (F++G)).args=F) (a7:(s.fn H (F++G)).vars= [])
  (Y:∀ (b:Nat) (R:Nat -> Bool) (hd:Bool),DataW.TrodAll enc P M b R hd f.resultTypes.toList (v.resultList f.resultTypes.size) (s.fn H (F++G)).results [])
  (U:Below W.heap.size W M)
  (a4:∀ (j:Nat) (t:TypeId) (r:Value),f.resultTypes[j]? =some t -> (v.resultList f.resultTypes.size)[j]? =some r -> Value.okWide P M .any 0 t r):
  s.post enc P f apart fresh a2 a1 W args v M:=by
 have O:∀p ∈ E,p.block<W.heap.size:=fun p C=>T.lt p C
 have a5:∀p ∈ E,p.block<W.heap.size /\ (fun b=>decide (b<W.heap.size)) p.block=true:=fun p C=>⟨O p C,by simpa using O p C⟩
 have Z:∀R:Nat -> Bool,DataW.TrodVars enc P M R s.vars (s.fn H (F++G)).vars []:=fun R=>by rw[hv,a7];exact rfl
 have hA1:∀V:Nat -> Bool,(∀p ∈ E,V p.block=true) -> DataW.TrodAll enc P M 0 V true f.params.toList args.toList (s.fn H (F++G)).args E:=fun V h=>by
  rw[a3];exact zY hl U a6 hA (fun p C=>⟨O p C,h p C⟩)
 refine⟨F,G,E,[],E,[],T,Y _ _ _,hA1 _ (fun p C=>(a5 p C).2),Z _,U.frame _,fun _=> ?_⟩
 ·obtain⟨_,_,_,_,he,hz,hn⟩:=T;refine⟨a4,_,_,([]++E)++ [],⟨[]++E,[],trodAll_append (hA1 _ (fun _ _=>rfl)) (Y _ _ _),Z _,rfl,?_,?_⟩,?_⟩
  ·intro b a0 C;have X:MemPlace.cell b a0 ∈ E:=by simpa using C
   rw[U.frozen (by exact O _ X)];exact hz b a0 X
  ·intro ha
   simpa using hn ha
  ·intro p C _
   simpa using C
end
set_option maxRecDepth 100000 in
theorem K4{W:World}{base:Nat}{v:Value}{H:Type}{enc:TypeId × Value -> H}{d:DataW H}{V:List MemPlace}(h:Value.okWide prog W .any base 22 v)(M:DataW.Trod enc prog W 0 (fun _=>true) true 22 v d V):
  ∃n s,TSA W v n s:=by
 obtain⟨a,n,c,rfl⟩:=okWide_slice underlying22 h;obtain⟨fuel,O⟩:=M
 have r:Cell.ok prog W .any base 22 (.slice a n c):=by
  unfold Value.okWide Cell.okWide at h;rw[underlying22] at h;exact h
 unfold Cell.ok at r;rw[underlying22] at r
 rcases Go.Deep.open_strs underlying22 underlying30 kR O with ⟨h0,_⟩ | ⟨E,len,cap,m,C,h0,_,R,T,U,_,G⟩
 ·simp[Value.cells] at h0;obtain⟨rfl,rfl,rfl⟩:=h0;exact⟨0,fun _=>⟨#[]⟩,⟨_,_,rfl,Nat.le_refl _,Nat.zero_le _, .inl rfl⟩, .inl ⟨rfl,rfl⟩⟩
 ·simp[Value.cells] at h0;obtain⟨rfl,rfl,rfl⟩:=h0;obtain⟨_,_,_,t,_⟩:=r;obtain⟨b,o,Y⟩:=E;simp only at t;subst t;refine⟨n,C,⟨_,_,rfl,R,T, .inr ⟨b,o,rfl,fun j X=> ?_⟩⟩, .inr (.inl ⟨b,o,c,rfl⟩)⟩;have h1:=(G j (by rw[U];split <;> omega)).1
  have F:(⟨b,o,none⟩:Addr).add j=⟨b,o+j,none⟩:=by
   unfold Addr.add;by_cases e:j=0
   ·rw[if_pos e,e];rfl
   ·rw[if_neg e]
  rw[<- F];exact h1
theorem Al{W:World}(h:W.ShapedOpen prog):iG W:=Tryz.Da.s1_3 W h
theorem Aw{W:World}{rest:List (String × DataW Unit)}(h:laidMet prog (("math/bits.deBruijn32tab",Rows.laid_math_bits_deBruijn32tab):: ("math/bits.deBruijn64tab",Rows.laid_math_bits_deBruijn64tab):: ("internal/strconv.uint64pow10",Rows.laid_internal_strconv_uint64pow10)::rest) W):Tab W:=
 Lib.tabIs_of_head (rest:=rest) (k:= .u64) (zs:=Lib.pow10Tab) (n:=20) Ha Hd underlying261 underlying163 kR kR h.tail.tail
noncomputable def qZ(os:Os):World:=
 let N:=(World.holding prog default ⟨#[], #[],[]⟩).heap.size
 let w0:=World.holding prog os ⟨#[.cells #[.string ⟨#[105,110,118,97,108,105,100,32,115,121,110,116,97,120]⟩] 274, .cells #[.string ⟨#[118,97,108,117,101,32,111,117,116,32,111,102,32,114,97,110,103,101]⟩] 274], #[],[]⟩
 let put (h:Array Obj) (g:Nat) (cs:Array Value):Array Obj:=h.modify g fun
  | .cells _ t frozen=> .cells cs t frozen
  | o=>o
 let u8s (l:List Int):Array Value:=(l.map fun z=>Value.int .u8 z).toArray
 let h0:=put (put w0.heap 4 #[.iface 272 (.pointer (some ⟨N,0,none⟩))]) 5 #[.iface 272 (.pointer (some ⟨N+1,0,none⟩))]
 let h1:=put h0 1 (Lib.pow10Tab.map fun z=>Value.int .u64 z).toArray
 let h2:=put h1 6 (u8s [0,1,28,2,29,14,24,3,30,22,20,15,25,17,4,8,31,27,13,23,21,19,16,7,26,12,18,6,11,5,10,9])
 let h3:=put h2 7 (u8s [0,1,56,2,57,49,28,3,61,58,42,50,38,29,17,4,62,47,59,36,45,43,51,22,53,39,33,30,24,18,12,5,63,55,48,27,60,41,37,16,46,35,44,21,52,32,23,11,54,26,40,15,34,20,31,10,25,14,19,9,13,8,7,6])
 let h4:=put h3 3 (u8s ([128,191,160,191,128,159,144,191,128,143]++List.replicate 22 0))
 let h5:=put h4 2 (u8s (Go.Pinned.utf8FirstZ.map fun(n:Nat)=>(n:Int)))
 {w0 with heap:=h5}
theorem AA(h:Os)(args:Array Value):laidMet prog Rows.linearEquationsRow.laid ((qZ h).forCall (fun _ _=>0) ⟨#[],args,[]⟩).memory:=
 laidMet_of_run' 8 kR kR
end
section
open Go.ChangeShapes
theorem He:mapsRowed prog=true:=by kernel_rfl
theorem Hf:prog.stopsHeard=true:=by kernel_rfl
theorem Hg:prog.mayEnter=true:=by kernel_rfl
theorem Hl:prog.liftsFinal=Rows.linearEquationsRow.lifted:=by kernel_rfl
theorem Hm:prog.plainKeys=Rows.linearEquationsRow.plainKeys:=by kernel_rfl
set_option maxRecDepth 100000 in
theorem AB{f:FuncId}{r:Func}{s:ChangeSpec}{c:OpenClaim}(h1:c.inPlace=prog.inPlace f)(h2:c.unfollowed=prog.unfollowed f)(h3:c.recurses=prog.recurses f)(h4:c.named=prog.varsNamed f)
  (h5:c.lifted=Rows.linearEquationsRow.lifted) (h6:c.plainKeys=Rows.linearEquationsRow.plainKeys)
  (h:(c.wf (OpenSpec.ofChange s) && r.params.all (prog.readableRec ·) && namedTie prog c.named s.vars && (c.stops== []) && (prog.stops== []) && (c.knobs== []) && (prog.stopKnobs== []) &&
   (c.maps== (r.params.toList++s.plain.varTypes prog).any (prog.mapsRec ·)) && (c.ifaces== (r.params.toList++s.plain.varTypes prog).any (prog.ifacesRec ·)) && (c.mapsOut==prog.mapsAmong r.resultTypes.toList) &&
   (c.loops== (r.params.toList++s.plain.varTypes prog).any (prog.loopsFrom ·)) && (c.wideKeys== (r.params.toList++s.plain.varTypes prog++r.resultTypes.toList).any (prog.wideKeysFrom ·)) &&
   s.vars.all (prog.varReadable ·) && r.resultTypes.all (fun t=>prog.readableRec t && decide (t<prog.types.size)) && (c.ifacesOut==r.resultTypes.toList.any (prog.ifacesRec ·)) && (c.loopsOut==r.resultTypes.toList.any (prog.loopsFrom ·)) && c.shortTexts.isNone && (prog.make==some c.make) && (c.kinds== (if c.domain.isEmpty then [] else r.params.toList.map fun t=>match prog.underlying t with | some (.int k)=>some k | _=>none)) && (c.pinned==c.pinnedBy) &&
   (c.veiled== (r.params.toList++s.plain.varTypes prog++r.resultTypes.toList).any (prog.veiledRec ·)) && c.veiledFits prog r.params.toList (r.params.toList++s.plain.varTypes prog++r.resultTypes.toList))=true):joinedFacts prog f r s c=true:=by
 simp only[Bool.and_eq_true] at h;simp only[joinedFacts,Bool.and_eq_true];obtain⟨⟨⟨⟨⟨⟨⟨⟨⟨⟨⟨⟨⟨⟨⟨⟨⟨⟨⟨⟨⟨C,X⟩,a3⟩,a4⟩,a5⟩,a6⟩,a7⟩,a8⟩,a9⟩,E⟩,F⟩,G⟩,M⟩,O⟩,R⟩,T⟩,U⟩,V⟩,W⟩,Y⟩,Z⟩,a0⟩:=h;have q:∀ {α:Type} [BEq α] [LawfulBEq α] {x y:α},x=y -> (x==y)=true:=fun h=>by rw[h];simp
 exact⟨⟨⟨⟨⟨⟨⟨⟨⟨⟨⟨⟨⟨⟨⟨⟨⟨⟨⟨⟨⟨⟨⟨⟨⟨⟨⟨⟨⟨⟨⟨C,laidOut⟩,He⟩,X⟩,a3⟩,a4⟩,a5⟩,a6⟩,a7⟩,q h1⟩,q h2⟩,q h3⟩,q h4⟩,a8⟩,a9⟩,E⟩,F⟩,G⟩,M⟩,O⟩,R⟩,T⟩,by rw[h6,Hm];simp⟩,U⟩,Hf⟩,Hg⟩,by rw[h5,Hl];simp⟩,V⟩,W⟩,Y⟩,Z⟩,a0⟩
end
section
open Go.RowKit
open Lp (RL upd eu)
set_option maxRecDepth 100000 in
set_option maxHeartbeats 3200000 in
theorem tQ(va:Value)(a:Rat)(M:Nat)(w:World)(ha:eO w va a)(hl:RL M a)(X:M <= 1000000)(ht:Tab w):
  Calls prog 68 #[va] w fun e w'=>e= .returned (.string (eF a)) /\ Below w.heap.size w w':=by
 obtain⟨sa,Aa,la,ca,ta,Ba,ma,da,rfl⟩:=ha.shape;obtain⟨ad,y,ac,hy⟩:=ha.parts;have T:=lH hl;have HY:=lH hy;obtain⟨W,hW,F,r⟩:=eN1 w [.bool sa, .slice Aa la ca, .bool ta, .slice Ba ma da] 105;have Va:=lH ((ha).below r.o);have Vn:=lH ((ad).below r.o);have Vd:=lH ((ac).below r.o);go_enter func68,ntmps68;have G:=lH (ht.below (show Below w.heap.size w W by have:=r.o;exact this));clear ha hl hy ad ac ht;obtain⟨a0,a1,a2,a3⟩:=aT4 F.o;have a4:=F.o.lt;rw[hW] at a0 a1 a2 a3 a4;go_wp2_with fail
 rw[<- hW];clear hW a0 a1 a2 a3 a4;refine(lG _ a _ Va.o (T.o.mono oM)).mono ?_;rintro e w1 ⟨rfl,O⟩;replace Vn:=lH (Vn.o.below O);replace Vd:=lH (Vd.o.below O);replace F:=rW F O;replace r:=bT r O;replace G:=lH (G.o.below O);clear O;by_cases R:a.den=1
 ·have ah:decide (a.den=1)=true:=decide_eq_true R;have Z:=lH R;clear R;obtain⟨a0,a1,a2,a3⟩:=aT4 F.o;have a4:=F.o.lt;go_wp2_with fail
  clear a0 a1 a2 a3 a4;refine(vF _ a.num M _ Vn.o T.o.1 X G.o).mono ?_;rintro e w2 ⟨rfl,C⟩;replace r:=bT r C;clear C;rw[<- rP Z.o];go_wp2_with fail
  go_returns;exact⟨rfl,r.o⟩
 ·have ah:decide (a.den=1)=false:=decide_eq_false R;have Z:=lH R;have ae:y=a.den:=by rcases HY.o with h | h;exact h;exact absurd h.2 Z.o
  have VD:Hid (eQ w1 (.agg #[.bool ta, .slice Ba ma da]) (a.den:Int)):=lH (by have h:=Vd.o;rw[ae] at h;exact h);clear R ae Vd;have a6:Hid (((a.den:Nat):Int).natAbs<10^M):=lH (by rw[Int.natAbs_natCast];exact T.o.2);have a7:Hid ((txt a.num).size <= 1000002):=lH (zA T.o.1 X);have af:Hid ((txt (a.den:Int)).size <= 1000002):=lH (zA a6.o X);go_wp2_with fail
  have E:=rG w1;have ag:=F.o.lt;obtain⟨a8,a9,aa,ab⟩:=aT4 F.o;have U:=lH (kC a8 (kC a9 (kC aa (kN ab))));clear ag a8 a9 aa ab;refine rL U.o (fun i=>false) ?_;have t:=U.o _ E.o;refine tKs 0 8 t ?_;refine tKs 1 9 t ?_;refine tKs 4 12 t ?_;refine tKs 5 13 t ?_;refine rD 2 (fun K V=> ?_);go_simp;refine(vF _ a.num M _ (by exact Vn.o) T.o.1 X (by exact G.o)).mono ?_;rintro e w2 ⟨rfl,C⟩;have C:Below w1.heap.size w1 w2:=bD C;replace VD:=lH (VD.o.below C);replace r:=bT r C;replace G:=lH (G.o.below C);replace E:=bT E C;clear t C;have t:=U.o _ E.o;refine kH V t ?_;clear V K;refine jf (i:=3) (v:= .string (txt a.num++ ⟨#[47]⟩)) (some 11) rfl (by rfl) kR kR kR kR (fun _ _ _ h=>h) (Or.inl ⟨by rfl,?_⟩) t ?_
  ·(intro w' a5;clear a5;go_simp;have:=a7.o;omega)
  simp only[Act.put,List.setIfInBounds_toArray,List.set_cons_zero,List.set_cons_succ];refine rD 6 (fun K V=> ?_);go_simp;refine(vF _ (a.den:Int) M _ (by exact VD.o) a6.o X (by exact G.o)).mono ?_;rintro e w3 ⟨rfl,Y⟩;have Y:Below w2.heap.size w2 w3:=bD Y;replace r:=bT r Y;replace E:=bT E Y;clear t Y;have t:=U.o _ E.o;refine kH V t ?_;clear V K;refine jf (i:=7) (v:= .string (txt a.num++ ⟨#[47]⟩++txt (a.den:Int))) (some 15) rfl (by rfl) kR kR kR kR (fun _ _ _ h=>h) (Or.inl ⟨by rfl,?_⟩) t ?_
  ·(intro w' a5;clear a5;go_simp;have h1:=a7.o;have h2:=af.o;(try simp only[ByteArray.size_append]);first | omega | (simp;omega) | (show(txt a.num).size+1+ (txt (a.den:Int)).size <= _;omega))
  simp only[Act.put,List.setIfInBounds_toArray,List.set_cons_zero,List.set_cons_succ];refine tKs 8 2 t ?_;refine dN ?_ _;clear t U E;go_wp2_with fail
  rw[sS Z.o];go_returns;exact⟨rfl,r.o⟩
end
section
open Go.RowKit
open Lp (RL upd eu)
def SK(w:World)(g n:Nat)(s:Nat -> ByteArray):Prop:=∃cs:List Value,Row w g 30 cs /\ n <= cs.length /\ ∀j,j<n -> cs[j]? =some (.string (s j))
section
variable {w w':World} {g n:Nat} {s:Nat -> ByteArray}
theorem SK.lt(h:SK w g n s):g<w.heap.size:=by obtain⟨cs,r,_⟩:=h;exact r.lt
theorem SK.below(h:SK w g n s)(t:Below w.heap.size w w'):SK w' g n s:=by obtain⟨cs,r,h⟩:=h;exact⟨cs,r.below t r.lt,h⟩
theorem SK.other{g':Nat}(h:SK w g n s)(r:w.grownBy w' (some g'))(t:g≠g'):SK w' g n s:=by obtain⟨cs,C,h⟩:=h;exact⟨cs,C.other r t,h⟩
theorem SK.at_(h:SK w g n s){j:Nat}(r:j<n): w.cell? ⟨g,j,none⟩=some (.string (s j)):=by obtain⟨cs,t,_,h⟩:=h;exact t.at_ _ (h j r)
theorem SK.free(h:SK w g n s)(j:Nat): w.frozen? ⟨g,j,none⟩=false:=by obtain⟨cs,r,_⟩:=h;exact r.free j
theorem SK.congr{t:Nat -> ByteArray}(h:SK w g n s)(F:∀j,j<n -> s j=t j):SK w g n t:=by
 obtain⟨cs,E,C,h⟩:=h;exact⟨cs,E,C,fun j r=>by rw[<- F j r];exact h j r⟩
theorem SK.set(h:SK w g n s){j:Nat}{x:ByteArray}(E:j<n):SK (w.setCell ⟨g,j,none⟩ (.string x)) g n (upd s j x):=by
 obtain⟨cs,C,t,h⟩:=h;refine⟨_,C.set j _,by simpa using t,fun k r=> ?_⟩;by_cases e:k=j
 ·subst e;rw[Lp.upd_same];simp[List.getElem?_set];omega
 ·rw[List.getElem?_set_ne oM,Lp.eT _ _ e];exact h k r
theorem SK.row(h:SK w g n s):∃cs,Row w g 30 cs:=by obtain⟨cs,r,_⟩:=h;exact⟨cs,r⟩
theorem SK.ts(h:SK w g n s){c:Nat}(r:n <= c)(C:c <= maxLen):TS w (.slice (some ⟨g,0,none⟩) n c) n s:=⟨_,_,rfl,r,C, .inr ⟨g,0,rfl,fun j t=>by rw[Nat.zero_add];exact h.at_ t⟩⟩
theorem SK.tsa(h:SK w g n s){c:Nat}(r:n <= c)(t:c <= maxLen):TSA w (.slice (some ⟨g,0,none⟩) n c) n s:=⟨h.ts r t, .inr (.inl ⟨g,0,c,rfl⟩)⟩
end
theorem Ho:(prog.info? 30).map (fun i=>(i.zero,i.size,i.bytes))=some (some (.string ⟨#[]⟩),1,16):=by kernel_rfl
theorem SK.made{w:World}{base g n:Nat}(h:w.ownsRow base 30 1 (.slice (some ⟨g,0,none⟩) n n) n (madeCells (Value.string ⟨#[]⟩).cells (n*1)).toList):SK w g n (fun _=>⟨#[]⟩):=by
 have t:=Row.made (z:= .string ⟨#[]⟩) (by rw[Nat.mul_one] at h;exact h);refine⟨_,t,by simp,fun j r=> ?_⟩;rw[List.getElem?_replicate,if_pos r]
theorem AJ(w:World){ops:Array Oper}{rest:List Oper}{o:Oper}{a:Act}{Q:Exit -> Act -> World -> Prop}
  (G:o.guard=none) (l c:Operand) (T:o.op=Op.makeSlice 22 l c) (L C:Int) (n:Nat) (R:a.eval l= .int .i64 L) (F:a.eval c= .int .i64 C) (E:L=(n:Int)) (r:C=(n:Int)) (b2:n <= 4398046511104)
  (t:∀w',SK w' w.heap.size n (fun _=>⟨#[]⟩) -> Below w.heap.size w w' -> w.heap.size<w'.heap.size -> wpList prog ops Q rest (a.put o.dst (.slice (some ⟨w.heap.size,0,none⟩) n n)) w'):
  wpList prog ops Q (o::rest) a w:=by
 obtain⟨i,O,V,W,X⟩:=info_parts Ho;refine wpList_make_full w G l c _ T w.heap.size _ i _ 1 underlying22 O V W .i64 .i64 L C n R F E r (by rw[X];omega) (by unfold maxLen;omega) (Nat.le_refl _) ?_;intro w' U M;have h:=SK.made U;exact t w' h ((Below.refl _ _).grown M (Nat.le_refl _) (by simp)) h.lt
end
section
open Go.RowKit
open Lp (RL upd eu)
set_option maxRecDepth 100000 in
set_option maxHeartbeats 6400000 in
theorem om(va:Value)(n T:Nat)(f:Nat -> Rat)(w:World)(X:eZ w va n f)(hn:n <= 1000000000)(hl:∀j,j<n -> RL T (f j))(ad:T <= 1000000)(ht:Tab w):
  Calls prog 77 #[va] w fun e w'=>∃g,e= .returned (.slice (some ⟨g,0,none⟩) n n) /\ w.heap.size <= g /\ SK w' g n (fun j=>eF (f j)) /\ Below w.heap.size w w':=by
 obtain⟨A,c,rfl,ak,al⟩:=X.shape;have HA:=lH X;have HL:=lH hl;have HT:=lH ht;clear X hl ht;go_enter func77,ntmps77
 go_wp2_with (at_make;refine AJ _ rfl (.tmp 7) (.tmp 7) rfl _ _ n rfl rfl rfl rfl oM ?_)
 intro w1 C t ae;have a0:=lH C;have a1:=lH t;clear C t ae;go_wp2_with fail
 go_loopw [11] (fun Z wr=>∃k:Nat,k <= n /\ Z= .int .i64 k /\ SK wr w.heap.size n (fun j=>if j<k then eF (f j) else⟨#[]⟩) /\ Below w.heap.size w wr)
  (fun Z _=>n-(intOf Z).toNat)
 case atStart=>exact⟨0,Nat.zero_le _,rfl,a0.o.congr (fun j _=>by rw[if_neg oM]),a1.o⟩
 case round=>
  clear a0 a1;obtain⟨k,hk,rfl,a3,a4⟩:=hrel;have h:=lH a3;have r:=lH a4;clear a3 a4;by_cases ao:((k:Nat):Int)<(n:Nat)
  ·have G:k<n:=oM
   obtain⟨gA,rfl,C⟩:=HA.o.at_ oM;have a5:=C.below r.o;have am:=C.lt;obtain⟨sx,O,lx,V,tx,R,mx,W,a2,a6⟩:=(a5).fO G;have U:=lH a2;have E:=lH a6;clear a2 a6;clear C a5;obtain⟨af,ag,ah,ai⟩:=U.o;have aj:=U.o.lt;clear U;have F:=hN wr [.bool sx, .slice O lx V, .bool tx, .slice R mx W] 105;have t:=eD wr (.cells #[.bool sx, .slice O lx V, .bool tx, .slice R mx W] 105);obtain⟨w1,M⟩:=eX (wr.alloc (.cells #[.bool sx, .slice O lx V, .bool tx, .slice R mx W] 105));rw[<- M] at F t;have an:=h.o.lt;replace E:=lH (E.o.below t);replace h:=lH (h.o.below t);replace r:=bT r t;clear t;obtain⟨a7,a8,a9,aa⟩:=aT4 F.o;have ab:=F.o.lt;rw[M] at a7 a8 a9 aa ab;go_wp2_with fail
   rw[<- M];clear M a7 a8 a9 aa ab af ag ah ai aj;refine(tQ _ (f k) T _ E.o (HL.o k G) ad (HT.o.below r.o)).mono ?_;rintro e w2 ⟨rfl,Y⟩;replace h:=lH (h.o.below Y);replace r:=bT r Y;clear Y F E;have kg:=h.o.at_ G;have fg:=h.o.free k;have kl:=h.o.lt;have hg:World.grownBy w2 (w2.setCell ⟨w.heap.size,k,none⟩ (.string (eF (f k)))) (some w.heap.size):=grownBy_set _ _ _ _;have BN:=h.o.set (x:=eF (f k)) G;have ac:=r.o.grown hg r.o.size (by first | (simp;done) | (simp;omega));go_wp2_with fail
   clear kg fg kl;go_roundw
   case rel=>
    refine⟨k+1,by omega,by simp,BN.congr (fun j hj=> ?_),ac⟩;by_cases e:j=k
    ·subst e;rw[Lp.upd_same,if_pos oM]
    ·rw[Lp.eT _ _ e];by_cases e2:j<k
     ·rw[if_pos e2,if_pos oM]
     ·rw[if_neg e2,if_neg oM]
   case measure=>exact mZ
  ·obtain rfl:n=k:=oM
   go_wp2_with fail
   go_returns;exact⟨_,rfl,Nat.le_refl _,h.o.congr (fun j hj=>if_pos hj),r.o⟩
end
section
open Go.RowKit
open Lp (RL upd eu)
theorem AL{a:Int}:sgI a<0↔a<0:=by unfold sgI;split <;> (try split) <;> omega
theorem AQ{a:Int}:0<sgI a↔0<a:=by unfold sgI;split <;> (try split) <;> omega
theorem AV{q:Rat}:q.num<0↔q<0:=by
 rw[<- Rat.not_le, <- Rat.num_nonneg];omega
theorem vR{q:Rat}:0<q.num↔0<q:=by
 have h1:= @Rat.num_nonneg q;have r:= @Rat.num_eq_zero q;constructor
 ·intro h;exact Rat.lt_of_le_of_ne (h1.1 oM) (fun e=>by have:=r.2 e.symm;omega)
 ·intro h;have t:=h1.2 (Rat.le_of_lt h);have C:q.num≠0:=fun e=>by have:=r.1 e;rw[this] at h;exact absurd h Rat.lt_irrefl
  omega
theorem pK{q:Rat}(h:q<0):sgI q.num<0:=AL.2 (AV.2 h)
theorem pM{q:Rat}(h:0 <= q):0 <= sgI q.num:=by
 have h1:=Rat.num_nonneg.2 h;exact Int.not_lt.1 (fun e=>by have:=AL.1 e;omega)
theorem vS{q:Rat}(h:0<q):0<sgI q.num:=AQ.2 (vR.2 h)
theorem vT{q:Rat}(h:q <= 0):sgI q.num <= 0:=by
 have r:¬0<q:=Rat.not_lt.2 h;exact Int.not_lt.1 (fun e=>r (vR.1 (AQ.1 e)))
def jw(n b:Nat)(o:Nat -> Nat)(f:Nat -> Rat)(out:Int):Prop:=
 (out= -1 /\ ∀c,c<b -> n <= o c -> 0 <= f c) \/ ∃x:Nat,out=(x:Nat) /\ x<b /\ n <= o x /\ f x<0 /\ ∀c,c<b -> n <= o c -> o c<o x -> 0 <= f c
theorem tT{n k:Nat}{o:Nat -> Nat}{f:Nat -> Rat}{out:Int}(h:jw n k o f out)(C:n <= o k -> 0 <= f k):jw n (k+1) o f out:=by
 rcases h with ⟨h1,t⟩ | ⟨x,h1,t,E,F,G⟩
 ·exact .inl ⟨h1,fun c M r=>by by_cases e:c=k;subst e;exact C r;exact t c oM r⟩
 ·exact .inr ⟨x,h1,by omega,E,F,fun c M r O=>by by_cases e:c=k;subst e;exact C r;exact G c oM r O⟩
theorem Bf{n k x:Nat}{o:Nat -> Nat}{f:Nat -> Rat}(h:jw n k o f (x:Nat))(G:¬o k<o x):jw n (k+1) o f (x:Nat):=by
 rcases h with ⟨h1,t⟩ | ⟨y,h1,t,C,E,F⟩
 ·omega
 ·obtain rfl:x=y:=oM
  exact .inr ⟨x,rfl,by omega,C,E,fun c O M r=>by by_cases e:c=k;subst e;exact absurd r G;exact F c oM M r⟩
theorem Bj{n k:Nat}{o:Nat -> Nat}{f:Nat -> Rat}(h:jw n k o f (-1))(C:n <= o k)(t:f k<0):jw n (k+1) o f (k:Nat):=by
 rcases h with ⟨h1,r⟩ | ⟨x,h1,r,F,G,M⟩
 ·exact .inr ⟨k,rfl,by omega,C,t,fun c O E R=>by by_cases e:c=k;subst e;omega;exact r c oM E⟩
 ·omega
theorem Bl{n k x:Nat}{o:Nat -> Nat}{f:Nat -> Rat}(h:jw n k o f (x:Nat))(E:n <= o k)(C:f k<0)(R:o k<o x):jw n (k+1) o f (k:Nat):=by
 rcases h with ⟨h1,r⟩ | ⟨y,h1,r,G,M,t⟩
 ·omega
 ·obtain rfl:x=y:=oM
  exact .inr ⟨k,rfl,by omega,E,C,fun c O F T=>by by_cases e:c=k;subst e;omega;exact t c oM F oM⟩
set_option maxRecDepth 100000 in
set_option maxHeartbeats 6400000 in
theorem Hq(L:Lay)(m n i:Nat)(D:eu)(w:World)(hT:fq w L m n D)(hi:i<m)(hm:m <= 4611686018427387904)(hn:n <= 4611686018427387904):
  Calls prog 131 #[.pointer (some ⟨L.gt,0,none⟩), .int .i64 i] w fun e w'=>∃out:Int,e= .returned (.int .i64 out) /\ jw n n D.off (D.cell i) out /\ Below w.heap.size w w':=by
 have a4:0<m:=oM
 have ag:=lH hT;obtain⟨sv,Av,lv,cv,tv,Bv,mv,dv,a2,aa⟩:=hT.st;unfold Lay.cells at a2;rw[(hT.ab a4).1,(hT.ab a4).2.1,(hT.ab a4).2.2] at a2;have h:=lH a2;clear a2 aa;have k2:=aI 2 h;have kl:=h.o.lt;clear hT;have ac:Hid (jw n 0 D.off (D.cell i) (-1)):=lH (.inl ⟨rfl,fun c hc=>absurd hc oM⟩);have al:((i:Nat):Int)<(m:Nat):=oM
 go_enter func131,ntmps131;go_wp2_with fail
 clear k2 kl h
 go_loopw [5,13] (fun ov iv wr=>∃ (k:Nat) (out:Int),k <= n /\ iv= .int .i64 k /\ ov= .int .i64 out /\ Hid (jw n k D.off (D.cell i) out) /\ Below w.heap.size w wr)
  (fun _ iv _=>n-(intOf iv).toNat)
 case atStart=>exact⟨0, -1,Nat.zero_le _,rfl,rfl,ac,Below.refl _ _⟩
 case round=>
  clear ac;obtain⟨k,out,hk,rfl,rfl,HS,a9⟩:=hrel;have HB:=lH a9;have HT:=lH (ag.o.below a9);clear a9;by_cases am:((k:Nat):Int)<(n:Nat)
  ·have ae:k<n:=oM
   have a5:0<n:=oM
   rw[(HT.o.ao a5).1];obtain⟨sv,Av,lv,cv,tv,Bv,mv,dv,a2,aa⟩:=HT.o.st;unfold Lay.cells at a2;rw[(HT.o.ab a4).1,(HT.o.ab a4).2.1,(HT.o.ab a4).2.2] at a2;rw[(HT.o.ao a5).1,(HT.o.ao a5).2] at a2;have h:=lH a2;clear a2 aa;have t:=lH ((HT.o.off a5).at_ ae);have C:=lH ((HT.o.out a4).at_ a5 hi);obtain⟨sx,Ax,lx,cx,tx,Bx,mx,dx,ad,af⟩:=((HT.o.rows a5 i hi)).fO ae;have E:=lH ad;have Vx:=lH af;clear ad af;by_cases hf:¬n <= D.off k
   ·have ah:decide (n <= D.off k)=false:=by simp;omega
    have HF:=lH hf;clear hf;have O:=aI 0 h;have T:=aI 1 h;have V:=aI 2 h;have X:=aI 4 h;have a1:=h.o.lt;have F:=t.o;have Y:=eG t.o;have G:=C.o;have Z:=eG C.o;obtain⟨M,R,U,W⟩:=E.o;have a0:=E.o.lt;go_wp2_with fail
    clear O T V X a1 F Y G Z M R U W a0;go_roundw
    case rel=>exact⟨k+1,out,by omega,by simp,rfl,lH (tT HS.o (fun e=>absurd e HF.o)),HB.o⟩
    case measure=>exact mZ
   ·have ah:decide (n <= D.off k)=true:=by simp;omega
    have HF:Hid (n <= D.off k):=lH oM;clear hf;by_cases hc:0 <= D.cell i k
    ·have a3:decide (sgI (D.cell i k).num<0)=false:=by have:=hc;simp;exact pM hc
     have HC:=lH hc;have a8:=lH a3;clear hc a3;have O:=aI 0 h;have T:=aI 1 h;have V:=aI 2 h;have X:=aI 4 h;have a1:=h.o.lt;have F:=t.o;have Y:=eG t.o;have G:=C.o;have Z:=eG C.o;obtain⟨M,R,U,W⟩:=E.o;have a0:=E.o.lt;go_wp2_with fail
     clear O T V X a1 F Y G Z M R U W a0;refine(fU _ (D.cell i k) _ Vx.o).mono ?_;rintro e w1 ⟨rfl,r⟩;replace h:=rW h r;replace E:=lH (E.o.below r);replace t:=lH (cell_below r t.o);replace C:=lH (cell_below r C.o);replace HB:=bT HB r;clear r;have a3:=a8.o;have O:=aI 0 h;have T:=aI 1 h;have V:=aI 2 h;have X:=aI 4 h;have a1:=h.o.lt;have F:=t.o;have Y:=eG t.o;have G:=C.o;have Z:=eG C.o;obtain⟨M,R,U,W⟩:=E.o;have a0:=E.o.lt;go_wp2_with fail
     clear O T V X a1 F Y G Z M R U W a0;go_roundw
     case rel=>exact⟨k+1,out,by omega,by simp,rfl,lH (tT HS.o (fun _=>HC.o)),HB.o⟩
     case measure=>exact mZ
    ·replace hc:D.cell i k<0:=Rat.not_le.1 hc;have a3:decide (sgI (D.cell i k).num<0)=true:=by simp;exact pK hc
     have HC:Hid (D.cell i k<0):=lH hc;have a8:=lH a3;clear hc a3;by_cases ho:out= -1
     ·obtain rfl:out= -1:=ho;have ak:=HS;have O:=aI 0 h;have T:=aI 1 h;have V:=aI 2 h;have X:=aI 4 h;have a1:=h.o.lt;have F:=t.o;have Y:=eG t.o;have G:=C.o;have Z:=eG C.o;obtain⟨M,R,U,W⟩:=E.o;have a0:=E.o.lt;go_wp2_with fail
      clear O T V X a1 F Y G Z M R U W a0;refine(fU _ (D.cell i k) _ Vx.o).mono ?_;rintro e w1 ⟨rfl,r⟩;replace h:=rW h r;replace E:=lH (E.o.below r);replace t:=lH (cell_below r t.o);replace C:=lH (cell_below r C.o);replace HB:=bT HB r;clear r;have a3:=a8.o;have O:=aI 0 h;have T:=aI 1 h;have V:=aI 2 h;have X:=aI 4 h;have a1:=h.o.lt;have F:=t.o;have Y:=eG t.o;have G:=C.o;have Z:=eG C.o;obtain⟨M,R,U,W⟩:=E.o;have a0:=E.o.lt;go_wp2_with fail
      clear O T V X a1 F Y G Z M R U W a0;go_roundw
      case rel=>exact⟨k+1,(k:Nat),by omega,by simp,rfl,lH (Bj HS.o HF.o HC.o),HB.o⟩
      case measure=>exact mZ
     ·obtain⟨x,hx⟩:∃x:Nat,out=(x:Nat):=by rcases HS.o with ⟨h1,_⟩ | ⟨x,h1,_⟩;exact absurd h1 ho;exact⟨x,h1⟩
      subst hx;have aj:x<n:=by rcases HS.o with ⟨h1,_⟩ | ⟨y,h1,h2,_⟩;omega;omega
      have an:decide (((x:Nat):Int)<0)=false:=by simp
      have ap:((x:Nat):Int)<(n:Nat):=oM
      clear ho;have C2:=lH ((HT.o.off a5).at_ aj);by_cases hl:D.off k<D.off x
      ·have ai:decide (D.off k<D.off x)=true:=by simpa using hl
       have HL:=lH hl;clear hl;have O:=aI 0 h;have T:=aI 1 h;have V:=aI 2 h;have X:=aI 4 h;have a1:=h.o.lt;have F:=t.o;have Y:=eG t.o;have G:=C.o;have Z:=eG C.o;obtain⟨M,R,U,W⟩:=E.o;have a0:=E.o.lt;have a6:=C2.o;have a7:=eG C2.o;go_wp2_with fail
       clear O T V X a1 F Y G Z M R U W a0 a6 a7;refine(fU _ (D.cell i k) _ Vx.o).mono ?_;rintro e w1 ⟨rfl,r⟩;replace h:=rW h r;replace E:=lH (E.o.below r);replace t:=lH (cell_below r t.o);replace C:=lH (cell_below r C.o);replace C2:=lH (cell_below r C2.o);replace HB:=bT HB r;clear r;have a3:=a8.o;have O:=aI 0 h;have T:=aI 1 h;have V:=aI 2 h;have X:=aI 4 h;have a1:=h.o.lt;have F:=t.o;have Y:=eG t.o;have G:=C.o;have Z:=eG C.o;obtain⟨M,R,U,W⟩:=E.o;have a0:=E.o.lt;have a6:=C2.o;have a7:=eG C2.o;go_wp2_with fail
       clear O T V X a1 F Y G Z M R U W a0 a6 a7;go_roundw
       case rel=>exact⟨k+1,(k:Nat),by omega,by simp,rfl,lH (Bl HS.o HF.o HC.o HL.o),HB.o⟩
       case measure=>exact mZ
      ·have ai:decide (D.off k<D.off x)=false:=by simpa using hl
       have HL:=lH hl;clear hl;have O:=aI 0 h;have T:=aI 1 h;have V:=aI 2 h;have X:=aI 4 h;have a1:=h.o.lt;have F:=t.o;have Y:=eG t.o;have G:=C.o;have Z:=eG C.o;obtain⟨M,R,U,W⟩:=E.o;have a0:=E.o.lt;have a6:=C2.o;have a7:=eG C2.o;go_wp2_with fail
       clear O T V X a1 F Y G Z M R U W a0 a6 a7;refine(fU _ (D.cell i k) _ Vx.o).mono ?_;rintro e w1 ⟨rfl,r⟩;replace h:=rW h r;replace E:=lH (E.o.below r);replace t:=lH (cell_below r t.o);replace C:=lH (cell_below r C.o);replace C2:=lH (cell_below r C2.o);replace HB:=bT HB r;clear r;have a3:=a8.o;have O:=aI 0 h;have T:=aI 1 h;have V:=aI 2 h;have X:=aI 4 h;have a1:=h.o.lt;have F:=t.o;have Y:=eG t.o;have G:=C.o;have Z:=eG C.o;obtain⟨M,R,U,W⟩:=E.o;have a0:=E.o.lt;have a6:=C2.o;have a7:=eG C2.o;go_wp2_with fail
       clear O T V X a1 F Y G Z M R U W a0 a6 a7;go_roundw
       case rel=>exact⟨k+1,(x:Nat),by omega,by simp,rfl,lH (Bf HS.o HL.o),HB.o⟩
       case measure=>exact mZ
  ·obtain rfl:n=k:=oM
   go_wp2_with fail
   go_returns;exact⟨out,rfl,HS.o,HB.o⟩
end
end Go.Proofs.YtdefghfjhgmpfaaGreatDoor
