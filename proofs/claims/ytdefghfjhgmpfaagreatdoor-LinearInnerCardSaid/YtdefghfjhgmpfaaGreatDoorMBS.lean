/- Parts of this proof: FewL FewP. -/
import Derived.Test.YtdefghfjhgmpfaaGreatDoorMAV
namespace Go.Proofs.YtdefghfjhgmpfaaGreatDoor
open Go.Proofs.Tryz
section
open Go.RowKit
open Lp (RL upd eu)
def rz(n:Nat)(t:Nat -> ByteArray)(b:ByteArray):Prop:=n <= 6 /\ (∀j,j<n -> (t j).size <= 12) /\ b.size <= 12
theorem JL{n:Nat}{t:Nat -> ByteArray}{b:ByteArray}:og 6 2 (fun i=>if i=0 then n else 1) (fun i j=>if i=0 then t j else b)↔rz n t b:=by
 constructor
 ·intro h;have h0:=h 0 oM;have h1:=h 1 oM;exact⟨h0.1,h0.2,h1.2 0 (by show(0:Nat)<1;omega)⟩
 ·rintro⟨h1,E,F⟩ i G
  rcases i with _ | _ | i
  ·exact⟨h1,E⟩
  ·exact⟨by show(1:Nat) <= 6;omega,fun j _=>F⟩
  ·omega
theorem JM{w h G:World}{A:Option Addr}{n c E F:Nat}{t:Nat -> ByteArray}{b:ByteArray}(U:TS w (.slice A n c) n t)(h1:Below w.heap.size w h)(M:Below h.heap.size h G)(R:Row h E 30 [.string b])(T:Row G F 22 [.slice A n c, .slice (some ⟨E,0,none⟩) 1 1]):
  TLs G (.slice (some ⟨F,0,none⟩) 2 2) 2 (fun i=>if i=0 then n else 1) (fun i j=>if i=0 then t j else b):=by
 refine⟨_,_,rfl,Nat.le_refl _,by unfold maxLen;omega, .inr ⟨F,0,rfl,fun i X=> ?_⟩⟩
 rcases i with _ | _ | i
 ·exact⟨_,T.at_ 0 rfl,(U.below h1).below M⟩
 ·exact⟨_,T.at_ 1 rfl,⟨_,_,rfl,Nat.le_refl _,by unfold maxLen;omega, .inr ⟨E,0,rfl,fun j O=>by have O:j<1:=O;rw[show 0+j=0 by omega];exact(R.below M R.lt).at_ 0 rfl⟩⟩⟩
 ·omega
set_option maxRecDepth 100000 in
set_option maxHeartbeats 1600000 in
theorem JN(A:Option Addr)(n c:Nat)(t:Nat -> ByteArray)(b:ByteArray)(w:World)(ht:TS w (.slice A n c) n t):
  Calls prog 62 #[.agg #[.slice A n c, .string b]] w fun e w'=>((rz n t b /\ e= .returned (.bool false)) \/ (¬rz n t b /\ e= .returned (.bool true))) /\ Below w.heap.size w w':=by
 have HT:=lH ht;clear ht;obtain⟨M,T⟩:=eX (w.alloc (.cells #[.slice A n c, .string b] 53));obtain⟨E,G⟩:=eX (M.alloc (.cells #[.string b] 30));obtain⟨Z,U⟩:=eX (E.alloc (.cells #[.slice A n c, .slice (some ⟨w.heap.size+1,0,none⟩) 1 1] 22));have F:Below w.heap.size w M:=by rw[T];exact eD _ _
 have R:Below M.heap.size M E:=by rw[G];exact eD _ _
 have Y:Below E.heap.size E Z:=by rw[U];exact eD _ _
 have X:M.heap.size=w.heap.size+1:=by rw[T];simp
 have e2:E.heap.size=w.heap.size+1+1:=by rw[G,size_alloc,X]
 have R1:Row E (w.heap.size+1) 30 [.string b]:=by rw[G, <- X];exact eP _ _
 have R2:Row Z (w.heap.size+1+1) 22 [.slice A n c, .slice (some ⟨w.heap.size+1,0,none⟩) 1 1]:=by rw[U, <- e2];exact eP _ _
 have a0:=lH (JM (HT.o.below F) R Y R1 R2);have O:Hid (Below w.heap.size w Z):=lH ((F.trans (R.mono F.size)).trans (Y.mono (Nat.le_trans F.size R.size)));clear R1 R2 F R Y X e2;go_enter func62,ntmps62;go_wp2_with fail
 rw[<- T, <- G, <- U];clear T G U;refine(vN 6 _ 2 _ _ _ a0.o dC dC).mono ?_;rintro e w4 ⟨a1,hb⟩;replace O:=bT O hb;clear hb a0;rw[JL] at a1
 rcases a1 with ⟨h,rfl⟩ | ⟨h,rfl⟩
 ·have H:=lH h;clear h;go_wp2_with fail
  go_returns;exact⟨.inl ⟨H.o,rfl⟩,O.o⟩
 ·have H:=lH h;clear h;go_wp2_with fail
  go_returns;exact⟨.inr ⟨H.o,rfl⟩,O.o⟩
def mH(m:Nat)(k:Nat -> Nat)(t:Nat -> Nat -> ByteArray)(b:Nat -> ByteArray):Prop:=∀i,i<m -> rz (k i) (t i) (b i)
set_option maxRecDepth 100000 in
set_option maxHeartbeats 1600000 in
theorem JO(va:Value)(m:Nat)(k:Nat -> Nat)(t:Nat -> Nat -> ByteArray)(b:Nat -> ByteArray)(w:World)(G:fZ w va m k t b):
  Calls prog 99 #[va, .func (.func 62) #[] #[]] w fun e w'=>((mH m k t b /\ e= .returned (.int .i64 (-1))) \/ (¬mH m k t b /\ ∃z:Nat,e= .returned (.int .i64 z))) /\ Below w.heap.size w w':=by
 obtain⟨A,c,rfl,a3,Z⟩:=G.shape;have HR:=lH G;have a5:((m:Nat):Int) <= 9223372036854775807:=by unfold maxLen at Z;omega
 clear G a3 Z;go_enter func99,ntmps99;go_wp2_with fail
 go_loopw [8] (fun O wr=>∃q:Nat,((q:Nat):Int) <= ((m:Nat):Int) /\ O= .int .i64 q /\ Hid (mH q k t b) /\ Below w.heap.size w wr) (fun O _=>m-(intOf O).toNat)
 case atStart=>exact⟨0,by omega,rfl,lH (fun i hi=>absurd hi oM),Below.refl _ _⟩
 case round=>
  obtain⟨q,hq,rfl,hz,F⟩:=hrel;have R:=lH hz.o;have E:=lH F;clear hz F;by_cases a6:((q:Nat):Int)<((m:Nat):Int)
  ·have a1:q<m:=oM
   obtain⟨gR,oR,rfl,a0⟩:=HR.o.at_ oM;obtain⟨u,U,Y,M⟩:=a0 q a1;obtain⟨X,x,rfl,_,_⟩:=M.shape;have a2:=lH (M.below E.o);have T:=cell_below E.o U;have c2:=cell_below E.o Y;have cl:=eG T;clear a0 U Y M;go_wp2_with fail
   clear T c2 cl;refine(JN X (k q) x (t q) (b q) _ a2.o).mono ?_;rintro e w2 ⟨a4,F⟩;replace E:=bT E F;clear F
   rcases a4 with ⟨h,rfl⟩ | ⟨h,rfl⟩
   ·have H:=lH h;clear h;go_wp2_with fail
    go_roundw
    case rel=>exact⟨q+1,by omega,by go_num,lH (fun i hi=>by by_cases e:i=q;subst e;exact H.o;exact R.o i oM),E.o⟩
    case measure=>simp[intOf];omega
   ·have H:Hid (¬mH m k t b):=lH (fun h2=>h (h2 q a1));clear h;go_wp2_with fail
    go_returns;exact⟨.inr ⟨H.o,q,rfl⟩,E.o⟩
  ·obtain rfl:q=m:=oM
   go_wp2_with fail
   go_returns;exact⟨.inl ⟨R.o,rfl⟩,E.o⟩
theorem JP(E:Value)(m:Nat)(k:Nat -> Nat)(t:Nat -> Nat -> ByteArray)(b:Nat -> ByteArray)(w:World)(M:fZ w E m k t b):
  Calls prog 61 #[E, .func (.func 62) #[] #[]] w fun e w'=>((mH m k t b /\ e= .returned (.bool false)) \/ (¬mH m k t b /\ e= .returned (.bool true))) /\ Below w.heap.size w w':=by
 have O:=lH (JO E m k t b w M);clear M;go_enter func61,ntmps61;go_wp2_with fail
 refine O.o.mono ?_;rintro e U ⟨R,G⟩;have F:=lH G;clear G
 rcases R with ⟨h,rfl⟩ | ⟨h,z,rfl⟩
 ·have H:=lH h;clear h;go_wp2_with fail
  go_returns;exact⟨.inl ⟨H.o,rfl⟩,F.o⟩
 ·have H:=lH h;have T:(0:Int) <= ((z:Nat):Int):=oM
  clear h;go_wp2_with fail
  go_returns;exact⟨.inr ⟨H.o,rfl⟩,F.o⟩
theorem Cz(E:Nat)(R:Value)(m:Nat)(k:Nat -> Nat)(t:Nat -> Nat -> ByteArray)(b:Nat -> ByteArray)(w:World)(O:fZ w R m k t b):
  Calls prog 22 #[.int .i64 E,R] w fun e w'=>(((m <= E /\ mH m k t b) /\ e= .returned (.bool true)) \/ (¬(m <= E /\ mH m k t b) /\ e= .returned (.bool false))) /\ Below w.heap.size w w':=by
 have U:=lH (fun w' G=>JP R m k t b w' (O.below G));obtain⟨A,c,rfl,_,_⟩:=O.shape;clear O;go_enter func22,ntmps22;by_cases F:m <= E
 ·have X:((m:Nat):Int) <= ((E:Nat):Int):=oM
  have M:=lH F;clear F;go_wp2_with fail
  refine(U.o _ (Below.refl _ _)).mono ?_;rintro e w2 ⟨Y,G⟩;have T:=lH G;clear G
  rcases Y with ⟨h,rfl⟩ | ⟨h,rfl⟩
  ·have H:=lH h;clear h;go_wp2_with fail
   go_returns;exact⟨.inl ⟨⟨M.o,H.o⟩,rfl⟩,T.o⟩
  ·have H:=lH h;clear h;go_wp2_with fail
   go_returns;exact⟨.inr ⟨fun h=>H.o h.2,rfl⟩,T.o⟩
 ·have X:((E:Nat):Int)<((m:Nat):Int):=oM
  have Z:decide (((m:Nat):Int) <= ((E:Nat):Int))=false:=decide_eq_false oM;have a0:decide (m <= E)=false:=decide_eq_false F;have M:=lH F;clear F;go_wp2_with fail
  go_returns;exact⟨.inr ⟨fun h=>M.o h.1,rfl⟩,Below.refl _ _⟩
end
section
open Go.RowKit
open Lp (RL upd eu)
theorem JQ{w h:World}{A:Option Addr}{n c g:Nat}{t:Nat -> ByteArray}{e:TypeId}(E:TS w (.slice A n c) n t)(h1:Below w.heap.size w h)(F:Row h g e [.slice A n c]):
  TLs h (.slice (some ⟨g,0,none⟩) 1 1) 1 (fun _=>n) (fun _=>t):=by
 refine⟨_,_,rfl,Nat.le_refl _,by unfold maxLen;omega, .inr ⟨g,0,rfl,fun i G=> ?_⟩⟩;obtain rfl:i=0:=oM
 exact⟨_,F.at_ 0 rfl,E.below h1⟩
def oF(n m:Nat)(k:Nat -> Nat)(o:Nat -> ByteArray)(t:Nat -> Nat -> ByteArray)(b:Nat -> ByteArray):Prop:=(n <= 6 /\ ∀j,j<n -> (o j).size <= 12) /\ m <= 8 /\ mH m k t b
theorem oF.fit{n m:Nat}{k:Nat -> Nat}{o:Nat -> ByteArray}{t:Nat -> Nat -> ByteArray}{b:Nat -> ByteArray}(h:oF n m k o t b):
  n <= 6 /\ m <= 8 /\ (∀i,i<m -> k i <= 6) /\ (∀j,j<n -> (o j).size <= 12) /\ (∀i,i<m -> ∀j,j<k i -> (t i j).size <= 12) /\ ∀i,i<m -> (b i).size <= 12:=
 ⟨h.1.1,h.2.1,fun i E=>(h.2.2 i E).1,h.1.2,fun i E=>(h.2.2 i E).2.1,fun i E=>(h.2.2 i E).2.2⟩
set_option maxRecDepth 100000 in
set_option maxHeartbeats 3200000 in
theorem JR(O AR:Option Addr)(n m T cR:Nat)(k:Nat -> Nat)(o:Nat -> ByteArray)(t:Nat -> Nat -> ByteArray)(b:Nat -> ByteArray)(w:World)(ho:TS w (.slice O n T) n o)(hr:fZ w (.slice AR m cR) m k t b):
  Calls prog 17 #[.agg #[.slice O n T, .slice AR m cR]] w fun e w'=>((oF n m k o t b /\ e= .returned (.bool true)) \/ (¬oF n m k o t b /\ e= .returned (.bool false))) /\ Below w.heap.size w w':=by
 have HO:=lH ho;have HR:=lH hr;clear ho hr;obtain⟨W,X,G,F⟩:=eN1 w [.slice O n T, .slice AR m cR] 25;go_enter func17,ntmps17;have p0:=aI 0 G;have Z:=G.o.lt;rw[X] at p0 Z;obtain⟨w2,U⟩:=eX (W.alloc (.cells #[.slice O n T] 22));have a2:W.heap.size=w.heap.size+1:=by rw[X];simp
 obtain⟨g1,a0⟩:=eX (w.heap.size+1);have Y:Below W.heap.size W w2:=by rw[U];exact eD _ _
 have a1:Hid (TLs w2 (.slice (some ⟨g1,0,none⟩) 1 1) 1 (fun _=>n) (fun _=>o)):=lH (JQ (HO.o.below F.o) Y (show Row w2 g1 22 [.slice O n T] by rw[U,a0, <- a2];exact eP _ _));replace G:=rW G Y;replace F:=bT F Y;clear Y;clear a2;rw[X] at U;go_wp2_with fail
 rw[<- U, <- a0];clear X U a0 p0 Z;refine(vN 6 _ 1 _ _ _ a1.o dC dC).mono ?_;rintro e w3 ⟨E,M⟩;replace G:=rW G M;replace F:=bT F M;clear M a1
 rcases E with ⟨E,rfl⟩ | ⟨E,rfl⟩
 ·have HS:Hid (n <= 6 /\ ∀j,j<n -> (o j).size <= 12):=lH ⟨(E 0 oM).1,(E 0 oM).2⟩;clear E;have p1:=aI 1 G;have Z:=G.o.lt;go_wp2_with fail
  clear p1 Z;refine(Cz 8 _ m k t b _ (HR.o.below F.o)).mono ?_;rintro e w4 ⟨E,M⟩;replace F:=bT F M;clear M
  rcases E with ⟨E,rfl⟩ | ⟨E,rfl⟩
  ·have R:Hid (oF n m k o t b):=lH ⟨HS.o,E⟩;clear E;go_wp2_with fail
   go_returns;exact⟨.inl ⟨R.o,rfl⟩,F.o⟩
  ·have R:Hid (¬oF n m k o t b):=lH (fun h=>E h.2);clear E;go_wp2_with fail
   go_returns;exact⟨.inr ⟨R.o,rfl⟩,F.o⟩
 ·have R:Hid (¬oF n m k o t b):=lH (fun h=>E (fun i hi=>h.1));clear E;go_wp2_with fail
  go_returns;exact⟨.inr ⟨R.o,rfl⟩,F.o⟩
end
end Go.Proofs.YtdefghfjhgmpfaaGreatDoor
