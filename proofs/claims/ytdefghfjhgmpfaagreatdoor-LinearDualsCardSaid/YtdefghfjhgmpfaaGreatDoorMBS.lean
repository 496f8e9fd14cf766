/- Parts of this proof: FewL FewP. -/
import Derived.Test.YtdefghfjhgmpfaaGreatDoorMAV
namespace Go.Proofs.YtdefghfjhgmpfaaGreatDoor
open Go.Proofs.Tryz
section
open Go.RowKit
open Lp (RL upd eu)
def rz(n:Nat)(t:Nat -> ByteArray)(b:ByteArray):Prop:=n <= 6 /\ (∀j,j<n -> (t j).size <= 12) /\ b.size <= 12
theorem JL{n:Nat}{t:Nat -> ByteArray}{b:ByteArray}:og 6 2 (fun i=>if i=0 then n else 1) (fun i j=>if i=0 then t j else b)↔rz n t b:=by
 constructor
 ·intro h;have h0:=h 0 oM;have h1:=h 1 oM;exact⟨h0.1,h0.2,h1.2 0 (by show(0:Nat)<1;omega)⟩
 ·rintro⟨h1,r,C⟩ i E
  rcases i with _ | _ | i
  ·exact⟨h1,r⟩
  ·exact⟨by show(1:Nat) <= 6;omega,fun j _=>C⟩
  ·omega
theorem JM{w h E:World}{A:Option Addr}{n c r C:Nat}{t:Nat -> ByteArray}{b:ByteArray}(R:TS w (.slice A n c) n t)(h1:Below w.heap.size w h)(F:Below h.heap.size h E)(M:Row h r 30 [.string b])(O:Row E C 22 [.slice A n c, .slice (some ⟨r,0,none⟩) 1 1]):
  TLs E (.slice (some ⟨C,0,none⟩) 2 2) 2 (fun i=>if i=0 then n else 1) (fun i j=>if i=0 then t j else b):=by
 refine⟨_,_,rfl,Nat.le_refl _,by unfold maxLen;omega, .inr ⟨C,0,rfl,fun i T=> ?_⟩⟩
 rcases i with _ | _ | i
 ·exact⟨_,O.at_ 0 rfl,(R.below h1).below F⟩
 ·exact⟨_,O.at_ 1 rfl,⟨_,_,rfl,Nat.le_refl _,by unfold maxLen;omega, .inr ⟨r,0,rfl,fun j G=>by have G:j<1:=G;rw[show 0+j=0 by omega];exact(M.below F M.lt).at_ 0 rfl⟩⟩⟩
 ·omega
set_option maxRecDepth 100000 in
set_option maxHeartbeats 1600000 in
theorem JN(A:Option Addr)(n c:Nat)(t:Nat -> ByteArray)(b:ByteArray)(w:World)(ht:TS w (.slice A n c) n t):
  Calls prog 62 #[.agg #[.slice A n c, .string b]] w fun e w'=>((rz n t b /\ e= .returned (.bool false)) \/ (¬rz n t b /\ e= .returned (.bool true))) /\ Below w.heap.size w w':=by
 have HT:=lH ht;clear ht;obtain⟨F,O⟩:=eX (w.alloc (.cells #[.slice A n c, .string b] 53));obtain⟨r,E⟩:=eX (F.alloc (.cells #[.string b] 30));obtain⟨V,R⟩:=eX (r.alloc (.cells #[.slice A n c, .slice (some ⟨w.heap.size+1,0,none⟩) 1 1] 22));have C:Below w.heap.size w F:=by rw[O];exact eD _ _
 have M:Below F.heap.size F r:=by rw[E];exact eD _ _
 have U:Below r.heap.size r V:=by rw[R];exact eD _ _
 have T:F.heap.size=w.heap.size+1:=by rw[O];simp
 have Z:r.heap.size=w.heap.size+1+1:=by rw[E,size_alloc,T]
 have X:Row r (w.heap.size+1) 30 [.string b]:=by rw[E, <- T];exact eP _ _
 have Y:Row V (w.heap.size+1+1) 22 [.slice A n c, .slice (some ⟨w.heap.size+1,0,none⟩) 1 1]:=by rw[R, <- Z];exact eP _ _
 have W:=lH (JM (HT.o.below C) M U X Y);have G:Hid (Below w.heap.size w V):=lH ((C.trans (M.mono C.size)).trans (U.mono (Nat.le_trans C.size M.size)));clear X Y C M U T Z;go_enter func62,ntmps62;go_wp2_with fail
 rw[<- O, <- E, <- R];clear O E R;refine(vN 6 _ 2 _ _ _ W.o dC dC).mono ?_;rintro e w4 ⟨a0,hb⟩;replace G:=bT G hb;clear hb W;rw[JL] at a0
 rcases a0 with ⟨h,rfl⟩ | ⟨h,rfl⟩
 ·have H:=lH h;clear h;go_wp2_with fail
  go_returns;exact⟨.inl ⟨H.o,rfl⟩,G.o⟩
 ·have H:=lH h;clear h;go_wp2_with fail
  go_returns;exact⟨.inr ⟨H.o,rfl⟩,G.o⟩
def mH(m:Nat)(k:Nat -> Nat)(t:Nat -> Nat -> ByteArray)(b:Nat -> ByteArray):Prop:=∀i,i<m -> rz (k i) (t i) (b i)
set_option maxRecDepth 100000 in
set_option maxHeartbeats 1600000 in
theorem JO(va:Value)(m:Nat)(k:Nat -> Nat)(t:Nat -> Nat -> ByteArray)(b:Nat -> ByteArray)(w:World)(E:fZ w va m k t b):
  Calls prog 99 #[va, .func (.func 62) #[] #[]] w fun e w'=>((mH m k t b /\ e= .returned (.int .i64 (-1))) \/ (¬mH m k t b /\ ∃z:Nat,e= .returned (.int .i64 z))) /\ Below w.heap.size w w':=by
 obtain⟨A,c,rfl,a1,U⟩:=E.shape;have HR:=lH E;have a3:((m:Nat):Int) <= 9223372036854775807:=by unfold maxLen at U;omega
 clear E a1 U;go_enter func99,ntmps99;go_wp2_with fail
 go_loopw [8] (fun G wr=>∃q:Nat,((q:Nat):Int) <= ((m:Nat):Int) /\ G= .int .i64 q /\ Hid (mH q k t b) /\ Below w.heap.size w wr) (fun G _=>m-(intOf G).toNat)
 case atStart=>exact⟨0,by omega,rfl,lH (fun i W=>absurd W oM),Below.refl _ _⟩
 case round=>
  obtain⟨q,hq,rfl,Z,C⟩:=hrel;have M:=lH Z.o;have r:=lH C;clear Z C;by_cases a4:((q:Nat):Int)<((m:Nat):Int)
  ·have Y:q<m:=oM
   obtain⟨gR,oR,rfl,V⟩:=HR.o.at_ oM;obtain⟨u,R,T,F⟩:=V q Y;obtain⟨X,x,rfl,_,_⟩:=F.shape;have a0:=lH (F.below r.o);have O:=cell_below r.o R;have c2:=cell_below r.o T;have cl:=eG O;clear V R T F;go_wp2_with fail
   clear O c2 cl;refine(JN X (k q) x (t q) (b q) _ a0.o).mono ?_;rintro e w2 ⟨a2,C⟩;replace r:=bT r C;clear C
   rcases a2 with ⟨h,rfl⟩ | ⟨h,rfl⟩
   ·have H:=lH h;clear h;go_wp2_with fail
    go_roundw
    case rel=>exact⟨q+1,by omega,by go_num,lH (fun i W=>by by_cases e:i=q;subst e;exact H.o;exact M.o i oM),r.o⟩
    case measure=>simp[intOf];omega
   ·have H:Hid (¬mH m k t b):=lH (fun h2=>h (h2 q Y));clear h;go_wp2_with fail
    go_returns;exact⟨.inr ⟨H.o,q,rfl⟩,r.o⟩
  ·obtain rfl:q=m:=oM
   go_wp2_with fail
   go_returns;exact⟨.inl ⟨M.o,rfl⟩,r.o⟩
theorem JP(r:Value)(m:Nat)(k:Nat -> Nat)(t:Nat -> Nat -> ByteArray)(b:Nat -> ByteArray)(w:World)(F:fZ w r m k t b):
  Calls prog 61 #[r, .func (.func 62) #[] #[]] w fun e w'=>((mH m k t b /\ e= .returned (.bool false)) \/ (¬mH m k t b /\ e= .returned (.bool true))) /\ Below w.heap.size w w':=by
 have G:=lH (JO r m k t b w F);clear F;go_enter func61,ntmps61;go_wp2_with fail
 refine G.o.mono ?_;rintro e R ⟨M,E⟩;have C:=lH E;clear E
 rcases M with ⟨h,rfl⟩ | ⟨h,z,rfl⟩
 ·have H:=lH h;clear h;go_wp2_with fail
  go_returns;exact⟨.inl ⟨H.o,rfl⟩,C.o⟩
 ·have H:=lH h;have O:(0:Int) <= ((z:Nat):Int):=oM
  clear h;go_wp2_with fail
  go_returns;exact⟨.inr ⟨H.o,rfl⟩,C.o⟩
theorem Cz(r:Nat)(M:Value)(m:Nat)(k:Nat -> Nat)(t:Nat -> Nat -> ByteArray)(b:Nat -> ByteArray)(w:World)(G:fZ w M m k t b):
  Calls prog 22 #[.int .i64 r,M] w fun e w'=>(((m <= r /\ mH m k t b) /\ e= .returned (.bool true)) \/ (¬(m <= r /\ mH m k t b) /\ e= .returned (.bool false))) /\ Below w.heap.size w w':=by
 have R:=lH (fun w' E=>JP M m k t b w' (G.below E));obtain⟨A,c,rfl,_,_⟩:=G.shape;clear G;go_enter func22,ntmps22;by_cases C:m <= r
 ·have T:((m:Nat):Int) <= ((r:Nat):Int):=oM
  have F:=lH C;clear C;go_wp2_with fail
  refine(R.o _ (Below.refl _ _)).mono ?_;rintro e X ⟨U,E⟩;have O:=lH E;clear E
  rcases U with ⟨h,rfl⟩ | ⟨h,rfl⟩
  ·have H:=lH h;clear h;go_wp2_with fail
   go_returns;exact⟨.inl ⟨⟨F.o,H.o⟩,rfl⟩,O.o⟩
  ·have H:=lH h;clear h;go_wp2_with fail
   go_returns;exact⟨.inr ⟨fun h=>H.o h.2,rfl⟩,O.o⟩
 ·have T:((r:Nat):Int)<((m:Nat):Int):=oM
  have V:decide (((m:Nat):Int) <= ((r:Nat):Int))=false:=decide_eq_false oM;have W:decide (m <= r)=false:=decide_eq_false C;have F:=lH C;clear C;go_wp2_with fail
  go_returns;exact⟨.inr ⟨fun h=>F.o h.1,rfl⟩,Below.refl _ _⟩
end
section
open Go.RowKit
open Lp (RL upd eu)
theorem JQ{w h:World}{A:Option Addr}{n c g:Nat}{t:Nat -> ByteArray}{e:TypeId}(r:TS w (.slice A n c) n t)(h1:Below w.heap.size w h)(C:Row h g e [.slice A n c]):
  TLs h (.slice (some ⟨g,0,none⟩) 1 1) 1 (fun _=>n) (fun _=>t):=by
 refine⟨_,_,rfl,Nat.le_refl _,by unfold maxLen;omega, .inr ⟨g,0,rfl,fun i E=> ?_⟩⟩;obtain rfl:i=0:=oM
 exact⟨_,C.at_ 0 rfl,r.below h1⟩
def oF(n m:Nat)(k:Nat -> Nat)(o:Nat -> ByteArray)(t:Nat -> Nat -> ByteArray)(b:Nat -> ByteArray):Prop:=(n <= 6 /\ ∀j,j<n -> (o j).size <= 12) /\ m <= 8 /\ mH m k t b
theorem oF.fit{n m:Nat}{k:Nat -> Nat}{o:Nat -> ByteArray}{t:Nat -> Nat -> ByteArray}{b:Nat -> ByteArray}(h:oF n m k o t b):
  n <= 6 /\ m <= 8 /\ (∀i,i<m -> k i <= 6) /\ (∀j,j<n -> (o j).size <= 12) /\ (∀i,i<m -> ∀j,j<k i -> (t i j).size <= 12) /\ ∀i,i<m -> (b i).size <= 12:=
 ⟨h.1.1,h.2.1,fun i r=>(h.2.2 i r).1,h.1.2,fun i r=>(h.2.2 i r).2.1,fun i r=>(h.2.2 i r).2.2⟩
set_option maxRecDepth 100000 in
set_option maxHeartbeats 3200000 in
theorem JR(G X:Option Addr)(n m O Y:Nat)(k:Nat -> Nat)(o:Nat -> ByteArray)(t:Nat -> Nat -> ByteArray)(b:Nat -> ByteArray)(w:World)(ho:TS w (.slice G n O) n o)(hr:fZ w (.slice X m Y) m k t b):
  Calls prog 17 #[.agg #[.slice G n O, .slice X m Y]] w fun e w'=>((oF n m k o t b /\ e= .returned (.bool true)) \/ (¬oF n m k o t b /\ e= .returned (.bool false))) /\ Below w.heap.size w w':=by
 have HO:=lH ho;have HR:=lH hr;clear ho hr;obtain⟨W,T,E,C⟩:=eN1 w [.slice G n O, .slice X m Y] 25;go_enter func17,ntmps17;have p0:=aI 0 E;have V:=E.o.lt;rw[T] at p0 V;obtain⟨w2,R⟩:=eX (W.alloc (.cells #[.slice G n O] 22));have a1:W.heap.size=w.heap.size+1:=by rw[T];simp
 obtain⟨g1,Z⟩:=eX (w.heap.size+1);have U:Below W.heap.size W w2:=by rw[R];exact eD _ _
 have a0:Hid (TLs w2 (.slice (some ⟨g1,0,none⟩) 1 1) 1 (fun _=>n) (fun _=>o)):=lH (JQ (HO.o.below C.o) U (show Row w2 g1 22 [.slice G n O] by rw[R,Z, <- a1];exact eP _ _));replace E:=rW E U;replace C:=bT C U;clear U;clear a1;rw[T] at R;go_wp2_with fail
 rw[<- R, <- Z];clear T R Z p0 V;refine(vN 6 _ 1 _ _ _ a0.o dC dC).mono ?_;rintro e w3 ⟨r,F⟩;replace E:=rW E F;replace C:=bT C F;clear F a0
 rcases r with ⟨r,rfl⟩ | ⟨r,rfl⟩
 ·have HS:Hid (n <= 6 /\ ∀j,j<n -> (o j).size <= 12):=lH ⟨(r 0 oM).1,(r 0 oM).2⟩;clear r;have p1:=aI 1 E;have V:=E.o.lt;go_wp2_with fail
  clear p1 V;refine(Cz 8 _ m k t b _ (HR.o.below C.o)).mono ?_;rintro e w4 ⟨r,F⟩;replace C:=bT C F;clear F
  rcases r with ⟨r,rfl⟩ | ⟨r,rfl⟩
  ·have M:Hid (oF n m k o t b):=lH ⟨HS.o,r⟩;clear r;go_wp2_with fail
   go_returns;exact⟨.inl ⟨M.o,rfl⟩,C.o⟩
  ·have M:Hid (¬oF n m k o t b):=lH (fun h=>r h.2);clear r;go_wp2_with fail
   go_returns;exact⟨.inr ⟨M.o,rfl⟩,C.o⟩
 ·have M:Hid (¬oF n m k o t b):=lH (fun h=>r (fun i hi=>h.1));clear r;go_wp2_with fail
  go_returns;exact⟨.inr ⟨M.o,rfl⟩,C.o⟩
end
end Go.Proofs.YtdefghfjhgmpfaaGreatDoor
