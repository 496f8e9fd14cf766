/- Parts of this proof: LCheck Same. -/
import Derived.Test.YtdefghfjhgmpfaaGreatDoorMBB
import Derived.Test.YtdefghfjhgmpfaaGreatDoorMAY
import Derived.Test.YtdefghfjhgmpfaaGreatDoorMBS
namespace Go.Proofs.YtdefghfjhgmpfaaGreatDoor
open Go.Proofs.Tryz
section
open Go.RowKit
open Lp (RL upd eu)
set_option maxRecDepth 100000 in
set_option maxHeartbeats 3200000 in
theorem K9(r C:Option Addr)(n m E F:Nat)(k:Nat -> Nat)(o:Nat -> ByteArray)(t:Nat -> Nat -> ByteArray)(b:Nat -> ByteArray)(w:World)(V:TS w (.slice r n E) n o)(G:fZ w (.slice C m F) m k t b)(hn:n <= 1000000000)(hm:m <= 1000000000)
  (Y:∀j,j<n -> (o j).size <= 65536) (Z:∀i,i<m -> ∀j,j<k i -> (t i j).size <= 65536) (X:∀i,i<m -> (b i).size <= 65536) (U:iG w):
  Calls prog 55 #[.agg #[.slice r n E, .slice C m F]] w fun e w'=>e= .returned (.int .i64 (fD n m k o t b:Nat)) /\ Below w.heap.size w w':=by
 have a1:=lH (wm r C n m E F k o t b);have HO:=lH V;have HR:=lH G;have M:=lH (And.intro Y (And.intro Z X));have a0:=lH U;clear V G Y Z X U;obtain⟨W,R,O,h⟩:=eN1 w [.slice r n E, .slice C m F] 25;go_enter func55,ntmps55;obtain⟨p0,p1⟩:=aT2 O.o;have pl:=O.o.lt;rw[R] at p0 p1 pl;go_wp2_with fail
 rw[<- R];clear R p0 p1 pl;refine(a1.o _ (HO.o.below h.o) (HR.o.below h.o) hn hm M.o.1 M.o.2.1 M.o.2.2 (a0.o.below h.o)).mono ?_;rintro e w1 ⟨G,T⟩;replace h:=bT h T;clear T O
 rcases G with ⟨h0,rfl⟩ | ⟨h0,AC,AS,AD,cC,cS,cD,A,bq,c,rfl,_⟩
 ·clear h0;go_wp2_with fail
  go_returns;exact⟨rfl,h.o.trans ((eD _ _).mono h.o.size)⟩
 ·have HZ:=lH h0;clear h0;go_wp2_with fail
  go_returns;exact⟨by rw[HZ.o];rfl,h.o.trans ((eD _ _).mono h.o.size)⟩
end
section
open Go.RowKit
open Lp (RL upd eu)
set_option maxRecDepth 100000 in
set_option maxHeartbeats 12800000 in
theorem Kc(A B:Option Addr)(k c d:Nat)(t:Nat -> ByteArray)(b:ByteArray)(w:World)(T:TS w (.slice A k c) k t)(h:TS w (.slice B k d) k t)(U:k <= 1000000000):
  Calls prog 93 #[.agg #[.slice A k c, .string b], .agg #[.slice B k d, .string b]] w fun e w'=>e= .returned (.bool true) /\ Below w.heap.size w w':=by
 have V:=lH T;have X:=lH h;have Y:=lH U;clear T h U;obtain⟨W,F,r,C,E⟩:=eN2 w [.slice A k c, .string b] 53 [.slice B k d, .string b] 53;go_enter func93,ntmps93;have G:=aI 0 r;have O:=r.o.lt;have M:=aI 0 C;have R:=C.o.lt;rw[F] at G O M R;go_wp2_with fail
 rw[<- F];clear F G O M R;refine(JZ _ _ k t _ (V.o.below E.o) (X.o.below E.o) Y.o).mono ?_;rintro e w1 ⟨rfl,h⟩;replace r:=rW r h;replace C:=rW C h;replace E:=bT E h;clear h;obtain⟨G,Z⟩:=aT2 r.o;have O:=r.o.lt;obtain⟨M,a0⟩:=aT2 C.o;have R:=C.o.lt;go_wp2_with fail
 go_returns;exact⟨rfl,E.o⟩
set_option maxRecDepth 100000 in
set_option maxHeartbeats 12800000 in
theorem Ke(va vb:Value)(m:Nat)(k:Nat -> Nat)(t:Nat -> Nat -> ByteArray)(b:Nat -> ByteArray)(w:World)(Z:fZ w va m k t b)(r:fZ w vb m k t b)(hk:∀i,i<m -> k i <= 1000000000):
  Calls prog 92 #[va,vb, .func (.func 93) #[] #[]] w fun e w'=>e= .returned (.bool true) /\ Below w.heap.size w w':=by
 obtain⟨A,c,rfl,ab,a5⟩:=Z.shape;obtain⟨B,d,rfl,_,_⟩:=r.shape;have HA:=lH Z;have HC:=lH r;have HK:=lH hk;have ai:((m:Nat):Int) <= 9223372036854775807:=by unfold maxLen at a5;omega
 clear Z r hk ab a5;go_enter func92,ntmps92;go_wp2_with fail
 go_loopw [17] (fun iv wr=>∃q:Nat,((q:Nat):Int) <= ((m:Nat):Int) /\ iv= .int .i64 q /\ Below w.heap.size w wr) (fun iv _=>m-(intOf iv).toNat)
 case atStart=>exact⟨0,by omega,rfl,Below.refl _ _⟩
 case round=>
  obtain⟨q,hq,rfl,r⟩:=hrel;have h:=lH r;clear r;by_cases aj:((q:Nat):Int)<((m:Nat):Int)
  ·have a0:q<m:=oM
   obtain⟨gR,oR,rfl,a6⟩:=HA.o.at_ oM;obtain⟨gS,oS,rfl,a9⟩:=HC.o.at_ oM;obtain⟨u,a3,a4,a1⟩:=a6 q a0;obtain⟨v,a7,a8,a2⟩:=a9 q a0;obtain⟨X,x,rfl,_,_⟩:=a1.shape;obtain⟨Y,y,rfl,_,_⟩:=a2.shape;have E:=lH (a1.below h.o);have F:=lH (a2.below h.o);have c1:=cell_below h.o a3;have c2:=cell_below h.o a4;have cl:=eG c1;have d1:=cell_below h.o a7;have d2:=cell_below h.o a8;have dl:=eG d1;clear a6 a9 a3 a4 a7 a8 a1 a2;have O:=eD wr (.cells #[.slice X (k q) x, .string (b q)] 53);obtain⟨T,C⟩:=eX (wr.alloc (.cells #[.slice X (k q) x, .string (b q)] 53));have aa:T.heap.size=wr.heap.size+1:=by rw[C];simp
   have R:=eD T (.cells #[.slice Y (k q) y, .string (b q)] 53);obtain⟨w3,M⟩:=eX (T.alloc (.cells #[.slice Y (k q) y, .string (b q)] 53));have W:Row T wr.heap.size 53 [.slice X (k q) x, .string (b q)]:=by rw[C];exact eP _ _
   have R2:Row w3 (wr.heap.size+1) 53 [.slice Y (k q) y, .string (b q)]:=by rw[M, <- aa];exact eP _ _
   rw[<- C] at O;rw[<- M] at R;have G:=lH (O.trans (R.mono O.size));have U:=lH (W.below R W.lt);have V:=lH R2;clear W R2 O R aa
   go_upto_region 7 with (fail)
   rw[<- C, <- M];clear C M c1 c2 cl d1 d2 dl;replace E:=lH (E.o.below G.o);replace F:=lH (F.o.below G.o);replace h:=lH (h.o.trans (G.o.mono h.o.size));clear G;obtain⟨ac,ae⟩:=aT2 U.o;have ag:=U.o.lt;obtain⟨ad,af⟩:=aT2 V.o;have ah:=V.o.lt;go_wp2_with fail
   clear ac ae ag ad af ah;refine(Kc X Y (k q) x y (t q) (b q) _ E.o F.o (HK.o q a0)).mono ?_;rintro e w4 ⟨rfl,r⟩;replace h:=bT h r;clear r;clear E F U V;go_wp2_with fail
   go_roundw
   case rel=>exact⟨q+1,by omega,by go_num,h.o⟩
   case measure=>simp[intOf];omega
  ·obtain rfl:q=m:=oM
   go_wp2_with fail
   go_returns;exact⟨rfl,h.o⟩
set_option maxRecDepth 100000 in
set_option maxHeartbeats 12800000 in
theorem Kb(A B C D:Option Addr)(n m c d e f:Nat)(k:Nat -> Nat)(o:Nat -> ByteArray)(t:Nat -> Nat -> ByteArray)(b:Nat -> ByteArray)(w:World)(R:TS w (.slice A n c) n o)(h:TS w (.slice B n d) n o)(T:fZ w (.slice C m e) m k t b)(U:fZ w (.slice D m f) m k t b)(X:n <= 1000000000)(V:∀i,i<m -> k i <= 1000000000):
  Calls prog 56 #[.agg #[.slice A n c, .slice C m e], .agg #[.slice B n d, .slice D m f]] w fun e w'=>e= .returned (.bool true) /\ Below w.heap.size w w':=by
 have HA:=lH R;have HC:=lH h;have HD:=lH T;have HE:=lH U;have HN:=lH X;have HK:=lH V;clear R h T U X V;obtain⟨W,O,E,F,r⟩:=eN2 w [.slice A n c, .slice C m e] 25 [.slice B n d, .slice D m f] 25;go_enter func56,ntmps56;have Y:=aI 0 E;have G:=E.o.lt;have Z:=aI 0 F;have M:=F.o.lt;rw[O] at Y G Z M;go_wp2_with fail
 rw[<- O];clear O Y G Z M;refine(JZ _ _ n o _ (HA.o.below r.o) (HC.o.below r.o) HN.o).mono ?_;rintro e w1 ⟨rfl,h⟩;replace E:=rW E h;replace F:=rW F h;replace r:=bT r h;clear h;have a0:=aI 1 E;have G:=E.o.lt;have a1:=aI 1 F;have M:=F.o.lt;go_wp2_with fail
 clear a0 G a1 M;refine(Ke _ _ m k t b _ (HD.o.below r.o) (HE.o.below r.o) HK.o).mono ?_;rintro e w2 ⟨rfl,h⟩;replace r:=bT r h;clear h;go_wp2_with fail
 go_returns;exact⟨rfl,r.o⟩
end
end Go.Proofs.YtdefghfjhgmpfaaGreatDoor
