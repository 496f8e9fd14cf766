/- Parts of this proof: SPerm. -/
import Derived.Test.YtokagbahdkfagaaGreatDoorMAE
import Derived.Test.YtokagbahdkfagaaGreatDoorMBN
import Derived.Test.YtokagbahdkfagaaGreatDoorMBG
namespace Go.Proofs.YtokagbahdkfagaaGreatDoor
open Go.Proofs.Tryz
open Go.RowKit
open Lp (RL upd eH)
theorem J4{a b:Rat}:nJ a b<0↔a<b:=by
 unfold nJ;by_cases h:a<b
 ·rw[if_pos h];constructor <;> intro r;exact h;decide
 ·rw[if_neg h];by_cases h1:a=b
  ·rw[if_pos h1];constructor <;> intro r;omega;exact absurd r h
  ·rw[if_neg h1];constructor <;> intro r;omega;exact absurd r h
theorem J5{a b:Rat}:0<nJ a b↔b<a:=by
 unfold nJ;by_cases h:a<b
 ·rw[if_pos h];constructor <;> intro r;omega;grind
 ·rw[if_neg h];by_cases h1:a=b
  ·rw[if_pos h1];constructor <;> intro r;omega;grind
  ·rw[if_neg h1];constructor <;> intro r;grind;decide
theorem Jn{q:Rat}:0<sgI q.num↔0<q:=yK.trans uu
def J6(P:Prb)(x:Nat -> Rat)(k:Nat):Prop:=((P.a k+P.l k:Int):Rat) <= x k /\ x k <= ((P.a k+P.u k:Int):Rat)
def J3(P:Prb)(x:Nat -> Rat)(k:Nat):Prop:=fw (P.F k) x (P.F k).N <= 0
def Perm(P:Prb)(x:Nat -> Rat):Prop:=(∀k,k<P.n -> J6 P x k) /\ ∀k,k<P.m -> J3 P x k
set_option maxRecDepth 100000 in
set_option maxHeartbeats 12800000 in
theorem JD(P:Prb)(A C X:Option Addr)(cA cC cX K X0:Nat)(x:Nat -> Rat)(w:World)(hp:PIn w (.slice A P.n cA) (.slice C P.m cC) P)(hX:fD w (.slice X P.n cX) P.n x)(ho:POk P)(hx:∀j,j<P.n -> RL X0 (x j))(hc:∀i,i<P.m -> (P.F i).c.size <= K)(hf:∀i,i<P.m -> ∀k,k<(P.F i).N -> ((P.F i).f k).size <= K)(R:0<K /\ K <= 1000)(ao:X0 <= 1000)(hg:fF w):
  Calls prog 68 #[.agg #[.slice A P.n cA, .slice C P.m cC], .slice X P.n cX] w fun e w'=>((Perm P x /\ e= .returned (.bool true)) \/ (¬Perm P x /\ e= .returned (.bool false))) /\ Below w.heap.size w w':=by
 have HD:=lH hp.1;have HC:=lH hp.2;have HX:=lH hX;have ae:=lH ho;have ab:=lH hx;have ay:=lH hc;have aA:=lH hf;have a5:=lH (And.intro R ao);have aB:=lH hg;clear hp hX ho hx hc hf R ao hg;obtain⟨W,hW,U,O⟩:=eN1 w [.slice A P.n cA, .slice C P.m cC] 58;go_enter func68,ntmps68
 go_upto_region 1 with (fail)
 rw[<- hW];clear hW;have aF:=aI 0 U;have ak:=U.o.lt;go_wp2_with fail
 clear aF ak
 go_loopw [12] (fun iv wr=>∃ (k:Nat),k <= P.n /\ iv= .int .i64 k /\ Hid (∀j,j<k -> J6 P x j) /\ Hid (Row wr w.heap.size 58 [.slice A P.n cA, .slice C P.m cC]) /\ Hid (Below w.heap.size w wr)) (fun iv _=>P.n-(intOf iv).toNat)
 case atStart=>exact⟨0,Nat.zero_le _,rfl,lH (fun j hj=>absurd hj oM),U,O⟩
 case round=>
  clear U O;obtain⟨k,hk,rfl,HF,U,O⟩:=hrel;by_cases au:((k:Nat):Int)<(P.n:Nat)
  ·have Y:k<P.n:=oM
   obtain⟨gA,oA,rfl,a6⟩:=HD.o.at_ oM;have ad:=cell_below O.o (a6 k Y).1;have ah:=cell_below O.o (a6 k Y).2.1;have ai:=cell_below O.o (a6 k Y).2.2.1;have aK:=cell_below O.o (a6 k Y).2.2.2;have aj:=eF ad;clear a6;have Z:=lH (ae.o.dim k Y);obtain⟨W3,a4⟩:=eX (wr.alloc (.cells #[.string (P.s k), .int .i64 (P.a k), .int .i64 (P.l k), .int .i64 (P.u k)] 76));obtain⟨gT,a8⟩:=eX (wr.heap.size);have a7:Below wr.heap.size wr W3:=by rw[a4];exact eD _ _
   have M:Hid (Row W3 gT 76 [.string (P.s k), .int .i64 (P.a k), .int .i64 (P.l k), .int .i64 (P.u k)]):=lH (by rw[a4,a8];exact eO _ _);replace U:=rW U a7;replace O:=bT O a7;clear a7
   go_upto_region 4 with (fail)
   clear ad ah ai aK aj;rw[<- a4, <- a8];clear a4 a8;obtain⟨gx,rfl,aw⟩:=(HX.o.below O.o).at_ oM;obtain⟨sx,Ax,lx,cx,tx,Bx,mx,dx,an,ax⟩:=aw.fK Y;have G:=lH an;have V:=lH ax;clear aw an ax;by_cases h1:x k<((P.a k+P.l k:Int):Rat)
   ·have H1:=lH h1;clear h1;refine iC (fun w'=> w'.cell? ⟨gT,1,none⟩=some (.int .i64 (P.a k)) /\ w'.cell? ⟨gT,2,none⟩=some (.int .i64 (P.l k)) /\ w'.cell? ⟨gT,3,none⟩=some (.int .i64 (P.u k)) /\ w'.cell? ⟨gx,k*4,none⟩=some (.bool sx) /\ w'.cell? ⟨gx,k*4+1,none⟩=some (.slice Ax lx cx) /\ w'.cell? ⟨gx,k*4+2,none⟩=some (.bool tx) /\ w'.cell? ⟨gx,k*4+3,none⟩=some (.slice Bx mx dx)) (fun i=>false) kR ?_;obtain⟨y1,a2⟩:=eX (W3.drew);rw[<- a2];have E:Below W3.heap.size W3 y1:=by rw[a2];exact(Below.refl _ _).drew
    clear a2;replace M:=rW M E;replace G:=lH (G.o.below E);replace V:=lH (V.o.below E);replace O:=bT O E;have am:=lH E;clear E;have r:=And.intro (M.o.at_ 1 rfl) (And.intro (M.o.at_ 2 rfl) (And.intro (M.o.at_ 3 rfl) (And.intro (G.o.1) (And.intro (G.o.2.1) (And.intro (G.o.2.2.1) (G.o.2.2.2))))));refine tKs 0 17 r ?_;refine tKs 1 18 r ?_;refine tKs 2 19 r ?_;refine tKs 3 20 r ?_;refine tKs 4 21 r ?_;refine tKs 5 22 r ?_;refine tKs 6 23 r ?_;refine tKs 7 24 r ?_;refine jd (i:=8) (v:= .int .i64 (P.a k+P.l k)) (some 25) rfl (by rfl) kR kR kR kR (fun _ _ _ h=>h) (Or.inl ⟨by rfl,?_⟩) r ?_
    ·(intro w' a0;clear a0;go_simp;rw[IntKind.wrap_i64];have:=Z.o;omega)
    simp only[Act.put,List.setIfInBounds_toArray,List.set_cons_zero,List.set_cons_succ];refine rD 9 (fun K R=> ?_);go_simp;refine(nL (P.a k+P.l k) (by have:=Z.o;omega) (by have:=Z.o;omega) _).mono ?_;rintro e y2 ⟨v1,rfl,a1,E⟩;obtain⟨s1,A1,l1,c1,t1,B1,m1,d1,rfl⟩:=a1.shape;have V1:=lH a1;clear a1;replace M:=rW M E;replace G:=lH (G.o.below E);replace V:=lH (V.o.below E);replace O:=bT O E;clear E;clear r;have r:=And.intro (M.o.at_ 1 rfl) (And.intro (M.o.at_ 2 rfl) (And.intro (M.o.at_ 3 rfl) (And.intro (G.o.1) (And.intro (G.o.2.1) (And.intro (G.o.2.2.1) (G.o.2.2.2))))));refine kH R r ?_;clear R K;refine rD 10 (fun K R=> ?_);go_simp;refine(Ew _ _ (x k) ((P.a k+P.l k:Int):Rat) _ V.o V1.o ((ab.o k Y).mono (by have:=a5.o;omega)) ((rM (k:=12) (by have:=Z.o;omega) dC).mono dC)).mono ?_;rintro e y3 ⟨rfl,E⟩;obtain⟨z1,a3⟩:=eX (nJ (x k) ((P.a k+P.l k:Int):Rat));rw[<- a3];have av:z1<0:=by rw[a3];exact J4.2 H1.o
    clear a3;replace M:=rW M E;replace G:=lH (G.o.below E);replace O:=bT O E;clear E;clear r;have r:=And.intro (M.o.at_ 1 rfl) (And.intro (M.o.at_ 2 rfl) (And.intro (M.o.at_ 3 rfl) (And.intro (G.o.1) (And.intro (G.o.2.1) (And.intro (G.o.2.2.1) (G.o.2.2.2))))));refine kH R r ?_;clear R K;refine jd (i:=11) (v:= .bool true) (some 28) rfl (by rfl) kR kR kR kR (fun _ _ _ h=>h) (Or.inl ⟨by rfl,?_⟩) r ?_
    ·(intro w' a0;clear a0;go_simp;try omega)
    simp only[Act.put,List.setIfInBounds_toArray,List.set_cons_zero,List.set_cons_succ];refine tKs 12 29 r ?_;refine tUs 13 30 r ?_;refine tUs 14 31 r ?_;refine tUs 15 32 r ?_;refine tUs 16 33 r ?_;refine tUs 17 34 r ?_;refine tUs 18 35 r ?_;refine tUs 19 36 r ?_;refine tUs 20 37 r ?_;refine tUs 21 38 r ?_;refine tUs 22 39 r ?_;refine tUs 23 40 r ?_;refine tUs 24 41 r ?_;refine tKs 25 42 r ?_;refine dN ?_ _;clear r;go_wp2_with fail
    go_returns;exact⟨.inr ⟨fun h=>absurd (h.1 k Y).1 (fun e=>by have:=H1.o;grind),rfl⟩,O.o⟩
   ·have H1:=lH h1;clear h1;by_cases h2:((P.a k+P.u k:Int):Rat)<x k
    ·have H2:=lH h2;clear h2;refine iC (fun w'=> w'.cell? ⟨gT,1,none⟩=some (.int .i64 (P.a k)) /\ w'.cell? ⟨gT,2,none⟩=some (.int .i64 (P.l k)) /\ w'.cell? ⟨gT,3,none⟩=some (.int .i64 (P.u k)) /\ w'.cell? ⟨gx,k*4,none⟩=some (.bool sx) /\ w'.cell? ⟨gx,k*4+1,none⟩=some (.slice Ax lx cx) /\ w'.cell? ⟨gx,k*4+2,none⟩=some (.bool tx) /\ w'.cell? ⟨gx,k*4+3,none⟩=some (.slice Bx mx dx)) (fun i=>false) kR ?_;obtain⟨y1,a2⟩:=eX (W3.drew);rw[<- a2];have E:Below W3.heap.size W3 y1:=by rw[a2];exact(Below.refl _ _).drew
     clear a2;replace M:=rW M E;replace G:=lH (G.o.below E);replace V:=lH (V.o.below E);replace O:=bT O E;have am:=lH E;clear E;have r:=And.intro (M.o.at_ 1 rfl) (And.intro (M.o.at_ 2 rfl) (And.intro (M.o.at_ 3 rfl) (And.intro (G.o.1) (And.intro (G.o.2.1) (And.intro (G.o.2.2.1) (G.o.2.2.2))))));refine tKs 0 17 r ?_;refine tKs 1 18 r ?_;refine tKs 2 19 r ?_;refine tKs 3 20 r ?_;refine tKs 4 21 r ?_;refine tKs 5 22 r ?_;refine tKs 6 23 r ?_;refine tKs 7 24 r ?_;refine jd (i:=8) (v:= .int .i64 (P.a k+P.l k)) (some 25) rfl (by rfl) kR kR kR kR (fun _ _ _ h=>h) (Or.inl ⟨by rfl,?_⟩) r ?_
     ·(intro w' a0;clear a0;go_simp;rw[IntKind.wrap_i64];have:=Z.o;omega)
     simp only[Act.put,List.setIfInBounds_toArray,List.set_cons_zero,List.set_cons_succ];refine rD 9 (fun K R=> ?_);go_simp;refine(nL (P.a k+P.l k) (by have:=Z.o;omega) (by have:=Z.o;omega) _).mono ?_;rintro e y2 ⟨v1,rfl,a1,E⟩;obtain⟨s1,A1,l1,c1,t1,B1,m1,d1,rfl⟩:=a1.shape;have V1:=lH a1;clear a1;replace M:=rW M E;replace G:=lH (G.o.below E);replace V:=lH (V.o.below E);replace O:=bT O E;clear E;clear r;have r:=And.intro (M.o.at_ 1 rfl) (And.intro (M.o.at_ 2 rfl) (And.intro (M.o.at_ 3 rfl) (And.intro (G.o.1) (And.intro (G.o.2.1) (And.intro (G.o.2.2.1) (G.o.2.2.2))))));refine kH R r ?_;clear R K;refine rD 10 (fun K R=> ?_);go_simp;refine(Ew _ _ (x k) ((P.a k+P.l k:Int):Rat) _ V.o V1.o ((ab.o k Y).mono (by have:=a5.o;omega)) ((rM (k:=12) (by have:=Z.o;omega) dC).mono dC)).mono ?_;rintro e y3 ⟨rfl,E⟩;obtain⟨z1,a3⟩:=eX (nJ (x k) ((P.a k+P.l k:Int):Rat));rw[<- a3];have av:¬z1<0:=by rw[a3];exact fun e=>H1.o (J4.1 e)
     clear a3;replace M:=rW M E;replace G:=lH (G.o.below E);replace V:=lH (V.o.below E);replace O:=bT O E;clear E;clear r;have r:=And.intro (M.o.at_ 1 rfl) (And.intro (M.o.at_ 2 rfl) (And.intro (M.o.at_ 3 rfl) (And.intro (G.o.1) (And.intro (G.o.2.1) (And.intro (G.o.2.2.1) (G.o.2.2.2))))));refine kH R r ?_;clear R K;refine jd (i:=11) (v:= .bool false) (some 28) rfl (by rfl) kR kR kR kR (fun _ _ _ h=>h) (Or.inl ⟨by rfl,?_⟩) r ?_
     ·(intro w' a0;clear a0;go_simp;try omega)
     simp only[Act.put,List.setIfInBounds_toArray,List.set_cons_zero,List.set_cons_succ];refine tKs 12 29 r ?_;refine tKs 13 30 r ?_;refine tKs 14 31 r ?_;refine tKs 15 32 r ?_;refine tKs 16 33 r ?_;refine tKs 17 34 r ?_;refine tKs 18 35 r ?_;refine tKs 19 36 r ?_;refine tKs 20 37 r ?_;refine jd (i:=21) (v:= .int .i64 (P.a k+P.u k)) (some 38) rfl (by rfl) kR kR kR kR (fun _ _ _ h=>h) (Or.inl ⟨by rfl,?_⟩) r ?_
     ·(intro w' a0;clear a0;go_simp;rw[IntKind.wrap_i64];have:=Z.o;omega)
     simp only[Act.put,List.setIfInBounds_toArray,List.set_cons_zero,List.set_cons_succ];refine rD 22 (fun K R=> ?_);go_simp;refine(nL (P.a k+P.u k) (by have:=Z.o;omega) (by have:=Z.o;omega) _).mono ?_;rintro e y4 ⟨v2,rfl,a9,E⟩;obtain⟨s2,A2,l2,c2,t2,B2,m2,d2,rfl⟩:=a9.shape;have V2:=lH a9;clear a9;replace M:=rW M E;replace G:=lH (G.o.below E);replace V:=lH (V.o.below E);replace O:=bT O E;clear E;clear r;have r:=And.intro (M.o.at_ 1 rfl) (And.intro (M.o.at_ 2 rfl) (And.intro (M.o.at_ 3 rfl) (And.intro (G.o.1) (And.intro (G.o.2.1) (And.intro (G.o.2.2.1) (G.o.2.2.2))))));refine kH R r ?_;clear R K;refine rD 23 (fun K R=> ?_);go_simp;refine(Ew _ _ (x k) ((P.a k+P.u k:Int):Rat) _ V.o V2.o ((ab.o k Y).mono (by have:=a5.o;omega)) ((rM (k:=12) (by have:=Z.o;omega) dC).mono dC)).mono ?_;rintro e y5 ⟨rfl,E⟩;obtain⟨z2,aa⟩:=eX (nJ (x k) ((P.a k+P.u k:Int):Rat));rw[<- aa];have aD:0<z2:=by rw[aa];exact J5.2 H2.o
     clear aa;replace M:=rW M E;replace G:=lH (G.o.below E);replace O:=bT O E;clear E;clear r;have r:=And.intro (M.o.at_ 1 rfl) (And.intro (M.o.at_ 2 rfl) (And.intro (M.o.at_ 3 rfl) (And.intro (G.o.1) (And.intro (G.o.2.1) (And.intro (G.o.2.2.1) (G.o.2.2.2))))));refine kH R r ?_;clear R K;refine jd (i:=24) (v:= .bool true) (some 41) rfl (by rfl) kR kR kR kR (fun _ _ _ h=>h) (Or.inl ⟨by rfl,?_⟩) r ?_
     ·(intro w' a0;clear a0;go_simp;try omega)
     simp only[Act.put,List.setIfInBounds_toArray,List.set_cons_zero,List.set_cons_succ];refine tKs 25 42 r ?_;refine dN ?_ _;clear r;go_wp2_with fail
     go_returns;exact⟨.inr ⟨fun h=>absurd (h.1 k Y).2 (fun e=>by have:=H2.o;grind),rfl⟩,O.o⟩
    ·have H2:=lH h2;clear h2;refine iC (fun w'=> w'.cell? ⟨gT,1,none⟩=some (.int .i64 (P.a k)) /\ w'.cell? ⟨gT,2,none⟩=some (.int .i64 (P.l k)) /\ w'.cell? ⟨gT,3,none⟩=some (.int .i64 (P.u k)) /\ w'.cell? ⟨gx,k*4,none⟩=some (.bool sx) /\ w'.cell? ⟨gx,k*4+1,none⟩=some (.slice Ax lx cx) /\ w'.cell? ⟨gx,k*4+2,none⟩=some (.bool tx) /\ w'.cell? ⟨gx,k*4+3,none⟩=some (.slice Bx mx dx)) (fun i=>false) kR ?_;obtain⟨y1,a2⟩:=eX (W3.drew);rw[<- a2];have E:Below W3.heap.size W3 y1:=by rw[a2];exact(Below.refl _ _).drew
     clear a2;replace U:=rW U E;replace M:=rW M E;replace G:=lH (G.o.below E);replace V:=lH (V.o.below E);replace O:=bT O E;have am:=lH E;clear E;have r:=And.intro (M.o.at_ 1 rfl) (And.intro (M.o.at_ 2 rfl) (And.intro (M.o.at_ 3 rfl) (And.intro (G.o.1) (And.intro (G.o.2.1) (And.intro (G.o.2.2.1) (G.o.2.2.2))))));refine tKs 0 17 r ?_;refine tKs 1 18 r ?_;refine tKs 2 19 r ?_;refine tKs 3 20 r ?_;refine tKs 4 21 r ?_;refine tKs 5 22 r ?_;refine tKs 6 23 r ?_;refine tKs 7 24 r ?_;refine jd (i:=8) (v:= .int .i64 (P.a k+P.l k)) (some 25) rfl (by rfl) kR kR kR kR (fun _ _ _ h=>h) (Or.inl ⟨by rfl,?_⟩) r ?_
     ·(intro w' a0;clear a0;go_simp;rw[IntKind.wrap_i64];have:=Z.o;omega)
     simp only[Act.put,List.setIfInBounds_toArray,List.set_cons_zero,List.set_cons_succ];refine rD 9 (fun K R=> ?_);go_simp;refine(nL (P.a k+P.l k) (by have:=Z.o;omega) (by have:=Z.o;omega) _).mono ?_;rintro e y2 ⟨v1,rfl,a1,E⟩;obtain⟨s1,A1,l1,c1,t1,B1,m1,d1,rfl⟩:=a1.shape;have V1:=lH a1;clear a1;replace U:=rW U E;replace M:=rW M E;replace G:=lH (G.o.below E);replace V:=lH (V.o.below E);replace O:=bT O E;clear E;clear r;have r:=And.intro (M.o.at_ 1 rfl) (And.intro (M.o.at_ 2 rfl) (And.intro (M.o.at_ 3 rfl) (And.intro (G.o.1) (And.intro (G.o.2.1) (And.intro (G.o.2.2.1) (G.o.2.2.2))))));refine kH R r ?_;clear R K;refine rD 10 (fun K R=> ?_);go_simp;refine(Ew _ _ (x k) ((P.a k+P.l k:Int):Rat) _ V.o V1.o ((ab.o k Y).mono (by have:=a5.o;omega)) ((rM (k:=12) (by have:=Z.o;omega) dC).mono dC)).mono ?_;rintro e y3 ⟨rfl,E⟩;obtain⟨z1,a3⟩:=eX (nJ (x k) ((P.a k+P.l k:Int):Rat));rw[<- a3];have av:¬z1<0:=by rw[a3];exact fun e=>H1.o (J4.1 e)
     clear a3;replace U:=rW U E;replace M:=rW M E;replace G:=lH (G.o.below E);replace V:=lH (V.o.below E);replace O:=bT O E;clear E;clear r;have r:=And.intro (M.o.at_ 1 rfl) (And.intro (M.o.at_ 2 rfl) (And.intro (M.o.at_ 3 rfl) (And.intro (G.o.1) (And.intro (G.o.2.1) (And.intro (G.o.2.2.1) (G.o.2.2.2))))));refine kH R r ?_;clear R K;refine jd (i:=11) (v:= .bool false) (some 28) rfl (by rfl) kR kR kR kR (fun _ _ _ h=>h) (Or.inl ⟨by rfl,?_⟩) r ?_
     ·(intro w' a0;clear a0;go_simp;try omega)
     simp only[Act.put,List.setIfInBounds_toArray,List.set_cons_zero,List.set_cons_succ];refine tKs 12 29 r ?_;refine tKs 13 30 r ?_;refine tKs 14 31 r ?_;refine tKs 15 32 r ?_;refine tKs 16 33 r ?_;refine tKs 17 34 r ?_;refine tKs 18 35 r ?_;refine tKs 19 36 r ?_;refine tKs 20 37 r ?_;refine jd (i:=21) (v:= .int .i64 (P.a k+P.u k)) (some 38) rfl (by rfl) kR kR kR kR (fun _ _ _ h=>h) (Or.inl ⟨by rfl,?_⟩) r ?_
     ·(intro w' a0;clear a0;go_simp;rw[IntKind.wrap_i64];have:=Z.o;omega)
     simp only[Act.put,List.setIfInBounds_toArray,List.set_cons_zero,List.set_cons_succ];refine rD 22 (fun K R=> ?_);go_simp;refine(nL (P.a k+P.u k) (by have:=Z.o;omega) (by have:=Z.o;omega) _).mono ?_;rintro e y4 ⟨v2,rfl,a9,E⟩;obtain⟨s2,A2,l2,c2,t2,B2,m2,d2,rfl⟩:=a9.shape;have V2:=lH a9;clear a9;replace U:=rW U E;replace M:=rW M E;replace G:=lH (G.o.below E);replace V:=lH (V.o.below E);replace O:=bT O E;clear E;clear r;have r:=And.intro (M.o.at_ 1 rfl) (And.intro (M.o.at_ 2 rfl) (And.intro (M.o.at_ 3 rfl) (And.intro (G.o.1) (And.intro (G.o.2.1) (And.intro (G.o.2.2.1) (G.o.2.2.2))))));refine kH R r ?_;clear R K;refine rD 23 (fun K R=> ?_);go_simp;refine(Ew _ _ (x k) ((P.a k+P.u k:Int):Rat) _ V.o V2.o ((ab.o k Y).mono (by have:=a5.o;omega)) ((rM (k:=12) (by have:=Z.o;omega) dC).mono dC)).mono ?_;rintro e y5 ⟨rfl,E⟩;obtain⟨z2,aa⟩:=eX (nJ (x k) ((P.a k+P.u k:Int):Rat));rw[<- aa];have aD:¬0<z2:=by rw[aa];exact fun e=>H2.o (J5.1 e)
     clear aa;replace U:=rW U E;replace M:=rW M E;replace G:=lH (G.o.below E);replace O:=bT O E;clear E;clear r;have r:=And.intro (M.o.at_ 1 rfl) (And.intro (M.o.at_ 2 rfl) (And.intro (M.o.at_ 3 rfl) (And.intro (G.o.1) (And.intro (G.o.2.1) (And.intro (G.o.2.2.1) (G.o.2.2.2))))));refine kH R r ?_;clear R K;refine jd (i:=24) (v:= .bool false) (some 41) rfl (by rfl) kR kR kR kR (fun _ _ _ h=>h) (Or.inl ⟨by rfl,?_⟩) r ?_
     ·(intro w' a0;clear a0;go_simp;try omega)
     simp only[Act.put,List.setIfInBounds_toArray,List.set_cons_zero,List.set_cons_succ];refine tKs 25 42 r ?_;refine dN ?_ _;clear r;have aN:=ae.o.n64;go_wp2_with fail
     go_roundw
     case rel=>exact⟨k+1,Y,by simp,lH (fun j hj=>by by_cases e:j=k;rw[e];(have:=H1.o;have:=H2.o;unfold J6;constructor <;> grind);exact HF.o j oM),U,O⟩
     case measure=>exact mZ
  ·have ac:k=P.n:=oM
   rw[ac] at HF;clear ac;have aG:=aI 1 U;have ak:=U.o.lt;obtain⟨wo,rfl⟩:=eX (wr);go_wp2_with fail
   clear hk au aG ak;have az:=HF;clear HF
   go_loopw [47] (fun iv wr=>∃ (k:Nat),k <= P.m /\ iv= .int .i64 k /\ Hid (∀j,j<k -> J3 P x j) /\ Hid (Row wr w.heap.size 58 [.slice A P.n cA, .slice C P.m cC]) /\ Hid (Below w.heap.size w wr)) (fun iv _=>P.m-(intOf iv).toNat)
   case atStart=>exact⟨0,Nat.zero_le _,rfl,lH (fun j hj=>absurd hj oM),U,O⟩
   case round=>
    clear U O;obtain⟨k,hk,rfl,HF,U,O⟩:=hrel;by_cases au:((k:Nat):Int)<(P.m:Nat)
    ·have Y:k<P.m:=oM
     obtain⟨gC,oC,rfl,a6⟩:=HC.o.at_ oM;obtain⟨uv,ap,aq,ar,ag⟩:=a6 k Y;obtain⟨T,cT,rfl,_,_⟩:=ag.shape;have aC:=lH ag;have ad:=cell_below O.o ap;have ah:=cell_below O.o aq;have ai:=cell_below O.o ar;have aj:=eF ad;clear a6 ap aq ar ag;have al:=lH (ae.o.con k Y);obtain⟨W3,a4⟩:=eX (wr.alloc (.cells #[.string (P.t k), .string (P.F k).c, .slice T (P.F k).N cT] 120));obtain⟨gT,a8⟩:=eX (wr.heap.size);have a7:Below wr.heap.size wr W3:=by rw[a4];exact eD _ _
     have M:Hid (Row W3 gT 120 [.string (P.t k), .string (P.F k).c, .slice T (P.F k).N cT]):=lH (by rw[a4,a8];exact eO _ _);replace U:=rW U a7;replace O:=bT O a7;clear a7
     go_upto_region 10 with (fail)
     clear ad ah ai aj;rw[<- a4, <- a8];clear a4 a8;have aH:=aI 1 M;have aJ:=aI 2 M;have aL:=M.o.lt;go_wp2_with fail
     clear aH aJ aL;refine(uG (P.F k) T X cT P.n cX x K X0 _ (aC.o.below O.o) (HX.o.below O.o) (fun i hi=>al.o.ok.lt hi) (ay.o k Y) (aA.o k Y) ab.o ⟨a5.o.1.1,by have:=a5.o;omega⟩ (by have:=a5.o;omega) (by have:=al.o.ok.few;omega) (aB.o.below O.o)).mono ?_;rintro e w5 ⟨vz,rfl,hz,E⟩;obtain⟨sz,Az,lz,cz,tz,Bz,mz,dz,rfl⟩:=hz.shape;have VZ:=lH hz;clear hz;replace U:=rW U E;replace O:=bT O E;clear E;go_wp2_with fail
     refine(fQ _ (fw (P.F k) x (P.F k).N) _ VZ.o).mono ?_;rintro e w6 ⟨rfl,E⟩;replace U:=rW U E;replace O:=bT O E;clear E;obtain⟨z,hz⟩:=eX (sgI (fw (P.F k) x (P.F k).N).num);rw[<- hz];have HZ:Hid (0<z↔0<fw (P.F k) x (P.F k).N):=lH (by rw[hz];exact Jn);clear hz;by_cases af:0<z
     ·have H0:=lH (HZ.o.1 af);have aE:decide (0<z)=true:=decide_eq_true af;go_wp2_with fail
      go_returns;exact⟨.inr ⟨fun h=>absurd (h.2 k Y) (fun e=>by have:=H0.o;unfold J3 at e;grind),rfl⟩,O.o⟩
     ·have H0:Hid (¬0<fw (P.F k) x (P.F k).N):=lH (fun e=>af (HZ.o.2 e));have aE:decide (0<z)=false:=decide_eq_false af;have aM:=ae.o.m64;go_wp2_with fail
      go_roundw
      case rel=>exact⟨k+1,Y,by simp,lH (fun j hj=>by by_cases e:j=k;rw[e];(have:=H0.o;unfold J3;grind);exact HF.o j oM),U,O⟩
      case measure=>exact mZ
    ·have ac:k=P.m:=oM
     rw[ac] at HF;clear ac;go_wp2_with fail
     go_returns;exact⟨.inl ⟨⟨az.o,HF.o⟩,rfl⟩,O.o⟩
end Go.Proofs.YtokagbahdkfagaaGreatDoor
