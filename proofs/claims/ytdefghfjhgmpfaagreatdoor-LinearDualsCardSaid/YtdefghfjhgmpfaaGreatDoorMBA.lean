/- Parts of this proof: FrameP BegM. -/
import Derived.Test.YtdefghfjhgmpfaaGreatDoorMAZ
import Derived.Lib.SmallJoins
import Derived.Test.YtdefghfjhgmpfaaGreatDoorMAP
namespace Go.Proofs.YtdefghfjhgmpfaaGreatDoor
open Go.Proofs.Tryz
section
open Go.ChangeShapes Go.WideShapes Go.ChangeAt Go.RowKit Go.Joins
set_option maxRecDepth 100000 in
theorem IQ{W:World}{base:Nat}{v:Value}{H:Type}{enc:TypeId × Value -> H}{d:DataW H}{M:List MemPlace}(G:Value.okWide prog W .any base 25 v)(C:DataW.Trod enc prog W 0 (fun _=>true) true 25 v d M):
  ∃h r n o m k t b,v= .agg #[h,r] /\ TSA W h n o /\ TRA W r m k t b:=by
 obtain⟨v0,v1,y0,O,n,rfl,_,_,h0,h1⟩:=open_agg2 underlying25 kR kR G C;obtain⟨n,o,E⟩:=rf h0;obtain⟨m,k,t,b,F⟩:=Cc h1;exact⟨v0,v1,n,o,m,k,t,b,rfl,E,F⟩
set_option maxRecDepth 100000 in
theorem IR{W:World}{base:Nat}{v:Value}{H:Type}{enc:TypeId × Value -> H}{d:DataW H}{ps:List MemPlace}(a1:Value.okWide prog W .any base 32 v)(r:DataW.Trod enc prog W 0 (fun _=>true) true 32 v d ps):
  ∃O:OTx,mE W v O:=by
 obtain⟨cs,rfl,G⟩:=okWide_struct underlying32 a1;have Z:prog.cellsOf 32=5:=by kernel_rfl
 rw[Z] at G;obtain⟨l⟩:=cs
 match l,G with
 | [c0,t,C,E,F],_=>
  obtain⟨fuel,h⟩:=r;obtain⟨xs,n,_,_,hl,a0,h⟩:=DataW.trod_struct underlying32 h
  match xs,a0 with
  | [y0,y1,y2,y3,y4],_=>
   have h0:=h 0 _ rfl;have h1:=h 1 _ rfl;have V:=h 2 _ rfl;have X:=h 3 _ rfl;have Y:=h 4 _ rfl;obtain⟨z,M,_,_⟩:=DataW.trod_int underlying3 h0;obtain⟨s,T,_,_⟩:=DataW.trod_string underlying30 h1;obtain⟨np,p,hp⟩:=rf (v:=C) V;obtain⟨ny,y,hy⟩:=rf (v:=E) X;obtain⟨nd,d,r⟩:=rf (v:=F) Y;have R:c0= .int .i64 z:=by have: [c0]= [Value.int .i64 z]:=M;simpa using this
   have U:t= .string s:=by have: [t]= [Value.string s]:=T;simpa using this
   subst R U;exact⟨⟨z,s,np,p,ny,y,nd,d⟩,C,E,F,rfl,hp,hy,r⟩
end
section
open Go.RowKit
open Lp (RL upd eu)
def pQ(f:Nat -> Nat)(j:Nat)(u:Value):Prop:=u= .int .i64 (f j:Nat)
def pR(n:Nat)(gr cr:Nat -> Nat)(j:Nat)(u:Value):Prop:=∃A,u= .slice A n (cr j) /\ (0<n -> A=some ⟨gr j,0,none⟩)
theorem eY.congr{w:World}{v:Value}{e:TypeId}{k:Nat}{p p':Nat -> Value -> Prop}(h:eY w v e k p)(F:∀j,j<k -> ∀u,p j u -> p' j u):eY w v e k p':=by
 obtain⟨xs,E,C⟩:=h;refine⟨xs,E,fun j r=> ?_⟩;obtain⟨u,h1,t⟩:=C j r;exact⟨u,h1,F j r u t⟩
structure fC (w:World) (B n:Nat) (k:Nat -> Nat) (v:Nat -> Value) (gr cr:Nat -> Nat) (A:Nat -> Nat -> Rat) (b c:Nat -> Rat):Prop where
 o0:eY w (v 0) 3 (k 0) (pQ fun j=>n+j)
 o1:eY w (v 1) 3 (k 1) (pQ fun j=>j)
 o2:gH w (v 2) (k 2) b
 o3:eY w (v 3) 95 (k 3) (pR n gr cr)
 o4:gH w (v 4) (k 4) (fun j=> -(c j))
 rows:0<n -> ∀j,j<k 3 -> RB w (gr j) n (A j)
 ap:∀i j,i≠j -> ∀g,(v i).ownBlock=some g -> (v j).ownBlock≠some g
 ar:0<n -> ∀i j,j<k 3 -> (v i).ownBlock≠some (gr j)
 rr:0<n -> ∀i j,i<k 3 -> j<k 3 -> gr i=gr j -> i=j
 lo:∀i g,(v i).ownBlock=some g -> B <= g /\ g<w.heap.size
 lr:0<n -> ∀j,j<k 3 -> B <= gr j
section
variable {w w':World} {B n:Nat} {k:Nat -> Nat} {v:Nat -> Value} {gr cr:Nat -> Nat} {A:Nat -> Nat -> Rat} {b c:Nat -> Rat}
theorem fC.start(w:World)(B n:Nat)(gr cr:Nat -> Nat)(A:Nat -> Nat -> Rat)(b c:Nat -> Rat):fC w B n (fun _=>0) (fun _=> .slice none 0 0) gr cr A b c:=
 ⟨eY.nil _ _ _,eY.nil _ _ _,gH.nil _ _,eY.nil _ _ _,gH.nil _ _,fun _ j h=>absurd h oM,fun i j _ g r=>by simp[Value.ownBlock] at r,fun _ i j h=>absurd h oM,fun _ i j t=>absurd t oM,fun i g r=>by simp[Value.ownBlock] at r,fun _ j h=>absurd h oM⟩
theorem fC.below(h:fC w B n k v gr cr A b c)(r:Below w.heap.size w w'):fC w' B n k v gr cr A b c:=
 ⟨h.o0.below r,h.o1.below r,h.o2.below r,h.o3.below r,h.o4.below r,fun E j C=>(h.rows E j C).below r,h.ap,h.ar,h.rr,fun i g t=>⟨(h.lo i g t).1,Nat.lt_of_lt_of_le (h.lo i g t).2 r.size⟩,h.lr⟩
theorem fC.other{g:Nat}{e:TypeId}{cs:List Value}(h:fC w B n k v gr cr A b c)(r:w.grownBy w' (some g))(C:Row w g e cs)(t:e≠160)(M:g<B):fC w' B n k v gr cr A b c:=by
 have ne:∀i,(v i).ownBlock≠some g:=fun i e=>by have:=(h.lo i g e).1;omega
 exact⟨h.o0.other r (ne 0),h.o1.other r (ne 1),h.o2.other r C t (ne 2),h.o3.other r (ne 3),h.o4.other r C t (ne 4),fun G j F=>(h.rows G j F).other r C t (by have:=h.lr G j F;omega),h.ap,h.ar,h.rr,fun i g E=>⟨(h.lo i g E).1,Nat.lt_of_lt_of_le (h.lo i g E).2 r.size⟩,h.lr⟩
theorem fC.grow{i:Nat}{v':Value}(h:fC w B n k v gr cr A b c)(C:Turned w w' (v i) v')(T:B <= w.heap.size)(M:∀g,v'.ownBlock=some g -> g<w'.heap.size)(O:0<n -> ∀j,j<k 3 -> gr j<w.heap.size):
  (∀a j,a≠j -> ∀g,(upd v i v' a).ownBlock=some g -> (upd v i v' j).ownBlock≠some g) /\ (0<n -> ∀a j,j<k 3 -> (upd v i v' a).ownBlock≠some (gr j)) /\ (∀a g,(upd v i v' a).ownBlock=some g -> B <= g /\ g<w'.heap.size):=by
 refine⟨fun a j E g r=> ?_,fun F a j t=> ?_,fun a g r=> ?_⟩
 ·by_cases e:a=i
  ·subst e;rw[Lp.upd_same] at r;rw[Lp.eT _ _ (fun e=>E e.symm)];intro t;exact C.apart (h.lo j g t).2 (fun e=>h.ap a j E g e t) r
  ·rw[Lp.eT _ _ e] at r;by_cases G:j=i
   ·subst G;rw[Lp.upd_same];exact C.apart (h.lo a g r).2 (h.ap a j E g r)
   ·rw[Lp.eT _ _ G];exact h.ap a j E g r
 ·by_cases e:a=i
  ·subst e;rw[Lp.upd_same];exact C.apart (O F j t) (h.ar F a j t)
  ·rw[Lp.eT _ _ e];exact h.ar F a j t
 ·by_cases e:a=i
  ·subst e;rw[Lp.upd_same] at r;refine⟨?_,M g r⟩
   rcases C.own with h1 | ⟨g',h1,R⟩
   ·exact(h.lo a g (h1 ▸ r)).1
   ·rw[r] at h1;simp only[Option.some.injEq] at h1;omega
  ·rw[Lp.eT _ _ e] at r;exact⟨(h.lo a g r).1,Nat.lt_of_lt_of_le (h.lo a g r).2 C.grown.size⟩
theorem fC.oz(h:fC w B n k v gr cr A b c):0<n -> ∀j,j<k 3 -> gr j<w.heap.size:=fun t j r=>(h.rows t j r).lt
theorem fC.apart'(h:fC w B n k v gr cr A b c){i j:Nat}(C:i≠j):∀g,(v j).ownBlock=some g -> (v i).ownBlock≠some g:=fun g r t=>h.ap i j C g t r
theorem u0{α:Type}(f:Nat -> α)(i:Nat)(x:α)(j:Nat)(h:j≠i):upd f i x j=f j:=Lp.eT f x h
theorem fC.app0{v':Value}(h:fC w B n k v gr cr A b c)(r:Turned w w' (v 0) v')(G:eY w' v' 3 (k 0+1) (pQ fun j=>n+j))(T:B <= w.heap.size):fC w' B n (upd k 0 (k 0+1)) (upd v 0 v') gr cr A b c:=by
 obtain⟨xs,C,_⟩:=h.o0;have t:3≠160:=dC
 obtain⟨M,O,R⟩:=h.grow r T (fun g U=>G.lt U) h.oz;exact⟨G,h.o1.turned r (h.apart' dC),h.o2.turned r C t (h.apart' dC),h.o3.turned r (h.apart' dC),h.o4.turned r C t (h.apart' dC),fun F j E=>(h.rows F j E).turned r C t (h.ar F 0 j E),M,O,h.rr,R,h.lr⟩
theorem fC.app1{v':Value}(h:fC w B n k v gr cr A b c)(r:Turned w w' (v 1) v')(G:eY w' v' 3 (k 1+1) (pQ fun j=>j))(T:B <= w.heap.size):fC w' B n (upd k 1 (k 1+1)) (upd v 1 v') gr cr A b c:=by
 obtain⟨xs,C,_⟩:=h.o1;have t:3≠160:=dC
 obtain⟨M,O,R⟩:=h.grow r T (fun g U=>G.lt U) h.oz;exact⟨h.o0.turned r (h.apart' dC),G,h.o2.turned r C t (h.apart' dC),h.o3.turned r (h.apart' dC),h.o4.turned r C t (h.apart' dC),fun F j E=>(h.rows F j E).turned r C t (h.ar F 1 j E),M,O,h.rr,R,h.lr⟩
theorem fC.u6{v':Value}(h:fC w B n k v gr cr A b c)(r:Turned w w' (v 2) v')(E:gH w' v' (k 2+1) b)(R:B <= w.heap.size):fC w' B n (upd k 2 (k 2+1)) (upd v 2 v') gr cr A b c:=by
 obtain⟨xs,F,_⟩:=h.o2;obtain⟨G,M,O⟩:=h.grow r R (fun g T=>E.lt T) h.oz;exact⟨h.o0.turned r (h.apart' dC),h.o1.turned r (h.apart' dC),E,h.o3.turned r (h.apart' dC),h.o4.turned r F ic (h.apart' dC),fun C j t=>(h.rows C j t).turned r F ic (h.ar C 2 j t),G,M,h.rr,O,h.lr⟩
theorem fC.IU{v':Value}(h:fC w B n k v gr cr A b c)(r:Turned w w' (v 4) v')(E:gH w' v' (k 4+1) (fun j=> -(c j)))(R:B <= w.heap.size):fC w' B n (upd k 4 (k 4+1)) (upd v 4 v') gr cr A b c:=by
 obtain⟨xs,F,_⟩:=h.o4;obtain⟨G,M,O⟩:=h.grow r R (fun g T=>E.lt T) h.oz;exact⟨h.o0.turned r (h.apart' dC),h.o1.turned r (h.apart' dC),h.o2.turned r F ic (h.apart' dC),h.o3.turned r (h.apart' dC),E,fun C j t=>(h.rows C j t).turned r F ic (h.ar C 4 j t),G,M,h.rr,O,h.lr⟩
theorem fC.place{g x:Nat}(h:fC w B n k v gr cr A b c):fC w B n k v (upd gr (k 3) g) (upd cr (k 3) x) A b c:=by
 have e:∀ {α:Type} (f:Nat -> α) (y:α) j,j<k 3 -> upd f (k 3) y j=f j:=fun f y j r=>Lp.eT f y oM
 refine⟨h.o0,h.o1,h.o2,h.o3.congr (fun j r u E=> ?_),h.o4,fun t j r=>by rw[e gr g j r];exact h.rows t j r,h.ap,fun t i j r=>by rw[e gr g j r];exact h.ar t i j r,fun t i j C r=>by rw[e gr g j r,e gr g i C];exact h.rr t i j C r,h.lo,fun t j r=>by rw[e gr g j r];exact h.lr t j r⟩;unfold pR at*;rw[e gr g j r,e cr x j r];exact E
theorem fC.u7{v':Value}(h:fC w B n k v gr cr A b c)(C:Turned w w' (v 3) v')(T:eY w' v' 95 (k 3+1) (pR n gr cr))(Z:B <= w.heap.size)
  (U:0<n -> RB w (gr (k 3)) n (A (k 3))) (a0:0<n -> B <= gr (k 3)) (R:0<n -> ∀i,(v i).ownBlock≠some (gr (k 3))) (V:0<n -> ∀j,j<k 3 -> gr j≠gr (k 3)):fC w' B n (upd k 3 (k 3+1)) (upd v 3 v') gr cr A b c:=by
 obtain⟨xs,O,_⟩:=h.o3;have G:95≠160:=dC
 obtain⟨W,X,Y⟩:=h.grow C Z (fun g hg=>T.lt hg) h.oz;have M:upd k 3 (k 3+1) 3=k 3+1:=rfl;have F:∀j,j<k 3+1 -> j<k 3 \/ j=k 3:=fun j r=>by omega
 refine⟨h.o0.turned C (h.apart' dC),h.o1.turned C (h.apart' dC),h.o2.turned C O G (h.apart' dC),T,h.o4.turned C O G (h.apart' dC),fun t j r=> ?_,W,fun t i j r=> ?_,fun t i j E r=> ?_,Y,fun t j r=> ?_⟩
 ·rw[M] at r
  rcases F j r with r | rfl
  ·exact(h.rows t j r).turned C O G (h.ar t 3 j r)
  ·exact(U t).turned C O G (R t 3)
 ·rw[M] at r
  rcases F j r with r | rfl
  ·exact X t i j r
  ·by_cases e:i=3
   ·subst e;rw[Lp.upd_same];exact C.apart (U t).lt (R t 3)
   ·rw[Lp.eT _ _ e];exact R t i
 ·rw[M] at E r;intro e
  rcases F i E with E | rfl <;> rcases F j r with r | rfl
  ·exact h.rr t i j E r e
  ·exact absurd e (V t i E)
  ·exact absurd e.symm (V t j r)
  ·rfl
 ·rw[M] at r
  rcases F j r with r | rfl
  ·exact h.lr t j r
  ·exact a0 t
theorem fC.IV{m M c0 c1 c2 c3 c4:Nat}{A0 A1 A2 A3 A4:Option Addr}(h:fC w B n k v gr cr A b c)(hk:k 0=m /\ k 1=n /\ k 2=m /\ k 3=m /\ k 4=n)
  (hv:v 0= .slice A0 m c0 /\ v 1= .slice A1 n c1 /\ v 2= .slice A2 m c2 /\ v 3= .slice A3 m c3 /\ v 4= .slice A4 n c4) (ad:M<B)
  (hr:Row w M 148 [.int .i64 (n:Nat), .slice A0 m c0, .slice A1 n c1, .slice A2 m c2, .slice A3 m c3, .slice A4 n c4, .bool false, .slice none 0 0, .bool false, .slice none 0 0]):
  ∃L:Lay,L.gt=M /\ fq w L m n (eu.init n A b c) /\ ∀k,L.blocks m k -> M <= k:=by
 obtain⟨k0,k1,k2,k3,k4⟩:=hk;obtain⟨v0,v1,v2,v3,v4⟩:=hv;have o0:=h.o0;have o1:=h.o1;have o2:=h.o2;have o3:=h.o3;have o4:=h.o4;have a5:=h.ap;have a6:=h.ar;have aa:=h.lo;rw[k0] at o0;rw[k1] at o1;rw[k2] at o2;rw[k3] at o3;rw[k4] at o4;obtain⟨G,a7⟩:∃G:Option Addr -> Nat,G=fun A=>(A.map (·.block)).getD M:=⟨_,rfl⟩
 have F:∀g,G (some ⟨g,0,none⟩)=g:=fun g=>by rw[a7];rfl
 have T:∀i X l x,v i= .slice X l x -> M <= G X:=by
  intro i X l x e;rw[a7];cases X with
  | none=>exact Nat.le_refl _
  | some a=>
   have:=(aa i a.block (by rw[e];rfl)).1;show M <= a.block;omega
 obtain⟨a1,a8⟩:∃a1:Nat -> Nat,a1=if 0<n then gr else fun _=>M:=⟨_,rfl⟩
 have a2:0<n -> a1=gr:=fun t=>by rw[a8,if_pos t]
 have own:∀i X l x g,v i= .slice X l x -> X=some ⟨g,0,none⟩ -> (v i).ownBlock=some g:=fun i X l x g e e'=>by rw[e,e'];rfl
 refine⟨⟨M,G A0,G A1,G A2,G A3,G A4,a1,cr,c0,c1,c2,c3,c4,A0,A1,A2,A3,A4⟩,rfl,?_,?_⟩
 ·have d0:=fun C:0<m=>o0.done C
  have d1:=fun t:0<n=>o1.done t
  have U:=fun C:0<m=>o2.done C
  have d3:=fun C:0<m=>o3.done C
  have V:=fun t:0<n=>o4.done t
  rw[v0] at d0;rw[v1] at d1;rw[v2] at U;rw[v3] at d3;rw[v4] at V;refine⟨⟨false,none,0,0,false,none,0,0,hr,eO.jU w⟩,fun C=> ?_,fun t=> ?_,fun C=> ?_,fun t=> ?_,fun C=> ?_,fun t=> ?_,fun C=> ?_,fun t r a9=> ?_,fun C t=> ?_,fun C t=> ?_,fun t r a9=> ?_,fun t r s ae hs=> ?_⟩
  ·obtain⟨g,x,cs,e,_⟩:=d0 C;obtain⟨W,x2,E,_⟩:=U C;obtain⟨g3,x3,ac,e3,_⟩:=d3 C;simp only[Value.slice.injEq,true_and] at e E e3;simp only[];rw[e.1,E.1,e3.1,F,F,F];exact⟨rfl,rfl,rfl⟩
  ·obtain⟨g,x,cs,e,_⟩:=d1 t;obtain⟨W,x2,E,_⟩:=V t;simp only[Value.slice.injEq,true_and] at e E;simp only[];rw[e.1,E.1,F,F];exact⟨rfl,rfl⟩
  ·obtain⟨g,x,cs,e,a0,hl,Y⟩:=d0 C;simp only[Value.slice.injEq,true_and] at e;simp only[];rw[e.1,F];refine⟨cs,a0,hl,fun j Z=> ?_⟩;obtain⟨u,h1,R⟩:=Y j Z;rw[h1];unfold pQ at R;rw[R];rfl
  ·obtain⟨g,x,cs,e,a0,hl,Y⟩:=d1 t;simp only[Value.slice.injEq,true_and] at e;simp only[];rw[e.1,F];refine⟨cs,a0,hl,fun j Z=> ?_⟩;obtain⟨u,h1,R⟩:=Y j Z;rw[h1];unfold pQ at R;rw[R];rfl
  ·obtain⟨g,x,e,a4⟩:=U C;simp only[Value.slice.injEq,true_and] at e;simp only[];rw[e.1,F];exact a4
  ·obtain⟨g,x,e,a4⟩:=V t;simp only[Value.slice.injEq,true_and] at e;simp only[];rw[e.1,F];exact a4
  ·obtain⟨g,x,cs,e,a0,hl,Y⟩:=d3 C;simp only[Value.slice.injEq,true_and] at e;simp only[];rw[e.1,F];refine⟨cs,a0,hl,fun j Z=> ?_⟩;obtain⟨u,h1,X,R,h3⟩:=Y j Z;exact⟨X,by rw[h1,R],fun t=>by rw[a2 t];exact h3 t⟩
  ·simp only[];rw[a2 t];exact h.rows t r oM
  ·obtain⟨g,x,cs,e,_⟩:=d0 C;obtain⟨W,x2,ab,E,_⟩:=d1 t;simp only[Value.slice.injEq,true_and] at e E;simp only[];rw[e.1,E.1,F,F];intro O;subst O;exact a5 0 1 dC g (own 0 _ _ _ g v0 e.1) (own 1 _ _ _ g v1 E.1)
  ·obtain⟨g,x,e,_⟩:=U C;obtain⟨W,x2,E,_⟩:=V t;simp only[Value.slice.injEq,true_and] at e E;simp only[];rw[e.1,E.1,F,F];intro O;subst O;exact a5 2 4 dC g (own 2 _ _ _ g v2 e.1) (own 4 _ _ _ g v4 E.1)
  ·obtain⟨g,x,e,_⟩:=U oM;obtain⟨W,x2,E,_⟩:=V t;simp only[Value.slice.injEq,true_and] at e E;simp only[];rw[e.1,E.1,F,F,a2 t];exact⟨fun O=>a6 t 2 r oM (by rw[own 2 _ _ _ g v2 e.1,O]),fun O=>a6 t 4 r oM (by rw[own 4 _ _ _ W v4 E.1,O])⟩
  ·simp only[];rw[a2 t];exact h.rr t r s oM oM
 ·intro kk a3;unfold Lay.blocks at a3;simp only[] at a3
  rcases a3 with e | e | e | e | e | e | ⟨r,a9,e⟩
  ·omega
  ·rw[e];exact T 0 _ _ _ v0
  ·rw[e];exact T 1 _ _ _ v1
  ·rw[e];exact T 2 _ _ _ v2
  ·rw[e];exact T 3 _ _ _ v3
  ·rw[e];exact T 4 _ _ _ v4
  ·rw[e,a8];split
   ·rename_i t;have:=h.lr t r oM;omega
   ·exact Nat.le_refl _
end
def vs5(a b c d e:Value):Nat -> Value
 | 0=>a
 | 1=>b
 | 2=>c
 | 3=>d
 | 4=>e
 | _=> .slice none 0 0
def ks5(a b c d e:Nat):Nat -> Nat
 | 0=>a
 | 1=>b
 | 2=>c
 | 3=>d
 | 4=>e
 | _=>0
section
variable (a b c d e x:Value) (ka kb kc kd ke kx:Nat)
theorem Cj:(fun _=> .slice none 0 0)=vs5 (.slice none 0 0) (.slice none 0 0) (.slice none 0 0) (.slice none 0 0) (.slice none 0 0):=by funext i;match i with | 0 | 1 | 2 | 3 | 4 | (_+5)=>rfl
theorem Ck:(fun _=>0)=ks5 0 0 0 0 0:=by funext i;match i with | 0 | 1 | 2 | 3 | 4 | (_+5)=>rfl
theorem IW:upd (vs5 a b c d e) 0 x=vs5 x b c d e:=by funext i;match i with | 0 | 1 | 2 | 3 | 4 | (_+5)=>rfl
theorem IX:upd (vs5 a b c d e) 1 x=vs5 a x c d e:=by funext i;match i with | 0 | 1 | 2 | 3 | 4 | (_+5)=>rfl
theorem uf:upd (vs5 a b c d e) 2 x=vs5 a b x d e:=by funext i;match i with | 0 | 1 | 2 | 3 | 4 | (_+5)=>rfl
theorem ug:upd (vs5 a b c d e) 3 x=vs5 a b c x e:=by funext i;match i with | 0 | 1 | 2 | 3 | 4 | (_+5)=>rfl
theorem IY:upd (vs5 a b c d e) 4 x=vs5 a b c d x:=by funext i;match i with | 0 | 1 | 2 | 3 | 4 | (_+5)=>rfl
theorem IZ:upd (ks5 ka kb kc kd ke) 0 kx=ks5 kx kb kc kd ke:=by funext i;match i with | 0 | 1 | 2 | 3 | 4 | (_+5)=>rfl
theorem J2:upd (ks5 ka kb kc kd ke) 1 kx=ks5 ka kx kc kd ke:=by funext i;match i with | 0 | 1 | 2 | 3 | 4 | (_+5)=>rfl
theorem uh:upd (ks5 ka kb kc kd ke) 2 kx=ks5 ka kb kx kd ke:=by funext i;match i with | 0 | 1 | 2 | 3 | 4 | (_+5)=>rfl
theorem ui:upd (ks5 ka kb kc kd ke) 3 kx=ks5 ka kb kc kx ke:=by funext i;match i with | 0 | 1 | 2 | 3 | 4 | (_+5)=>rfl
theorem J3:upd (ks5 ka kb kc kd ke) 4 kx=ks5 ka kb kc kd kx:=by funext i;match i with | 0 | 1 | 2 | 3 | 4 | (_+5)=>rfl
end
end
end Go.Proofs.YtdefghfjhgmpfaaGreatDoor
