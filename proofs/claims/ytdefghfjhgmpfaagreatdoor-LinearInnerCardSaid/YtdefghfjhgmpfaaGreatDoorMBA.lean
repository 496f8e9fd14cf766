/- Parts of this proof: FrameP BegM. -/
import Derived.Test.YtdefghfjhgmpfaaGreatDoorMAZ
import Derived.Lib.SmallJoins
import Derived.Test.YtdefghfjhgmpfaaGreatDoorMAP
namespace Go.Proofs.YtdefghfjhgmpfaaGreatDoor
open Go.Proofs.Tryz
section
open Go.ChangeShapes Go.WideShapes Go.ChangeAt Go.RowKit Go.Joins
set_option maxRecDepth 100000 in
theorem IQ{W:World}{base:Nat}{v:Value}{H:Type}{enc:TypeId × Value -> H}{d:DataW H}{R:List MemPlace}(O:Value.okWide prog W .any base 25 v)(F:DataW.Trod enc prog W 0 (fun _=>true) true 25 v d R):
  ∃h E n o m k t b,v= .agg #[h,E] /\ TSA W h n o /\ TRA W E m k t b:=by
 obtain⟨v0,v1,y0,T,n,rfl,_,_,h0,h1⟩:=open_agg2 underlying25 kR kR O F;obtain⟨n,o,G⟩:=rf h0;obtain⟨m,k,t,b,M⟩:=Cc h1;exact⟨v0,v1,n,o,m,k,t,b,rfl,G,M⟩
set_option maxRecDepth 100000 in
theorem IR{W:World}{base:Nat}{v:Value}{H:Type}{enc:TypeId × Value -> H}{d:DataW H}{ps:List MemPlace}(a1:Value.okWide prog W .any base 32 v)(t:DataW.Trod enc prog W 0 (fun _=>true) true 32 v d ps):
  ∃O:OTx,mE W v O:=by
 obtain⟨cs,rfl,R⟩:=okWide_struct underlying32 a1;have hC:prog.cellsOf 32=5:=by kernel_rfl
 rw[hC] at R;obtain⟨l⟩:=cs
 match l,R with
 | [c0,E,F,G,M],_=>
  obtain⟨fuel,h⟩:=t;obtain⟨xs,n,_,_,hl,a0,h⟩:=DataW.trod_struct underlying32 h
  match xs,a0 with
  | [y0,y1,y2,y3,y4],_=>
   have h0:=h 0 _ rfl;have h1:=h 1 _ rfl;have Z:=h 2 _ rfl;have h3:=h 3 _ rfl;have h4:=h 4 _ rfl;obtain⟨z,T,_,_⟩:=DataW.trod_int underlying3 h0;obtain⟨s,X,_,_⟩:=DataW.trod_string underlying30 h1;obtain⟨np,p,hp⟩:=rf (v:=F) Z;obtain⟨ny,y,hy⟩:=rf (v:=G) h3;obtain⟨nd,d,t⟩:=rf (v:=M) h4;have U:c0= .int .i64 z:=by have: [c0]= [Value.int .i64 z]:=T;simpa using this
   have Y:E= .string s:=by have: [E]= [Value.string s]:=X;simpa using this
   subst U Y;exact⟨⟨z,s,np,p,ny,y,nd,d⟩,F,G,M,rfl,hp,hy,t⟩
end
section
open Go.RowKit
open Lp (RL upd eu)
def pQ(f:Nat -> Nat)(j:Nat)(u:Value):Prop:=u= .int .i64 (f j:Nat)
def pR(n:Nat)(gr cr:Nat -> Nat)(j:Nat)(u:Value):Prop:=∃A,u= .slice A n (cr j) /\ (0<n -> A=some ⟨gr j,0,none⟩)
theorem eY.congr{w:World}{v:Value}{e:TypeId}{k:Nat}{p p':Nat -> Value -> Prop}(h:eY w v e k p)(M:∀j,j<k -> ∀u,p j u -> p' j u):eY w v e k p':=by
 obtain⟨xs,G,F⟩:=h;refine⟨xs,G,fun j t=> ?_⟩;obtain⟨u,h1,E⟩:=F j t;exact⟨u,h1,M j t u E⟩
structure fC (w:World) (B n:Nat) (k:Nat -> Nat) (v:Nat -> Value) (gr cr:Nat -> Nat) (A:Nat -> Nat -> Rat) (b c:Nat -> Rat):Prop where
 o0:eY w (v 0) 3 (k 0) (pQ fun j=>n+j)
 o1:eY w (v 1) 3 (k 1) (pQ fun j=>j)
 o2:gH w (v 2) (k 2) b
 o3:eY w (v 3) 95 (k 3) (pR n gr cr)
 o4:gH w (v 4) (k 4) (fun j=> -(c j))
 rows:0<n -> ∀j,j<k 3 -> RB w (gr j) n (A j)
 ap:∀i j,i≠j -> ∀g,(v i).ownBlock=some g -> (v j).ownBlock≠some g
 ar:0<n -> ∀i j,j<k 3 -> (v i).ownBlock≠some (gr j)
 rr:0<n -> ∀i j,i<k 3 -> j<k 3 -> gr i=gr j -> i=j
 lo:∀i g,(v i).ownBlock=some g -> B <= g /\ g<w.heap.size
 lr:0<n -> ∀j,j<k 3 -> B <= gr j
section
variable {w w':World} {B n:Nat} {k:Nat -> Nat} {v:Nat -> Value} {gr cr:Nat -> Nat} {A:Nat -> Nat -> Rat} {b c:Nat -> Rat}
theorem fC.start(w:World)(B n:Nat)(gr cr:Nat -> Nat)(A:Nat -> Nat -> Rat)(b c:Nat -> Rat):fC w B n (fun _=>0) (fun _=> .slice none 0 0) gr cr A b c:=
 ⟨eY.nil _ _ _,eY.nil _ _ _,gH.nil _ _,eY.nil _ _ _,gH.nil _ _,fun _ j h=>absurd h oM,fun i j _ g t=>by simp[Value.ownBlock] at t,fun _ i j h=>absurd h oM,fun _ i j E=>absurd E oM,fun i g t=>by simp[Value.ownBlock] at t,fun _ j h=>absurd h oM⟩
theorem fC.below(h:fC w B n k v gr cr A b c)(t:Below w.heap.size w w'):fC w' B n k v gr cr A b c:=
 ⟨h.o0.below t,h.o1.below t,h.o2.below t,h.o3.below t,h.o4.below t,fun G j F=>(h.rows G j F).below t,h.ap,h.ar,h.rr,fun i g E=>⟨(h.lo i g E).1,Nat.lt_of_lt_of_le (h.lo i g E).2 t.size⟩,h.lr⟩
theorem fC.other{g:Nat}{e:TypeId}{cs:List Value}(h:fC w B n k v gr cr A b c)(t:w.grownBy w' (some g))(F:Row w g e cs)(E:e≠160)(R:g<B):fC w' B n k v gr cr A b c:=by
 have ne:∀i,(v i).ownBlock≠some g:=fun i e=>by have:=(h.lo i g e).1;omega
 exact⟨h.o0.other t (ne 0),h.o1.other t (ne 1),h.o2.other t F E (ne 2),h.o3.other t (ne 3),h.o4.other t F E (ne 4),fun O j M=>(h.rows O j M).other t F E (by have:=h.lr O j M;omega),h.ap,h.ar,h.rr,fun i g G=>⟨(h.lo i g G).1,Nat.lt_of_lt_of_le (h.lo i g G).2 t.size⟩,h.lr⟩
theorem fC.grow{i:Nat}{v':Value}(h:fC w B n k v gr cr A b c)(F:Turned w w' (v i) v')(X:B <= w.heap.size)(R:∀g,v'.ownBlock=some g -> g<w'.heap.size)(T:0<n -> ∀j,j<k 3 -> gr j<w.heap.size):
  (∀a j,a≠j -> ∀g,(upd v i v' a).ownBlock=some g -> (upd v i v' j).ownBlock≠some g) /\ (0<n -> ∀a j,j<k 3 -> (upd v i v' a).ownBlock≠some (gr j)) /\ (∀a g,(upd v i v' a).ownBlock=some g -> B <= g /\ g<w'.heap.size):=by
 refine⟨fun a j G g t=> ?_,fun M a j E=> ?_,fun a g t=> ?_⟩
 ·by_cases e:a=i
  ·subst e;rw[Lp.upd_same] at t;rw[Lp.eT _ _ (fun e=>G e.symm)];intro E;exact F.apart (h.lo j g E).2 (fun e=>h.ap a j G g e E) t
  ·rw[Lp.eT _ _ e] at t;by_cases O:j=i
   ·subst O;rw[Lp.upd_same];exact F.apart (h.lo a g t).2 (h.ap a j G g t)
   ·rw[Lp.eT _ _ O];exact h.ap a j G g t
 ·by_cases e:a=i
  ·subst e;rw[Lp.upd_same];exact F.apart (T M j E) (h.ar M a j E)
  ·rw[Lp.eT _ _ e];exact h.ar M a j E
 ·by_cases e:a=i
  ·subst e;rw[Lp.upd_same] at t;refine⟨?_,R g t⟩
   rcases F.own with h1 | ⟨g',h1,U⟩
   ·exact(h.lo a g (h1 ▸ t)).1
   ·rw[t] at h1;simp only[Option.some.injEq] at h1;omega
  ·rw[Lp.eT _ _ e] at t;exact⟨(h.lo a g t).1,Nat.lt_of_lt_of_le (h.lo a g t).2 F.grown.size⟩
theorem fC.oz(h:fC w B n k v gr cr A b c):0<n -> ∀j,j<k 3 -> gr j<w.heap.size:=fun E j t=>(h.rows E j t).lt
theorem fC.apart'(h:fC w B n k v gr cr A b c){i j:Nat}(F:i≠j):∀g,(v j).ownBlock=some g -> (v i).ownBlock≠some g:=fun g t E=>h.ap i j F g E t
theorem u0{α:Type}(f:Nat -> α)(i:Nat)(x:α)(j:Nat)(h:j≠i):upd f i x j=f j:=Lp.eT f x h
theorem fC.app0{v':Value}(h:fC w B n k v gr cr A b c)(t:Turned w w' (v 0) v')(O:eY w' v' 3 (k 0+1) (pQ fun j=>n+j))(X:B <= w.heap.size):fC w' B n (upd k 0 (k 0+1)) (upd v 0 v') gr cr A b c:=by
 obtain⟨xs,F,_⟩:=h.o0;have E:3≠160:=dC
 obtain⟨R,T,U⟩:=h.grow t X (fun g Y=>O.lt Y) h.oz;exact⟨O,h.o1.turned t (h.apart' dC),h.o2.turned t F E (h.apart' dC),h.o3.turned t (h.apart' dC),h.o4.turned t F E (h.apart' dC),fun M j G=>(h.rows M j G).turned t F E (h.ar M 0 j G),R,T,h.rr,U,h.lr⟩
theorem fC.app1{v':Value}(h:fC w B n k v gr cr A b c)(t:Turned w w' (v 1) v')(O:eY w' v' 3 (k 1+1) (pQ fun j=>j))(X:B <= w.heap.size):fC w' B n (upd k 1 (k 1+1)) (upd v 1 v') gr cr A b c:=by
 obtain⟨xs,F,_⟩:=h.o1;have E:3≠160:=dC
 obtain⟨R,T,U⟩:=h.grow t X (fun g Y=>O.lt Y) h.oz;exact⟨h.o0.turned t (h.apart' dC),O,h.o2.turned t F E (h.apart' dC),h.o3.turned t (h.apart' dC),h.o4.turned t F E (h.apart' dC),fun M j G=>(h.rows M j G).turned t F E (h.ar M 1 j G),R,T,h.rr,U,h.lr⟩
theorem fC.u6{v':Value}(h:fC w B n k v gr cr A b c)(t:Turned w w' (v 2) v')(G:gH w' v' (k 2+1) b)(U:B <= w.heap.size):fC w' B n (upd k 2 (k 2+1)) (upd v 2 v') gr cr A b c:=by
 obtain⟨xs,M,_⟩:=h.o2;obtain⟨O,R,T⟩:=h.grow t U (fun g X=>G.lt X) h.oz;exact⟨h.o0.turned t (h.apart' dC),h.o1.turned t (h.apart' dC),G,h.o3.turned t (h.apart' dC),h.o4.turned t M ic (h.apart' dC),fun F j E=>(h.rows F j E).turned t M ic (h.ar F 2 j E),O,R,h.rr,T,h.lr⟩
theorem fC.IU{v':Value}(h:fC w B n k v gr cr A b c)(t:Turned w w' (v 4) v')(G:gH w' v' (k 4+1) (fun j=> -(c j)))(U:B <= w.heap.size):fC w' B n (upd k 4 (k 4+1)) (upd v 4 v') gr cr A b c:=by
 obtain⟨xs,M,_⟩:=h.o4;obtain⟨O,R,T⟩:=h.grow t U (fun g X=>G.lt X) h.oz;exact⟨h.o0.turned t (h.apart' dC),h.o1.turned t (h.apart' dC),h.o2.turned t M ic (h.apart' dC),h.o3.turned t (h.apart' dC),G,fun F j E=>(h.rows F j E).turned t M ic (h.ar F 4 j E),O,R,h.rr,T,h.lr⟩
theorem fC.place{g x:Nat}(h:fC w B n k v gr cr A b c):fC w B n k v (upd gr (k 3) g) (upd cr (k 3) x) A b c:=by
 have e:∀ {α:Type} (f:Nat -> α) (y:α) j,j<k 3 -> upd f (k 3) y j=f j:=fun f y j t=>Lp.eT f y oM
 refine⟨h.o0,h.o1,h.o2,h.o3.congr (fun j t u G=> ?_),h.o4,fun E j t=>by rw[e gr g j t];exact h.rows E j t,h.ap,fun E i j t=>by rw[e gr g j t];exact h.ar E i j t,fun E i j F t=>by rw[e gr g j t,e gr g i F];exact h.rr E i j F t,h.lo,fun E j t=>by rw[e gr g j t];exact h.lr E j t⟩;unfold pR at*;rw[e gr g j t,e cr x j t];exact G
theorem fC.u7{v':Value}(h:fC w B n k v gr cr A b c)(F:Turned w w' (v 3) v')(X:eY w' v' 95 (k 3+1) (pR n gr cr))(hB:B <= w.heap.size)
  (Y:0<n -> RB w (gr (k 3)) n (A (k 3))) (a0:0<n -> B <= gr (k 3)) (U:0<n -> ∀i,(v i).ownBlock≠some (gr (k 3))) (Z:0<n -> ∀j,j<k 3 -> gr j≠gr (k 3)):fC w' B n (upd k 3 (k 3+1)) (upd v 3 v') gr cr A b c:=by
 obtain⟨xs,T,_⟩:=h.o3;have O:95≠160:=dC
 obtain⟨g1,g2,g3⟩:=h.grow F hB (fun g hg=>X.lt hg) h.oz;have R:upd k 3 (k 3+1) 3=k 3+1:=rfl;have M:∀j,j<k 3+1 -> j<k 3 \/ j=k 3:=fun j t=>by omega
 refine⟨h.o0.turned F (h.apart' dC),h.o1.turned F (h.apart' dC),h.o2.turned F T O (h.apart' dC),X,h.o4.turned F T O (h.apart' dC),fun E j t=> ?_,g1,fun E i j t=> ?_,fun E i j G t=> ?_,g3,fun E j t=> ?_⟩
 ·rw[R] at t
  rcases M j t with t | rfl
  ·exact(h.rows E j t).turned F T O (h.ar E 3 j t)
  ·exact(Y E).turned F T O (U E 3)
 ·rw[R] at t
  rcases M j t with t | rfl
  ·exact g2 E i j t
  ·by_cases e:i=3
   ·subst e;rw[Lp.upd_same];exact F.apart (Y E).lt (U E 3)
   ·rw[Lp.eT _ _ e];exact U E i
 ·rw[R] at G t;intro e
  rcases M i G with G | rfl <;> rcases M j t with t | rfl
  ·exact h.rr E i j G t e
  ·exact absurd e (Z E i G)
  ·exact absurd e.symm (Z E j t)
  ·rfl
 ·rw[R] at t
  rcases M j t with t | rfl
  ·exact h.lr E j t
  ·exact a0 E
theorem fC.IV{m O c0 c1 c2 c3 c4:Nat}{A0 A1 A2 A3 A4:Option Addr}(h:fC w B n k v gr cr A b c)(hk:k 0=m /\ k 1=n /\ k 2=m /\ k 3=m /\ k 4=n)
  (hv:v 0= .slice A0 m c0 /\ v 1= .slice A1 n c1 /\ v 2= .slice A2 m c2 /\ v 3= .slice A3 m c3 /\ v 4= .slice A4 n c4) (ad:O<B)
  (hr:Row w O 148 [.int .i64 (n:Nat), .slice A0 m c0, .slice A1 n c1, .slice A2 m c2, .slice A3 m c3, .slice A4 n c4, .bool false, .slice none 0 0, .bool false, .slice none 0 0]):
  ∃L:Lay,L.gt=O /\ fq w L m n (eu.init n A b c) /\ ∀k,L.blocks m k -> O <= k:=by
 obtain⟨k0,k1,k2,k3,k4⟩:=hk;obtain⟨v0,v1,v2,v3,v4⟩:=hv;have o0:=h.o0;have o1:=h.o1;have o2:=h.o2;have o3:=h.o3;have o4:=h.o4;have a5:=h.ap;have a6:=h.ar;have aa:=h.lo;rw[k0] at o0;rw[k1] at o1;rw[k2] at o2;rw[k3] at o3;rw[k4] at o4;obtain⟨M,a7⟩:∃M:Option Addr -> Nat,M=fun A=>(A.map (·.block)).getD O:=⟨_,rfl⟩
 have G:∀g,M (some ⟨g,0,none⟩)=g:=fun g=>by rw[a7];rfl
 have U:∀i X l x,v i= .slice X l x -> O <= M X:=by
  intro i X l x e;rw[a7];cases X with
  | none=>exact Nat.le_refl _
  | some a=>
   have:=(aa i a.block (by rw[e];rfl)).1;show O <= a.block;omega
 obtain⟨a1,a8⟩:∃a1:Nat -> Nat,a1=if 0<n then gr else fun _=>O:=⟨_,rfl⟩
 have a2:0<n -> a1=gr:=fun t=>by rw[a8,if_pos t]
 have own:∀i X l x g,v i= .slice X l x -> X=some ⟨g,0,none⟩ -> (v i).ownBlock=some g:=fun i X l x g e e'=>by rw[e,e'];rfl
 refine⟨⟨O,M A0,M A1,M A2,M A3,M A4,a1,cr,c0,c1,c2,c3,c4,A0,A1,A2,A3,A4⟩,rfl,?_,?_⟩
 ·have d0:=fun E:0<m=>o0.done E
  have d1:=fun t:0<n=>o1.done t
  have Y:=fun E:0<m=>o2.done E
  have d3:=fun E:0<m=>o3.done E
  have Z:=fun t:0<n=>o4.done t
  rw[v0] at d0;rw[v1] at d1;rw[v2] at Y;rw[v3] at d3;rw[v4] at Z;refine⟨⟨false,none,0,0,false,none,0,0,hr,eO.jU w⟩,fun E=> ?_,fun t=> ?_,fun E=> ?_,fun t=> ?_,fun E=> ?_,fun t=> ?_,fun E=> ?_,fun t r a9=> ?_,fun E t=> ?_,fun E t=> ?_,fun t r a9=> ?_,fun t r s ae hs=> ?_⟩
  ·obtain⟨g,x,cs,e,_⟩:=d0 E;obtain⟨g2,x2,F,_⟩:=Y E;obtain⟨g3,x3,ac,e3,_⟩:=d3 E;simp only[Value.slice.injEq,true_and] at e F e3;simp only[];rw[e.1,F.1,e3.1,G,G,G];exact⟨rfl,rfl,rfl⟩
  ·obtain⟨g,x,cs,e,_⟩:=d1 t;obtain⟨g2,x2,F,_⟩:=Z t;simp only[Value.slice.injEq,true_and] at e F;simp only[];rw[e.1,F.1,G,G];exact⟨rfl,rfl⟩
  ·obtain⟨g,x,cs,e,a0,hl,hc⟩:=d0 E;simp only[Value.slice.injEq,true_and] at e;simp only[];rw[e.1,G];refine⟨cs,a0,hl,fun j hj=> ?_⟩;obtain⟨u,h1,T⟩:=hc j hj;rw[h1];unfold pQ at T;rw[T];rfl
  ·obtain⟨g,x,cs,e,a0,hl,hc⟩:=d1 t;simp only[Value.slice.injEq,true_and] at e;simp only[];rw[e.1,G];refine⟨cs,a0,hl,fun j hj=> ?_⟩;obtain⟨u,h1,T⟩:=hc j hj;rw[h1];unfold pQ at T;rw[T];rfl
  ·obtain⟨g,x,e,a4⟩:=Y E;simp only[Value.slice.injEq,true_and] at e;simp only[];rw[e.1,G];exact a4
  ·obtain⟨g,x,e,a4⟩:=Z t;simp only[Value.slice.injEq,true_and] at e;simp only[];rw[e.1,G];exact a4
  ·obtain⟨g,x,cs,e,a0,hl,hc⟩:=d3 E;simp only[Value.slice.injEq,true_and] at e;simp only[];rw[e.1,G];refine⟨cs,a0,hl,fun j hj=> ?_⟩;obtain⟨u,h1,X,T,h3⟩:=hc j hj;exact⟨X,by rw[h1,T],fun t=>by rw[a2 t];exact h3 t⟩
  ·simp only[];rw[a2 t];exact h.rows t r oM
  ·obtain⟨g,x,cs,e,_⟩:=d0 E;obtain⟨g2,x2,ab,F,_⟩:=d1 t;simp only[Value.slice.injEq,true_and] at e F;simp only[];rw[e.1,F.1,G,G];intro R;subst R;exact a5 0 1 dC g (own 0 _ _ _ g v0 e.1) (own 1 _ _ _ g v1 F.1)
  ·obtain⟨g,x,e,_⟩:=Y E;obtain⟨g2,x2,F,_⟩:=Z t;simp only[Value.slice.injEq,true_and] at e F;simp only[];rw[e.1,F.1,G,G];intro R;subst R;exact a5 2 4 dC g (own 2 _ _ _ g v2 e.1) (own 4 _ _ _ g v4 F.1)
  ·obtain⟨g,x,e,_⟩:=Y oM;obtain⟨g2,x2,F,_⟩:=Z t;simp only[Value.slice.injEq,true_and] at e F;simp only[];rw[e.1,F.1,G,G,a2 t];exact⟨fun R=>a6 t 2 r oM (by rw[own 2 _ _ _ g v2 e.1,R]),fun R=>a6 t 4 r oM (by rw[own 4 _ _ _ g2 v4 F.1,R])⟩
  ·simp only[];rw[a2 t];exact h.rr t r s oM oM
 ·intro kk a3;unfold Lay.blocks at a3;simp only[] at a3
  rcases a3 with e | e | e | e | e | e | ⟨r,a9,e⟩
  ·omega
  ·rw[e];exact U 0 _ _ _ v0
  ·rw[e];exact U 1 _ _ _ v1
  ·rw[e];exact U 2 _ _ _ v2
  ·rw[e];exact U 3 _ _ _ v3
  ·rw[e];exact U 4 _ _ _ v4
  ·rw[e,a8];split
   ·rename_i t;have:=h.lr t r oM;omega
   ·exact Nat.le_refl _
end
def vs5(a b c d e:Value):Nat -> Value
 | 0=>a
 | 1=>b
 | 2=>c
 | 3=>d
 | 4=>e
 | _=> .slice none 0 0
def ks5(a b c d e:Nat):Nat -> Nat
 | 0=>a
 | 1=>b
 | 2=>c
 | 3=>d
 | 4=>e
 | _=>0
section
variable (a b c d e x:Value) (ka kb kc kd ke kx:Nat)
theorem Cj:(fun _=> .slice none 0 0)=vs5 (.slice none 0 0) (.slice none 0 0) (.slice none 0 0) (.slice none 0 0) (.slice none 0 0):=by funext i;match i with | 0 | 1 | 2 | 3 | 4 | (_+5)=>rfl
theorem Ck:(fun _=>0)=ks5 0 0 0 0 0:=by funext i;match i with | 0 | 1 | 2 | 3 | 4 | (_+5)=>rfl
theorem IW:upd (vs5 a b c d e) 0 x=vs5 x b c d e:=by funext i;match i with | 0 | 1 | 2 | 3 | 4 | (_+5)=>rfl
theorem IX:upd (vs5 a b c d e) 1 x=vs5 a x c d e:=by funext i;match i with | 0 | 1 | 2 | 3 | 4 | (_+5)=>rfl
theorem uf:upd (vs5 a b c d e) 2 x=vs5 a b x d e:=by funext i;match i with | 0 | 1 | 2 | 3 | 4 | (_+5)=>rfl
theorem ug:upd (vs5 a b c d e) 3 x=vs5 a b c x e:=by funext i;match i with | 0 | 1 | 2 | 3 | 4 | (_+5)=>rfl
theorem IY:upd (vs5 a b c d e) 4 x=vs5 a b c d x:=by funext i;match i with | 0 | 1 | 2 | 3 | 4 | (_+5)=>rfl
theorem IZ:upd (ks5 ka kb kc kd ke) 0 kx=ks5 kx kb kc kd ke:=by funext i;match i with | 0 | 1 | 2 | 3 | 4 | (_+5)=>rfl
theorem J2:upd (ks5 ka kb kc kd ke) 1 kx=ks5 ka kx kc kd ke:=by funext i;match i with | 0 | 1 | 2 | 3 | 4 | (_+5)=>rfl
theorem uh:upd (ks5 ka kb kc kd ke) 2 kx=ks5 ka kb kx kd ke:=by funext i;match i with | 0 | 1 | 2 | 3 | 4 | (_+5)=>rfl
theorem ui:upd (ks5 ka kb kc kd ke) 3 kx=ks5 ka kb kc kx ke:=by funext i;match i with | 0 | 1 | 2 | 3 | 4 | (_+5)=>rfl
theorem J3:upd (ks5 ka kb kc kd ke) 4 kx=ks5 ka kb kc kd kx:=by funext i;match i with | 0 | 1 | 2 | 3 | 4 | (_+5)=>rfl
end
end
end Go.Proofs.YtdefghfjhgmpfaaGreatDoor
