/- Parts of this proof: Dict. -/
namespace Go.Proofs.YtokagbahdkfagaaGreatDoor.Lp
def sumTo:Nat -> (Nat -> Rat) -> Rat
 | 0,_=>0
 | n+1,f=>sumTo n f+f n
theorem sumTo_congr{n:Nat}{f g:Nat -> Rat}(h:∀c,c<n -> f c=g c):sumTo n f=sumTo n g:=by
 induction n with
 | zero=>rfl
 | succ n r=>rw[sumTo,sumTo,r (fun c t=>h c (by omega)),h n (by omega)]
theorem iF{n:Nat}{f:Nat -> Rat}(h:∀c,c<n -> f c=0):sumTo n f=0:=by
 induction n with
 | zero=>rfl
 | succ n r=>rw[sumTo,r (fun c t=>h c (by omega)),h n (by omega)];grind
theorem xu(n:Nat)(f g:Nat -> Rat):sumTo n (fun c=>f c+g c)=sumTo n f+sumTo n g:=by
 induction n with
 | zero=>simp only[sumTo];grind
 | succ n h=>simp only[sumTo];rw[h];grind
theorem mJ(n:Nat)(a:Rat)(f:Nat -> Rat):sumTo n (fun c=>a*f c)=a*sumTo n f:=by
 induction n with
 | zero=>simp only[sumTo];grind
 | succ n h=>simp only[sumTo];rw[h];grind
theorem xw(n:Nat)(f g:Nat -> Rat):sumTo n (fun c=>f c-g c)=sumTo n f-sumTo n g:=by
 induction n with
 | zero=>simp only[sumTo];grind
 | succ n h=>simp only[sumTo];rw[h];grind
theorem qK{n:Nat}{f:Nat -> Rat}(h:∀c,c<n -> 0 <= f c):0 <= sumTo n f:=by
 induction n with
 | zero=>simp[sumTo]
 | succ n r=>have:=r (fun c t=>h c (by omega));have:=h n (by omega);simp only[sumTo];grind
theorem DZ{n j:Nat}{f:Nat -> Rat}(G:j<n)(h:∀c,c<n -> 0 <= f c)(M:0<f j):0<sumTo n f:=by
 induction n with
 | zero=>omega
 | succ n C=>
  simp only[sumTo];have E:=h n (by omega);by_cases t:j=n
  ·subst t;have h1:=qK (fun c (r:c<j)=>h c (by omega));grind
  ·have:=C (by omega) (fun c r=>h c (by omega));grind
def iT(n j:Nat)(f:Nat -> Rat):Rat:=sumTo n (fun c=>if c=j then 0 else f c)
theorem tT{n j:Nat}{f g:Nat -> Rat}(h:∀c,c<n -> c≠j -> f c=g c):iT n j f=iT n j g:=
 sumTo_congr fun c r=>by by_cases e:c=j <;> simp[e];exact h c r e
theorem o5{n j:Nat}(f:Nat -> Rat)(C:j<n):sumTo n f=iT n j f+f j:=by
 unfold iT
 induction n with
 | zero=>omega
 | succ n r=>
  simp only[sumTo];by_cases h:j=n
  ·subst h;rw[if_pos rfl,sumTo_congr (f:=fun c=>if c=j then 0 else f c) (g:=f) (fun c t=>if_neg (by omega))];grind
  ·rw[r (by omega),if_neg (by omega)];grind
theorem E5(n j:Nat)(f g:Nat -> Rat)(a:Rat):iT n j (fun c=>f c-a*g c)=iT n j f-a*iT n j g:=by
 unfold iT;rw[<- mJ, <- xw];refine sumTo_congr fun c _=> ?_
 by_cases e:c=j
 ·simp only[if_pos e];grind
 ·simp only[if_neg e]
theorem E8(n j:Nat)(f:Nat -> Rat)(a:Rat):iT n j (fun c=>a*f c)=a*iT n j f:=by
 unfold iT;rw[<- mJ];refine sumTo_congr fun c _=> ?_
 by_cases e:c=j
 ·simp only[if_pos e];grind
 ·simp only[if_neg e]
theorem kM{n j:Nat}{f:Nat -> Rat}(r:j<n)(h:∀c,c<n -> c≠j -> f c=0):sumTo n f=f j:=by
 rw[o5 f r,tT (g:=fun _=>0) h];unfold iT;rw[iF (by intro c _;simp)];grind
theorem xx(n m:Nat)(f:Nat -> Nat -> Rat):sumTo n (fun i=>sumTo m (fun j=>f i j))=sumTo m (fun j=>sumTo n (fun i=>f i j)):=by
 induction n with
 | zero=>simp only[sumTo];exact(iF (fun _ _=>rfl)).symm
 | succ n h=>simp only[sumTo];rw[h,xu]
structure eu where
 basic:Nat -> Nat
 off:Nat -> Nat
 con:Nat -> Rat
 cell:Nat -> Nat -> Rat
 top:Nat -> Rat
 val:Rat
def upd{α:Type}(f:Nat -> α)(i:Nat)(x:α):Nat -> α:=fun k=>if k=i then x else f k
theorem upd_same{α:Type}(f:Nat -> α)(i:Nat)(x:α):upd f i x i=x:=if_pos rfl
theorem eQ{α:Type}(f:Nat -> α){i k:Nat}(x:α)(h:k≠i):upd f i x k=f k:=if_neg h
def eu.pivot(D:eu)(i j:Nat):eu where
 basic:=upd D.basic i (D.off j)
 off:=upd D.off j (D.basic i)
 con:=fun r=>if r=i then D.con i / D.cell i j else D.con r-D.cell r j* (D.con i / D.cell i j)
 cell:=fun r c=>if r=i then upd (D.cell i) j 1 c / D.cell i j else upd (D.cell r) j 0 c-D.cell r j* (upd (D.cell i) j 1 c / D.cell i j)
 top:=fun c=>upd D.top j 0 c-D.top j* (upd (D.cell i) j 1 c / D.cell i j)
 val:=D.val-D.top j* (D.con i / D.cell i j)
def eu.Row(n:Nat)(D:eu)(x:Nat -> Rat)(g:Rat)(r:Nat):Prop:=x (D.basic r)=D.con r*g-sumTo n (fun c=>D.cell r c*x (D.off c))
def eu.Top(n:Nat)(D:eu)(x:Nat -> Rat)(g f:Rat):Prop:=f=D.val*g-sumTo n (fun c=>D.top c*x (D.off c))
def eu.Sol(m n:Nat)(D:eu)(x:Nat -> Rat)(g f:Rat):Prop:=(∀r,r<m -> D.Row n x g r) /\ D.Top n x g f
structure eu.Ok (m n:Nat) (D:eu):Prop where
 bi:∀r s,r<m -> s<m -> D.basic r=D.basic s -> r=s
 oi:∀c d,c<n -> d<n -> D.off c=D.off d -> c=d
 ne:∀r c,r<m -> c<n -> D.basic r≠D.off c
 bl:∀r,r<m -> D.basic r<n+m
 ol:∀c,c<n -> D.off c<n+m
 all:∀v,v<n+m -> (∃r,r<m /\ D.basic r=v) \/ (∃c,c<n /\ D.off c=v)
theorem eu.E9(D:eu)(i j:Nat)(E:D.cell i j≠0):(D.pivot i j).pivot i j=D:=by
 have O:(D.pivot i j).cell i j=1 / D.cell i j:=by simp[eu.pivot,upd]
 have R:(1 / D.cell i j)≠0:=by
  intro h;have:D.cell i j* (1 / D.cell i j)=0:=by rw[h];grind
  grind
 unfold eu.pivot
 rcases D with ⟨b,o,M,G,t,v⟩
 simp only[upd_same];simp only at E;congr 1
 ·funext r;by_cases h:r=i <;> simp[upd,h]
 ·funext r;by_cases h:r=j <;> simp[upd,h]
 ·funext r;by_cases h:r=i
  ·subst h;simp;grind
  ·simp[h];grind
 ·funext r c;by_cases h:r=i
  ·subst h;by_cases C:c=j
   ·subst C;simp[upd];grind
   ·simp[upd,C];grind
  ·by_cases C:c=j
   ·subst C;simp[upd,h];grind
   ·simp[upd,h,C];grind
 ·funext c;by_cases C:c=j
  ·subst C;simp[upd];grind
  ·simp[upd,C];grind
 ·simp;grind
theorem eu.Ok.pivot{m n i j:Nat}{D:eu}(h:D.Ok m n)(E:i<m)(G:j<n):(D.pivot i j).Ok m n:=by
 have V:=h.ne;refine⟨?_,?_,?_,?_,?_,?_⟩
 ·intro r s C T;simp only[eu.pivot,upd];split <;> split
  ·intro _;omega
  ·intro e;exact absurd e.symm (h.ne s j T G)
  ·intro e;exact absurd e (h.ne r j C G)
  ·exact h.bi r s C T
 ·intro c d t O;simp only[eu.pivot,upd];split <;> split
  ·intro _;omega
  ·intro e;exact absurd e (h.ne i d E O)
  ·intro e;exact absurd e.symm (h.ne i c E t)
  ·exact h.oi c d t O
 ·intro r c C t;simp only[eu.pivot,upd];split <;> split
  ·exact fun e=>h.ne i j E G e.symm
  ·intro e;have:=h.oi j c G t e;omega
  ·intro e;have:=h.bi r i C E e;omega
  ·exact h.ne r c C t
 ·intro r C;simp only[eu.pivot,upd];split
  ·exact h.ol j G
  ·exact h.bl r C
 ·intro c t;simp only[eu.pivot,upd];split
  ·exact h.bl i E
  ·exact h.ol c t
 ·intro v U;simp only[eu.pivot,upd]
  rcases h.all v U with ⟨r,C,e⟩ | ⟨c,t,e⟩
  ·by_cases R:r=i
   ·exact .inr ⟨j,G,by rw[if_pos rfl, <- R];exact e⟩
   ·exact .inl ⟨r,C,by rw[if_neg R];exact e⟩
  ·by_cases M:c=j
   ·exact .inl ⟨i,E,by rw[if_pos rfl, <- M];exact e⟩
   ·exact .inr ⟨c,t,by rw[if_neg M];exact e⟩
theorem eu.Sol.pivot{m n i j:Nat}{D:eu}{x:Nat -> Rat}{g f:Rat}(h:D.Sol m n x g f)(W:i<m)(C:j<n)(X:D.cell i j≠0):(D.pivot i j).Sol m n x g f:=by
 obtain⟨T,U⟩:=h;have G:=T i W;unfold eu.Row at G;rw[o5 _ C] at G;obtain⟨k,E⟩:∃k,k=D.cell i j:=⟨_,rfl⟩
 obtain⟨S,M⟩:∃S,S=iT n j (fun c=>D.cell i c*x (D.off c)):=⟨_,rfl⟩
 rw[<- M, <- E] at G
 -- the sum of a row less a multiple of the new row
 have V:∀ (a:Rat) (f:Nat -> Rat),sumTo n (fun c=>(upd f j 0 c-a* (upd (D.cell i) j 1 c / k))*x (upd D.off j (D.basic i) c))=iT n j (fun c=>f c*x (D.off c))-a / k*S-a / k*x (D.basic i):=by
  intro a f;rw[o5 _ C,M, <- E5]
  have e:iT n j (fun c=>(upd f j 0 c-a* (upd (D.cell i) j 1 c / k))*x (upd D.off j (D.basic i) c))=iT n j (fun c=>f c*x (D.off c)-a / k* (D.cell i c*x (D.off c))):=
   tT fun c _ t=>by rw[eQ _ _ t,eQ _ _ t,eQ _ _ t];grind
  rw[e,upd_same,upd_same,upd_same];grind
 rw[<- E] at X;refine⟨fun r Y=> ?_,?_⟩
 ·unfold eu.Row;simp only[eu.pivot];by_cases O:r=i
  ·subst O;simp only[if_true,upd_same];rw[<- E]
   have e:sumTo n (fun c=>upd (D.cell r) j 1 c / k*x (upd D.off j (D.basic r) c))=1 / k*S+1 / k*x (D.basic r):=by
    rw[o5 _ C,M, <- E8]
    have e:iT n j (fun c=>upd (D.cell r) j 1 c / k*x (upd D.off j (D.basic r) c))=iT n j (fun c=>1 / k* (D.cell r c*x (D.off c))):=
     tT fun c _ t=>by rw[eQ _ _ t,eQ _ _ t];grind
    rw[e,upd_same,upd_same]
   rw[e];grind
  ·rw[eQ _ _ O];simp only[if_neg O];rw[<- E,V];have R:=T r Y;unfold eu.Row at R;rw[o5 _ C] at R;grind
 ·unfold eu.Top;simp only[eu.pivot];rw[<- E,V];unfold eu.Top at U;rw[o5 _ C] at U;grind
theorem eu.tV{m n i j:Nat}{D:eu}{x:Nat -> Rat}{g f:Rat}(r:i<m)(t:j<n)(C:D.cell i j≠0):(D.pivot i j).Sol m n x g f↔D.Sol m n x g f:=by
 constructor
 ·intro h
  have e:(D.pivot i j).cell i j≠0:=by
   simp only[eu.pivot,if_true,upd_same];intro h0;have:D.cell i j* (1 / D.cell i j)=0:=by rw[h0];grind
   grind
  have:=h.pivot r t e
  rwa [D.E9 i j C] at this
 ·exact fun h=>h.pivot r t C
def pu(n k:Nat)(D E:eu):Prop:=∀v,v<n \/ k<v -> ((∃c,c<n /\ D.off c=v)↔(∃c,c<n /\ E.off c=v))
def eu.assign(m n:Nat)(D:eu)(a b:Nat -> Rat)(v:Nat):Rat:=sumTo m (fun r=>if D.basic r=v then a r else 0)+sumTo n (fun c=>if D.off c=v then b c else 0)
theorem eu.Ea{m n:Nat}{D:eu}(h:D.Ok m n)(a b:Nat -> Rat){r:Nat}(t:r<m):D.assign m n a b (D.basic r)=a r:=by
 unfold eu.assign;rw[kM t (fun s G E=>if_neg fun e=>E (h.bi s r G t e)),iF (fun c C=>if_neg fun e=>h.ne r c t C e.symm),if_pos rfl];grind
theorem eu.Eb{m n:Nat}{D:eu}(h:D.Ok m n)(a b:Nat -> Rat){c:Nat}(t:c<n):D.assign m n a b (D.off c)=b c:=by
 unfold eu.assign;rw[kM t (fun d C E=>if_neg fun e=>E (h.oi d c C t e)),iF (fun r G=>if_neg fun e=>h.ne r c G t e),if_pos rfl];grind
theorem eu.lQ{m n:Nat}{D:eu}(h:D.Ok m n)(b:Nat -> Rat)(g:Rat):
  ∃x,D.Sol m n x g (D.val*g-sumTo n (fun c=>D.top c*b c)) /\ (∀c,c<n -> x (D.off c)=b c) /\ ∀r,r<m -> x (D.basic r)=D.con r*g-sumTo n (fun c=>D.cell r c*b c):=by
 obtain⟨a,M⟩:∃a:Nat -> Rat,a=fun r=>D.con r*g-sumTo n (fun c=>D.cell r c*b c):=⟨_,rfl⟩
 have C:∀c,c<n -> D.assign m n a b (D.off c)=b c:=fun c t=>D.Eb h a b t
 have G:∀r,r<m -> D.assign m n a b (D.basic r)=D.con r*g-sumTo n (fun c=>D.cell r c*b c):=fun r E=>(D.Ea h a b E).trans (by rw[M])
 refine⟨D.assign m n a b,⟨fun r E=> ?_,?_⟩,C,G⟩
 ·unfold eu.Row;rw[G r E,sumTo_congr (f:=fun c=>D.cell r c*D.assign m n a b (D.off c)) fun c t=>by rw[C c t]]
 ·unfold eu.Top;rw[sumTo_congr (f:=fun c=>D.top c*D.assign m n a b (D.off c)) fun c t=>by rw[C c t]]
def eu.kQ(m n:Nat)(D:eu)(k:Nat):Prop:=(∀r,r<m -> n <= D.basic r -> D.basic r<k -> 0 <= D.con r) /\ (∀c,c<n -> n <= D.off c -> D.off c<k -> 0 <= D.top c)
inductive eu.jV (m n:Nat) (D:eu) (i j:Nat):Prop
 | row:i<m -> j<n -> n <= D.basic i -> D.con i<0 -> D.kQ m n (D.basic i) -> n <= D.off j -> D.cell i j<0 -> (∀c,c<n -> n <= D.off c -> D.off c<D.off j -> 0 <= D.cell i c) -> eu.jV m n D i j
 | col:i<m -> j<n -> n <= D.off j -> D.top j<0 -> D.kQ m n (D.off j) -> n <= D.basic i -> 0<D.cell i j -> (∀r,r<m -> n <= D.basic r -> D.basic r<D.basic i -> D.cell r j <= 0) -> eu.jV m n D i j
theorem eu.jV.lt{m n i j:Nat}{D:eu}(h:D.jV m n i j):i<m /\ j<n /\ D.cell i j≠0 /\ n <= D.basic i /\ n <= D.off j:=by
 cases h with
 | row h1 t C G M E r O=>exact⟨h1,t,by intro e;rw[e] at r;exact absurd r (Rat.lt_irrefl),C,E⟩
 | col h1 t C G M E r O=>exact⟨h1,t,by intro e;rw[e] at r;exact absurd r (Rat.lt_irrefl),E,C⟩
theorem xy{n k:Nat}{D E:eu}(T:pu n k D E){a x:Nat -> Rat}(G:∀c,c<n -> n <= D.off c -> D.off c<k -> 0 <= a c)(U:∀v,n <= v -> v<k -> 0 <= x v)
  (h0:∀c,c<n -> E.off c<n \/ k<E.off c -> x (E.off c)=0) {j:Nat} (t:j<n) (C:D.off j=k) (R:0<a j*x k) (O:∀c d,c<n -> d<n -> D.off c=D.off d -> c=d):0<sumTo n (fun c=>a c*x (D.off c)):=by
 refine DZ t (fun c h=> ?_) (by rw[C];exact R);by_cases h1:D.off c<n \/ k<D.off c
 ·obtain⟨d,M,e⟩:=(T _ h1).1 ⟨c,h,rfl⟩;rw[<- e,h0 d M (by rw[e];exact h1)];grind
 ·by_cases r:D.off c=k
  ·have:c=j:=O c j h t (by rw[r,C]);subst this;rw[r];grind
  ·exact Rat.mul_nonneg (G c h (by omega) (by omega)) (U _ (by omega) (by omega))
theorem Ec{n k:Nat}{D E:eu}(G:pu n k D E){a x:Nat -> Rat}(r:∀c,c<n -> n <= D.off c -> D.off c<k -> 0 <= a c)(M:∀v,n <= v -> v<k -> 0 <= x v)
  (h0:∀c,c<n -> E.off c<n \/ k<E.off c -> x (E.off c)=0) (C:∀c,c<n -> D.off c≠k):0 <= sumTo n (fun c=>a c*x (D.off c)):=by
 refine qK (fun c h=> ?_);by_cases h1:D.off c<n \/ k<D.off c
 ·obtain⟨d,t,e⟩:=(G _ h1).1 ⟨c,h,rfl⟩;rw[<- e,h0 d t (by rw[e];exact h1)];grind
 ·have O:=C c h;exact Rat.mul_nonneg (r c h (by omega) (by omega)) (M _ (by omega) (by omega))
theorem xz{m n k:Nat}{D E:eu}(hD:D.Ok m n)(R:E.Ok m n)(a4:∀x g f,D.Sol m n x g f↔E.Sol m n x g f)(hs:pu n k D E)
  {X j1 T Y:Nat} (c1:D.jV m n X j1) (e1:D.off j1=k) (l1:D.basic X<k) (c2:E.jV m n T Y) (U:E.basic T=k) (l2:E.off Y<k):False:=by
 have a8:pu n k E D:=fun v hv=>(hs v hv).symm
 obtain⟨ad,ae,_,ah,aj⟩:=c1.lt;obtain⟨a3,af,_,ai,ak⟩:=c2.lt;have kE:∀c,c<n -> E.off c≠k:=fun c h e=>R.ne T c a3 h (by rw[U,e])
 -- what stands at the leaving dictionary
 have lhs:∃ (x:Nat -> Rat) (g f:Rat),E.Sol m n x g f /\ (∀v,n <= v -> v<k -> v<n+m -> 0 <= x v) /\ (∀c,c<n -> E.off c<n \/ k<E.off c -> x (E.off c)=0) /\ x k<0 /\
   ((g=1 /\ f=E.val /\ E.kQ m n k) \/ (g=0 /\ 0<f)):=by
  cases c2 with
  | row h1 O Z h4 G h6 h7 V=>
   obtain⟨x,W,C,M⟩:=E.lQ R (fun _=>0) 1;have z:∀a:Nat -> Rat,sumTo n (fun c=>a c*0)=0:=fun a=>iF fun c _=>by grind
   refine⟨x,1,_,W,fun v a9 aa a1=> ?_,fun c h _=>C c h,?_, .inl ⟨rfl,by rw[z];grind,by rw[<- U];exact G⟩⟩
   ·rcases R.all v a1 with ⟨r,t,e⟩ | ⟨c,h,e⟩
    ·rw[<- e,M r t,z];have:=G.1 r t (by omega) (by omega);grind
    ·rw[<- e,C c h];exact Rat.le_refl
   ·rw[<- U,M T h1,z];grind
  | col h1 O Z h4 G h6 h7 V=>
   obtain⟨x,W,C,M⟩:=E.lQ R (fun c=>if c=Y then 1 else 0) 0
   have z:∀a:Nat -> Rat,sumTo n (fun c=>a c* (if c=Y then 1 else 0))=a Y:=fun a=>by
    rw[kM O (fun c _ h=>by rw[if_neg h];grind),if_pos rfl];grind
   refine⟨x,0,_,W,fun v a9 aa a1=> ?_,fun c h ac=> ?_,?_, .inr ⟨rfl,by rw[z];grind⟩⟩
   ·rcases R.all v a1 with ⟨r,t,e⟩ | ⟨c,h,e⟩
    ·rw[<- e,M r t,z];have:=V r t (by omega) (by omega);grind
    ·rw[<- e,C c h];split <;> grind
   ·rw[C c h,if_neg];intro e;subst e;omega
   ·rw[<- U,M T h1,z];grind
 obtain⟨x,g,f,W,a7,hz,hk,a2⟩:=lhs;have ag:k<n+m:=by rw[<- U];exact R.bl T a3
 have a0:∀v,n <= v -> v<k -> 0 <= x v:=fun v a b=>a7 v a b (by omega)
 have a5:=(a4 x g f).2 W;cases c1 with
 | row h1 O Z h4 G h6 h7 V=>
  have:=xy hs (a:=D.cell X) (fun c h a b=>V c h a (by omega)) a0 hz O e1 (by have:=Rat.mul_pos (a:= - D.cell X j1) (b:= - x k) (by grind) (by grind);grind) hD.oi;have t:=a5.1 X h1;unfold eu.Row at t;have:=a0 _ Z l1
  rcases a2 with ⟨rfl,_,_⟩ | ⟨rfl,_⟩ <;> grind
 | col h1 O Z h4 G h6 h7 V=>
  have al:=xy hs (a:=D.top) (fun c h a b=>G.2 c h a (by omega)) a0 hz O e1 (by have:=Rat.mul_pos (a:= - D.top j1) (b:= - x k) (by grind) (by grind);grind) hD.oi;have t:=a5.2;unfold eu.Top at t
  rcases a2 with ⟨rfl,hf,a6⟩ | ⟨rfl,_⟩
  ·-- the basic point of D
   obtain⟨y,hy,C,M⟩:=D.lQ hD (fun _=>0) 1;have z:∀a:Nat -> Rat,sumTo n (fun c=>a c*0)=0:=fun a=>iF fun c _=>by grind
   rw[z] at hy;have ab:=((a4 _ _ _).1 hy).2;unfold eu.Top at ab
   have:=Ec a8 (a:=E.top) (x:=y) (fun c h a b=>a6.2 c h a b) (fun v a b=>by
    rcases hD.all v (by omega) with ⟨r,t,e⟩ | ⟨c,h,e⟩
    ·rw[<- e,M r t,z];have:=G.1 r t (by omega) (by omega);grind
    ·rw[<- e,C c h];exact Rat.le_refl) (fun c h _=>C c h) kE
   grind
  ·grind
structure je (m n:Nat) (s:Nat -> eu) (I J:Nat -> Nat) (N:Nat):Prop where
 ok:(s 0).Ok m n
 step:∀t,t<N -> (s t).jV m n (I t) (J t) /\ s (t+1)=(s t).pivot (I t) (J t)
section
variable {m n N:Nat} {s:Nat -> eu} {I J:Nat -> Nat}
theorem je.o6(h:je m n s I J N):∀t,t <= N -> (s t).Ok m n:=by
 intro t
 induction t with
 | zero=>exact fun _=>h.ok
 | succ t E=>
  intro G;obtain⟨r,C⟩:=h.step t (by omega);rw[C];exact(E (by omega)).pivot r.lt.1 r.lt.2.1
theorem je.sol(h:je m n s I J N){x:Nat -> Rat}{g f:Rat}:∀t,t <= N -> ((s t).Sol m n x g f↔(s 0).Sol m n x g f):=by
 intro t
 induction t with
 | zero=>exact fun _=>Iff.rfl
 | succ t E=>
  intro G;obtain⟨r,C⟩:=h.step t (by omega);rw[C,eu.tV r.lt.1 r.lt.2.1 r.lt.2.2.1];exact E (by omega)
theorem je.tail(h:je m n s I J N){t:Nat}(r:t <= N):je m n (fun i=>s (t+i)) (fun i=>I (t+i)) (fun i=>J (t+i)) (N-t):=
 ⟨h.o6 t r,fun i C=>h.step (t+i) (by omega)⟩
theorem je.front(h:je m n s I J N){t:Nat}(C:t <= N):je m n s I J t:=⟨h.ok,fun i r=>h.step i (by omega)⟩
theorem je.stays(h:je m n s I J N)(v:Nat):∀t,t <= N -> (∀i,i<t -> (s i).basic (I i)≠v /\ (s i).off (J i)≠v) -> ((∃c,c<n /\ (s 0).off c=v)↔(∃c,c<n /\ (s t).off c=v)):=by
 intro t
 induction t with
 | zero=>exact fun _ _=>Iff.rfl
 | succ t M=>
  intro T C;rw[M (by omega) fun i R=>C i (by omega)];obtain⟨O,G⟩:=h.step t (by omega);obtain⟨h1,E⟩:=C t (by omega);rw[G];simp only[eu.pivot];constructor
  ·rintro⟨c,r,e⟩;refine⟨c,r,?_⟩;rw[eQ]
   ·exact e
   ·intro e';subst e';exact E e
  ·rintro⟨c,r,e⟩;refine⟨c,r,?_⟩;by_cases e':c=J t
   ·subst e';rw[upd_same] at e;exact absurd e h1
   ·rwa [eQ _ _ e'] at e
theorem Ed(K:Nat):∀ (s:Nat -> eu) (I J:Nat -> Nat) (N:Nat),je m n s I J N -> (∀t,t<N -> (s t).basic (I t)<n+K /\ (s t).off (J t)<n+K) -> N<2^K:=by
 induction K with
 | zero=>
  intro s I J N h E
  rcases Nat.eq_zero_or_pos N with h0 | h0
  ·subst h0;decide
  ·have h1:=E 0 h0;have h2:=(h.step 0 h0).1.lt;omega
 | succ K ih=>
  intro s I J N h E;have ao:2^ (K+1)=2^K+2^K:=by rw[Nat.pow_succ];omega
  -- the first step that moves n + K
  by_cases a5:∃t,t<N /\ ((s t).basic (I t)=n+K \/ (s t).off (J t)=n+K)
  ·obtain⟨r,⟨aa,ae⟩,ad⟩:∃t,(t<N /\ ((s t).basic (I t)=n+K \/ (s t).off (J t)=n+K)) /\ ∀u,u<t -> ¬((s u).basic (I u)=n+K \/ (s u).off (J u)=n+K):=by
    obtain⟨t,C⟩:=a5
    induction t using Nat.strongRecOn with
    | ind t a4=>
     by_cases R:∃u,u<t /\ ((s u).basic (I u)=n+K \/ (s u).off (J u)=n+K)
     ·obtain⟨u,M,O⟩:=R;exact a4 u M ⟨by omega,O⟩
     ·exact⟨t,C,fun u M O=>R ⟨u,M,O⟩⟩
   have h1:r<2^K:=by
    refine ih s I J r (h.front (by omega)) fun t C=> ?_
    have:=E t (by omega);have:=ad t C;omega
   have h2:N-(r+1)<2^K:=by
    refine ih _ _ _ (N-(r+1)) (h.tail (t:=r+1) (by omega)) fun t C=> ?_
    have an:=E (r+1+t) (by omega)
    -- no second step moves n + K
    by_cases a6:∃u,u<N-(r+1) /\ ((s (r+1+u)).basic (I (r+1+u))=n+K \/ (s (r+1+u)).off (J (r+1+u))=n+K)
    ·exfalso
     obtain⟨u,⟨R,a7⟩,ak⟩:∃u,(u<N-(r+1) /\ ((s (r+1+u)).basic (I (r+1+u))=n+K \/ (s (r+1+u)).off (J (r+1+u))=n+K)) /\
       ∀i,i<u -> ¬((s (r+1+i)).basic (I (r+1+i))=n+K \/ (s (r+1+i)).off (J (r+1+i))=n+K):=by
      obtain⟨t,C⟩:=a6
      induction t using Nat.strongRecOn with
      | ind t a4=>
       by_cases R:∃u,u<t /\ ((s (r+1+u)).basic (I (r+1+u))=n+K \/ (s (r+1+u)).off (J (r+1+u))=n+K)
       ·obtain⟨u,M,O⟩:=R;exact a4 u M ⟨by omega,O⟩
       ·exact⟨t,C,fun u M O=>R ⟨u,M,O⟩⟩
     have U:=h.o6 r (by omega);have aj:=h.o6 (r+1) (by omega);have T:=h.o6 (r+1+u) (by omega);obtain⟨V,eA⟩:=h.step r aa;obtain⟨W,_⟩:=h.step (r+1+u) (by omega);have lA:=E r aa;have lC:=E (r+1+u) (by omega);have a9:∀x g f,(s r).Sol m n x g f↔(s (r+1+u)).Sol m n x g f:=fun x g f=>(h.sol r (by omega)).trans (h.sol (r+1+u) (by omega)).symm
     have hT:=h.tail (t:=r) (by omega);have ab:=h.tail (t:=r+1) (by omega)
     have a8:pu n (n+K) (s r) (s (r+1+u)):=by
      intro v hv
      have h3:=hT.stays v (1+u) (by omega) fun i hi=>by
       have am:=E (r+i) (by omega);have al:=((h.step (r+i) (by omega)).1).lt;omega
      rw[show r+ (1+u)=r+1+u by omega] at h3;exact h3
     have a3:=ab.stays (n+K) u (by omega) fun i hi=>by
      have:=ak i hi;exact⟨fun e=>this (.inl e),fun e=>this (.inr e)⟩
     simp only[Nat.add_zero] at a3;obtain⟨Z,a1,_,_,_⟩:=V.lt;obtain⟨a0,a2,_,_,_⟩:=W.lt
     rcases ae with hb | ho
     ·-- it leaves first
      have ah:∃c,c<n /\ (s (r+1)).off c=n+K:=⟨J r,a1,by rw[eA];simp only[eu.pivot];rw[upd_same,hb]⟩
      obtain⟨c,Y,X⟩:=a3.1 ah
      have ai:(s (r+1+u)).off (J (r+1+u))=n+K:=by
       rcases a7 with G | G
       ·exact absurd (G.trans X.symm) (T.ne _ _ a0 Y)
       ·exact G
      have:=T.ne _ _ a0 a2;have:=U.ne _ _ Z a1;exact xz T U (fun x g f=>(a9 x g f).symm) (fun v hv=>(a8 v hv).symm) W ai (by omega) V hb (by omega)
     ·have af:¬ ∃c,c<n /\ (s (r+1)).off c=n+K:=by
       rintro⟨c,Y,X⟩;refine aj.ne (I r) c Z Y ?_;rw[X,eA];simp only[eu.pivot];rw[upd_same,ho]
      have ag:¬ ∃c,c<n /\ (s (r+1+u)).off c=n+K:=fun e=>af (a3.2 e)
      have ac:(s (r+1+u)).basic (I (r+1+u))=n+K:=by
       rcases a7 with G | G
       ·exact G
       ·exact absurd ⟨_,a2,G⟩ ag
      have:=T.ne _ _ a0 a2;have:=U.ne _ _ Z a1;exact xz U T a9 a8 V ho (by omega) W ac (by omega)
    ·have:¬((s (r+1+t)).basic (I (r+1+t))=n+K \/ (s (r+1+t)).off (J (r+1+t))=n+K):=fun e=>a6 ⟨t,C,e⟩
     omega
   omega
  ·have:=ih s I J N h fun t C=>by
    have:=E t C;have:¬((s t).basic (I t)=n+K \/ (s t).off (J t)=n+K):=fun e=>a5 ⟨t,C,e⟩
    omega
   omega
theorem je.len(h:je m n s I J N):N<2^m:=by
 refine Ed m s I J N h fun t E=> ?_
 have r:=h.o6 t (by omega);obtain⟨h1,C,_⟩:=(h.step t E).1.lt;exact⟨r.bl _ h1,r.ol _ C⟩
end
def Reach(m n:Nat)(D:eu)(N:Nat)(E:eu):Prop:=∃s I J,je m n s I J N /\ s 0=D /\ s N=E
theorem Reach.refl{m n:Nat}{D:eu}(h:D.Ok m n):Reach m n D 0 D:=⟨fun _=>D,fun _=>0,fun _=>0,⟨h,fun _ h=>absurd h (by omega)⟩,rfl,rfl⟩
theorem Reach.step{m n N i j:Nat}{D E:eu}(h:Reach m n D N E)(C:E.jV m n i j):Reach m n D (N+1) (E.pivot i j):=by
 obtain⟨s,I,J,r,h0,hN⟩:=h;refine⟨fun t=>if t <= N then s t else E.pivot i j,fun t=>if t<N then I t else i,fun t=>if t<N then J t else j,⟨?_,fun t G=> ?_⟩,?_,?_⟩
 ·simp only[Nat.zero_le,if_true];exact r.ok
 ·by_cases h1:t<N
  ·simp only[h1,if_true,show t <= N by omega,show t+1 <= N by omega];exact r.step t h1
  ·have:t=N:=by omega
   subst this;simp only[Nat.le_refl,if_true,Nat.lt_irrefl,if_false,show ¬(t+1 <= t) by omega,hN];exact⟨C,trivial⟩
 ·simp only[Nat.zero_le,if_true];exact h0
 ·simp only[show ¬(N+1 <= N) by omega,if_false]
theorem Reach.lt{m n N:Nat}{D E:eu}(h:Reach m n D N E):N<2^m:=by obtain⟨s,I,J,r,_,_⟩:=h;exact r.len
theorem Reach.ok{m n N:Nat}{D E:eu}(h:Reach m n D N E):E.Ok m n:=by obtain⟨s,I,J,r,_,rfl⟩:=h;exact r.o6 N (Nat.le_refl _)
theorem Reach.sol{m n N:Nat}{D E:eu}(h:Reach m n D N E){x:Nat -> Rat}{g f:Rat}:E.Sol m n x g f↔D.Sol m n x g f:=by obtain⟨s,I,J,r,rfl,rfl⟩:=h;exact r.sol N (Nat.le_refl _)
def eu.init(n:Nat)(A:Nat -> Nat -> Rat)(b c:Nat -> Rat):eu where
 basic:=fun r=>n+r
 off:=fun j=>j
 con:=b
 cell:=A
 top:=fun j=> - c j
 val:=0
def eH(n:Nat)(a x:Nat -> Rat):Rat:=sumTo n (fun k=>a k*x k)
theorem eu.nE(m n:Nat)(A:Nat -> Nat -> Rat)(b c:Nat -> Rat):(eu.init n A b c).Ok m n:=by
 refine⟨?_,?_,?_,?_,?_,?_⟩ <;> simp only[eu.init]
 ·intro r s _ _ h;omega
 ·intro c d _ _ h;exact h
 ·intro r c _ t h;omega
 ·intro r C;omega
 ·intro c t;omega
 ·intro v E;by_cases h:v<n
  ·exact .inr ⟨v,h,rfl⟩
  ·exact .inl ⟨v-n,by omega,by omega⟩
theorem eu.qL{m n:Nat}{A:Nat -> Nat -> Rat}{b c:Nat -> Rat}{x:Nat -> Rat}{g f:Rat}:(eu.init n A b c).Sol m n x g f↔(∀r,r<m -> x (n+r)=b r*g-eH n (A r) x) /\ f=eH n c x:=by
 unfold eu.Sol eu.Row eu.Top eH;simp only[eu.init]
 have e:(0:Rat)*g-sumTo n (fun k=> - c k*x k)=sumTo n (fun k=>c k*x k):=by
  have:sumTo n (fun k=> - c k*x k)=(-1)*sumTo n (fun k=>c k*x k):=by rw[<- mJ];exact sumTo_congr fun k _=>by grind
  rw[this];grind
 rw[e]
theorem pz{n:Nat}{a x y:Nat -> Rat}(h:∀k,k<n -> x k=y k):eH n a x=eH n a y:=sumTo_congr fun k r=>by rw[h k r]
theorem eu.xA{m n:Nat}(A:Nat -> Nat -> Rat)(b c x:Nat -> Rat)(g:Rat):∃y,(eu.init n A b c).Sol m n y g (eH n c x) /\ (∀k,k<n -> y k=x k) /\ ∀r,r<m -> y (n+r)=b r*g-eH n (A r) x:=by
 have e:∀a:Nat -> Rat,eH n a (fun v=>if v<n then x v else b (v-n)*g-eH n (A (v-n)) x)=eH n a x:=fun a=>pz fun k h=>if_pos h
 refine⟨fun v=>if v<n then x v else b (v-n)*g-eH n (A (v-n)) x,eu.qL.2 ⟨fun r _=> ?_,(e c).symm⟩,fun k h=>if_pos h,fun r _=> ?_⟩
 ·rw[e,if_neg (by omega),show n+r-n=r by omega]
 ·simp only[];rw[if_neg (by omega),show n+r-n=r by omega]
def jf(m n:Nat)(A:Nat -> Nat -> Rat)(b x:Nat -> Rat):Prop:=∀i,i<m -> eH n (A i) x <= b i
structure nG (m n:Nat) (A:Nat -> Nat -> Rat) (y c:Nat -> Rat):Prop where
 pos:∀i,i<m -> 0 <= y i
 sum:∀k,k<n -> eH m y (fun i=>A i k)=c k
structure Opt (m n:Nat) (A:Nat -> Nat -> Rat) (b c:Nat -> Rat) (v:Rat) (x y:Nat -> Rat):Prop where
 du:nG m n A y c
 bound:eH m y b=v
 holds:jf m n A b x
 value:eH n c x=v
structure Inf (m n:Nat) (A:Nat -> Nat -> Rat) (b:Nat -> Rat) (y:Nat -> Rat):Prop where
 du:nG m n A y (fun _=>0)
 bound:eH m y b<0
structure Unb (m n:Nat) (A:Nat -> Nat -> Rat) (b c x d:Nat -> Rat):Prop where
 holds:jf m n A b x
 ray:∀i,i<m -> eH n (A i) d <= 0
 up:0<eH n c d
theorem sumTo_le{n:Nat}{f g:Nat -> Rat}(h:∀c,c<n -> f c <= g c):sumTo n f <= sumTo n g:=by
 have:=qK (n:=n) (f:=fun c=>g c-f c) (fun c r=>by have:=h c r;grind);rw[xw] at this;grind
theorem xB{m n:Nat}{A:Nat -> Nat -> Rat}{y c x:Nat -> Rat}(h:nG m n A y c):eH n c x=eH m y (fun i=>eH n (A i) x):=by
 have e:eH n c x=sumTo n (fun k=>sumTo m (fun i=>y i*A i k)*x k):=sumTo_congr fun k t=>by rw[<- h.sum k t];rfl
 have r:sumTo n (fun k=>sumTo m (fun i=>y i*A i k)*x k)=sumTo n (fun k=>sumTo m (fun i=>y i*A i k*x k)):=sumTo_congr fun k _=>by
  rw[show sumTo m (fun i=>y i*A i k)*x k=x k*sumTo m (fun i=>y i*A i k) by grind, <- mJ];exact sumTo_congr fun i _=>by grind
 rw[e,r,xx];refine sumTo_congr fun i _=> ?_
 rw[show y i*eH n (A i) x=y i*sumTo n (fun k=>A i k*x k) from rfl, <- mJ];exact sumTo_congr fun k _=>by grind
theorem xC{m n:Nat}{A:Nat -> Nat -> Rat}{b y c x:Nat -> Rat}(h:nG m n A y c)(t:jf m n A b x):eH n c x <= eH m y b:=by
 rw[xB h];exact sumTo_le fun i r=>Rat.mul_le_mul_of_nonneg_left (t i r) (h.pos i r)
theorem Ee{m n:Nat}{A:Nat -> Nat -> Rat}{y c d:Nat -> Rat}(h:nG m n A y c)(t:∀i,i<m -> eH n (A i) d <= 0):eH n c d <= 0:=by
 rw[xB h];have:=qK (n:=m) (f:=fun i=>y i* (- eH n (A i) d)) (fun i r=>Rat.mul_nonneg (h.pos i r) (by have:=t i r;grind))
 have e:sumTo m (fun i=>y i* (- eH n (A i) d))=(-1)*eH m y (fun i=>eH n (A i) d):=by
  unfold eH;rw[<- mJ];exact sumTo_congr fun i _=>by grind
 rw[e] at this;grind
section
variable {m n:Nat} {A:Nat -> Nat -> Rat} {b c x y d x' y':Nat -> Rat} {v v':Rat}
theorem Opt.le(h:Opt m n A b c v x y)(r:jf m n A b x'):eH n c x' <= v:=by have:=xC h.du r;rw[h.bound] at this;exact this
theorem Opt.eq(h:Opt m n A b c v x y)(r:Opt m n A b c v' x' y'):v=v':=by
 have h1:=h.le r.holds;have t:=r.le h.holds;rw[r.value] at h1;rw[h.value] at t;exact Rat.le_antisymm t h1
theorem Inf.no(h:Inf m n A b y)(r:jf m n A b x):False:=by
 have h1:=xC h.du r;have t:=h.bound;have:eH n (fun _=>0) x=0:=iF fun k _=>by grind
 grind
theorem Unb.no(h:Unb m n A b c x d)(r:Opt m n A b c v x' y'):False:=by
 have:=Ee r.du h.ray;have:=h.up;grind
end
theorem xD{m n:Nat}{A:Nat -> Nat -> Rat}{b c y:Nat -> Rat}{p q:Rat}(h:∀x g f,(eu.init n A b c).Sol m n x g f -> eH m y (fun i=>x (n+i))=p*g-q*f):
  (∀k,k<n -> eH m y (fun i=>A i k)=q*c k) /\ eH m y b=p:=by
 constructor
 ·intro k G;obtain⟨z,C,_,t⟩:=eu.xA (m:=m) (n:=n) A b c (fun v=>if v=k then 1 else 0) 0
  have one:∀a:Nat -> Rat,eH n a (fun v=>if v=k then 1 else 0)=a k:=fun a=>by
   unfold eH;rw[kM G (fun c _ E=>by simp only[if_neg E];grind)];simp only[if_true];grind
  have h1:=h z 0 _ C;rw[one] at h1
  have e:eH m y (fun i=>z (n+i))=(-1)*eH m y (fun i=>A i k):=by
   unfold eH;rw[<- mJ];exact sumTo_congr fun i r=>by simp only[];rw[t i r,one];grind
  rw[e] at h1;grind
 ·obtain⟨z,C,_,t⟩:=eu.xA (m:=m) (n:=n) A b c (fun _=>0) 1;have zero:∀a:Nat -> Rat,eH n a (fun _=>0)=0:=fun a=>iF fun _ _=>by grind
  have h1:=h z 1 _ C;rw[zero] at h1
  have e:eH m y (fun i=>z (n+i))=eH m y b:=by
   unfold eH;exact sumTo_congr fun i r=>by simp only[];rw[t i r,zero];grind
  rw[e] at h1;grind
def spread(n:Nat)(o:Nat -> Nat)(a:Nat -> Rat)(k:Nat):Rat:=sumTo n (fun c=>if o c=k then a c else 0)
theorem pE{n:Nat}{o:Nat -> Nat}(t:∀c d,c<n -> d<n -> o c=o d -> c=d)(a:Nat -> Rat){c:Nat}(h:c<n):spread n o a (o c)=a c:=by
 unfold spread;rw[kM h (fun d r C=>if_neg fun e=>C (t d c r h e)),if_pos rfl]
theorem nH{n:Nat}{o:Nat -> Nat}(a:Nat -> Rat){k:Nat}(h:∀c,c<n -> o c≠k):spread n o a k=0:=iF fun c r=>if_neg (h c r)
theorem xE{m n:Nat}{o:Nat -> Nat}(C:∀c,c<n -> o c<n+m)(a x:Nat -> Rat):eH m (fun i=>spread n o a (n+i)) (fun i=>x (n+i))=sumTo n (fun c=>if n <= o c then a c*x (o c) else 0):=by
 unfold eH spread
 have e:sumTo m (fun i=>sumTo n (fun c=>if o c=n+i then a c else 0)*x (n+i))=sumTo m (fun i=>sumTo n (fun c=>if o c=n+i then a c*x (n+i) else 0)):=sumTo_congr fun i _=>by
  rw[show sumTo n (fun c=>if o c=n+i then a c else 0)*x (n+i)=x (n+i)*sumTo n (fun c=>if o c=n+i then a c else 0) by grind, <- mJ];exact sumTo_congr fun c _=>by split <;> grind
 rw[e,xx];refine sumTo_congr fun c r=> ?_
 by_cases h:n <= o c
 ·rw[if_pos h];have:=C c r;rw[kM (j:=o c-n) (by omega) (fun i t E=>if_neg (by omega)),if_pos (by omega),show n+ (o c-n)=o c by omega]
 ·rw[if_neg h];exact iF fun i t=>if_neg (by omega)
def eu.Zed(m n:Nat)(D:eu):Prop:=∀r c,r<m -> c<n -> n <= D.basic r -> D.off c<n -> D.cell r c=0
def eu.mK(n:Nat)(D:eu):Prop:=∀c,c<n -> D.off c<n -> D.top c=0
theorem eu.Zed.pivot{m n i j:Nat}{D:eu}(h:D.Zed m n)(R:D.jV m n i j):(D.pivot i j).Zed m n:=by
 obtain⟨T,U,V,M,W⟩:=R.lt;intro r c O E h1 t;simp only[eu.pivot] at*;have C:c≠j:=by rintro rfl;rw[upd_same] at t;omega
 rw[eQ _ _ C] at t;by_cases G:r=i
 ·subst G;rw[if_pos rfl,eQ _ _ C,h r c O E M t];grind
 ·rw[eQ _ _ G] at h1;rw[if_neg G,eQ _ _ C,eQ _ _ C,h r c O E h1 t,h i c T E M t];grind
theorem eu.mK.pivot{m n i j:Nat}{D:eu}(h:D.mK n)(O:D.Zed m n)(G:D.jV m n i j):(D.pivot i j).mK n:=by
 obtain⟨M,R,T,E,U⟩:=G.lt;intro c C r;simp only[eu.pivot] at*;have t:c≠j:=by rintro rfl;rw[upd_same] at r;omega
 rw[eQ _ _ t] at r;rw[eQ _ _ t,eQ _ _ t,h c C r,O i c M C E r];grind
theorem Reach.zed{m n N:Nat}{D E:eu}(h:Reach m n D N E)(M:D.Zed m n):E.Zed m n:=by
 obtain⟨s,I,J,C,rfl,rfl⟩:=h
 have:∀t,t <= N -> (s t).Zed m n:=by
  intro t
  induction t with
  | zero=>exact fun _=>M
  | succ t O=>intro R;obtain⟨r,G⟩:=C.step t (by omega);rw[G];exact(O (by omega)).pivot r
 exact this N (Nat.le_refl _)
theorem Reach.Ef{m n N:Nat}{D E:eu}(h:Reach m n D N E)(R:D.Zed m n)(G:D.mK n):E.mK n:=by
 obtain⟨s,I,J,M,rfl,rfl⟩:=h
 have:∀t,t <= N -> (s t).Zed m n /\ (s t).mK n:=by
  intro t
  induction t with
  | zero=>exact fun _=>⟨R,G⟩
  | succ t r=>intro G;obtain⟨C,O⟩:=M.step t (by omega);rw[O];exact⟨(r (by omega)).1.pivot C,(r (by omega)).2.pivot (r (by omega)).1 C⟩
 exact(this N (Nat.le_refl _)).2
section
variable {m n:Nat} {A:Nat -> Nat -> Rat} {b c:Nat -> Rat} {D:eu}
theorem xG(h:D.Ok m n)(V:∀x g f,D.Sol m n x g f↔(eu.init n A b c).Sol m n x g f)(O:D.kQ m n (n+m))(hz:D.mK n):
  Opt m n A b c D.val (spread m D.basic D.con) (fun i=>spread n D.off D.top (n+i)):=by
 have Z:∀x g f,(eu.init n A b c).Sol m n x g f -> eH m (fun i=>spread n D.off D.top (n+i)) (fun i=>x (n+i))=D.val*g-1*f:=by
  intro x g f G;have W:=((V x g f).2 G).2;unfold eu.Top at W;rw[xE h.ol,W]
  have:sumTo n (fun k=>if n <= D.off k then D.top k*x (D.off k) else 0)=sumTo n (fun k=>D.top k*x (D.off k)):=sumTo_congr fun k E=>by
   split
   ·rfl
   ·rw[hz k E (by omega)];grind
  rw[this];grind
 obtain⟨h1,Y⟩:=xD Z;obtain⟨x,G,T,M⟩:=D.lQ h (fun _=>0) 1;have z:∀a:Nat -> Rat,sumTo n (fun c=>a c*0)=0:=fun a=>iF fun c _=>by grind
 have X:=eu.qL.1 ((V _ _ _).1 G)
 have U:∀k,k<n -> x k=spread m D.basic D.con k:=by
  intro k E
  rcases h.all k (by omega) with ⟨r,C,rfl⟩ | ⟨c,t,rfl⟩
  ·rw[pE h.bi _ C,M r C,z];grind
  ·rw[T c t,nH _ fun r C=>h.ne r c C t]
 refine⟨⟨fun i R=> ?_,fun k E=>by rw[h1 k E];grind⟩,Y,fun i R=> ?_,?_⟩
 ·rcases h.all (n+i) (by omega) with ⟨r,C,e⟩ | ⟨c,t,e⟩
  ·rw[nH _ fun c t=>by rw[<- e];exact fun e'=>h.ne r c C t e'.symm];exact Rat.le_refl
  ·rw[<- e,pE h.oi _ t];exact O.2 c t (by omega) (h.ol c t)
 ·rw[<- pz U];have e:=X.1 i R
  have a0:0 <= x (n+i):=by
   rcases h.all (n+i) (by omega) with ⟨r,C,e⟩ | ⟨c,t,e⟩
   ·rw[<- e,M r C,z];have:=O.1 r C (by omega) (h.bl r C);grind
   ·rw[<- e,T c t];exact Rat.le_refl
  grind
 ·rw[<- pz U];have e:=X.2;rw[z] at e;grind
theorem xH(h:D.Ok m n)(W:∀x g f,D.Sol m n x g f↔(eu.init n A b c).Sol m n x g f)(Z:D.Zed m n){i:Nat}(E:i<m)(R:n <= D.basic i)(T:D.con i<0)(U:∀c,c<n -> n <= D.off c -> 0 <= D.cell i c):
  Inf m n A b (fun k=>(if D.basic i=n+k then 1 else 0)+spread n D.off (D.cell i) (n+k)):=by
 have a0:=h.bl i E
 have Y:∀x g f,(eu.init n A b c).Sol m n x g f -> eH m (fun k=>(if D.basic i=n+k then 1 else 0)+spread n D.off (D.cell i) (n+k)) (fun i=>x (n+i))=D.con i*g-0*f:=by
  intro x g f X;have G:=((W x g f).2 X).1 i E;unfold eu.Row at G
  have M:eH m (fun k=>(if D.basic i=n+k then 1 else 0)+spread n D.off (D.cell i) (n+k)) (fun i=>x (n+i))=sumTo m (fun k=>(if D.basic i=n+k then 1 else 0)*x (n+k))+eH m (fun k=>spread n D.off (D.cell i) (n+k)) (fun i=>x (n+i)):=by
   unfold eH;rw[<- xu];exact sumTo_congr fun k _=>by grind
  rw[M,xE h.ol,kM (j:=D.basic i-n) (by omega) (fun k t a1=>by rw[if_neg (by omega)];grind),if_pos (by omega),show n+ (D.basic i-n)=D.basic i by omega,G]
  have:sumTo n (fun k=>if n <= D.off k then D.cell i k*x (D.off k) else 0)=sumTo n (fun k=>D.cell i k*x (D.off k)):=sumTo_congr fun k t=>by
   split
   ·rfl
   ·rw[Z i k E t R (by omega)];grind
  rw[this];grind
 obtain⟨h1,O⟩:=xD Y;refine⟨⟨fun k t=> ?_,fun k t=>by rw[h1 k t];grind⟩,by rw[O];exact T⟩
 have:0 <= spread n D.off (D.cell i) (n+k):=by
  rcases h.all (n+k) (by omega) with ⟨r,V,e⟩ | ⟨c,C,e⟩
  ·rw[nH _ fun c C=>by rw[<- e];exact fun e'=>h.ne r c V C e'.symm];exact Rat.le_refl
  ·rw[<- e,pE h.oi _ C];exact U c C (by omega)
 split <;> grind
theorem xI(t:D.Ok m n)(W:∀x g f,D.Sol m n x g f↔(eu.init n A b c).Sol m n x g f){j:Nat}(G:j<n)(s:Rat)(X:n <= D.off j -> 0 <= s)(E:∀r,r<m -> n <= D.basic r -> s*D.cell r j <= 0)(a1:0< - (s*D.top j)):
  (∀i,i<m -> eH n (A i) (fun k=>(if D.off j=k then s else 0)+spread m D.basic (fun r=> - (s*D.cell r j)) k) <= 0) /\ 0<eH n c (fun k=>(if D.off j=k then s else 0)+spread m D.basic (fun r=> - (s*D.cell r j)) k):=by
 obtain⟨x,Y,O,M⟩:=D.lQ t (fun c=>if c=j then s else 0) 0
 have z:∀a:Nat -> Rat,sumTo n (fun c=>a c* (if c=j then s else 0))=a j*s:=fun a=>by
  rw[kM G (fun c _ C=>by rw[if_neg C];grind),if_pos rfl]
 have U:=eu.qL.1 ((W _ _ _).1 Y)
 have R:∀k,k<n -> x k=(if D.off j=k then s else 0)+spread m D.basic (fun r=> - (s*D.cell r j)) k:=by
  intro k Z
  rcases t.all k (by omega) with ⟨r,E,rfl⟩ | ⟨c,C,rfl⟩
  ·rw[pE t.bi _ E,M r E,z,if_neg fun e=>t.ne r j E G e.symm];grind
  ·rw[O c C,nH _ fun r E=>t.ne r c E C];by_cases e:c=j
   ·rw[if_pos e,if_pos (by rw[e])];grind
   ·rw[if_neg e,if_neg fun e'=>e (t.oi c j C G e'.symm)];grind
 refine⟨fun i V=> ?_,?_⟩
 ·rw[<- pz R];have e:=U.1 i V
  have a0:0 <= x (n+i):=by
   rcases t.all (n+i) (by omega) with ⟨r,T,e⟩ | ⟨c,C,e⟩
   ·rw[<- e,M r T,z];have:=E r T (by omega);grind
   ·rw[<- e,O c C];split
    ·rename_i h;subst h;exact X (by omega)
    ·exact Rat.le_refl
  grind
 ·rw[<- pz R];have e:=U.2;rw[z] at e;grind
end
def eu.Rel(m n:Nat)(D:eu)(j:Nat):Prop:=(∀c,j <= c -> c<n -> D.off c=c) /\ ∀c r,c<j -> c<n -> r<m -> n <= D.basic r -> D.off c<n -> D.cell r c=0
theorem eu.Rel.zed{m n:Nat}{D:eu}(h:D.Rel m n n):D.Zed m n:=fun r c E t h1 C=>h.2 c r t t E h1 C
theorem eu.xJ(m n:Nat)(A:Nat -> Nat -> Rat)(b c:Nat -> Rat):(eu.init n A b c).Rel m n 0:=⟨fun _ _ _=>rfl,fun _ _ h=>absurd h (by omega)⟩
theorem eu.Rel.none_{m n j:Nat}{D:eu}(h:D.Rel m n j)(M:∀r,r<m -> n <= D.basic r -> D.cell r j=0):D.Rel m n (j+1):=
 ⟨fun c h1 t=>h.1 c (by omega) t,fun c r h1 t E C G=>by
  by_cases e:c=j
  ·subst e;exact M r E C
  ·exact h.2 c r (by omega) t E C G⟩
theorem eu.Rel.pivot{m n i j:Nat}{D:eu}(h:D.Rel m n j)(R:j<n)(O:i<m)(M:n <= D.basic i):(D.pivot i j).Rel m n (j+1):=by
 have U:=h.1 j (Nat.le_refl _) R;refine⟨fun c h1 t=> ?_,fun c r h1 t T E C=> ?_⟩
 ·simp only[eu.pivot];rw[eQ _ _ (by omega)];exact h.1 c (by omega) t
 ·simp only[eu.pivot] at*;by_cases e:c=j
  ·subst e;rw[upd_same] at C;omega
  ·rw[eQ _ _ e] at C;by_cases G:r=i
   ·subst G;rw[upd_same] at E;omega
   ·rw[eQ _ _ G] at E;rw[if_neg G,eQ _ _ e,eQ _ _ e,h.2 c r (by omega) t T E C,h.2 c i (by omega) t O M C];grind
def RL(k:Nat)(q:Rat):Prop:=q.num.natAbs<10^k /\ q.den<10^k
theorem xK{k m:Nat}(h:k <= m):10^k <= 10^m:=Nat.pow_le_pow_right (by decide) h
theorem RL.mono{k m:Nat}{q:Rat}(h:RL k q)(r:k <= m):RL m q:=⟨Nat.lt_of_lt_of_le h.1 (xK r),Nat.lt_of_lt_of_le h.2 (xK r)⟩
theorem xL{p d:Int}{k:Nat}(h:d≠0)(E:p.natAbs<10^k)(r:d.natAbs<10^k):RL k (Rat.divInt p d):=by
 have C:0<d.gcd p:=Int.gcd_pos_of_ne_zero_left p h;constructor
 ·rw[Rat.num_divInt]
  have h1:(d.sign*p / (d.gcd p:Nat)).natAbs <= (d.sign*p).natAbs:=by
   rw[Int.natAbs_ediv_of_dvd]
   ·exact Nat.div_le_self _ _
   ·exact Int.dvd_trans (Int.gcd_dvd_right ..) ⟨d.sign,by rw[Int.mul_comm]⟩
  have t:(d.sign*p).natAbs <= p.natAbs:=by
   rw[Int.natAbs_mul,Int.natAbs_sign_of_ne_zero h,Nat.one_mul];exact Nat.le_refl _
  omega
 ·rw[Rat.den_divInt,if_neg h];exact Nat.lt_of_le_of_lt (Nat.div_le_self _ _) r
theorem xM{p:Int}{d k:Nat}(t:d≠0)(r:p.natAbs<10^k)(h:d<10^k):RL k (mkRat p d):=by
 rw[<- Rat.divInt_ofNat];exact xL (by omega) r (by simpa using h)
theorem RL.zero:RL 1 0:=by unfold RL;decide
theorem RL.one:RL 1 1:=by unfold RL;decide
theorem RL.neg{k:Nat}{q:Rat}(h:RL k q):RL k (-q):=by unfold RL at*;rw[Rat.neg_num,Rat.neg_den,Int.natAbs_neg];exact h
theorem RL.mul{k m:Nat}{p q:Rat}(h:RL k p)(r:RL m q):RL (k+m) (p*q):=by
 rw[Rat.mul_def'];refine xM (Nat.mul_ne_zero p.den_nz q.den_nz) ?_ ?_
 ·rw[Int.natAbs_mul,Nat.pow_add];exact Nat.mul_lt_mul'' h.1 r.1
 ·rw[Nat.pow_add];exact Nat.mul_lt_mul'' h.2 r.2
theorem RL.Eg{k:Nat}{q:Rat}(h:RL k q)(r:q≠0):RL k (q⁻¹):=by
 have h0:q.num≠0:=fun e=>r (Rat.num_eq_zero.1 e)
 constructor
 ·rw[Rat.num_inv,Int.natAbs_mul,Int.natAbs_sign_of_ne_zero h0];have:=h.2
  simpa using this
 ·rw[Rat.den_inv,if_neg h0];exact h.1
theorem RL.div{k m:Nat}{p q:Rat}(h:RL k p)(r:RL m q)(t:q≠0):RL (k+m) (p / q):=by
 rw[Rat.div_def];exact h.mul (r.Eg t)
theorem RL.add{k m:Nat}{p q:Rat}(h:RL k p)(r:RL m q):RL (k+m+1) (p+q):=by
 rw[Rat.add_def'];have e:10^ (k+m+1)=10^k*10^m*10:=by rw[Nat.pow_succ,Nat.pow_add]
 refine xM (Nat.mul_ne_zero p.den_nz q.den_nz) ?_ ?_
 ·have h1:(p.num* (q.den:Int)).natAbs<10^k*10^m:=by rw[Int.natAbs_mul,Int.natAbs_natCast];exact Nat.mul_lt_mul'' h.1 r.2
  have t:(q.num* (p.den:Int)).natAbs<10^k*10^m:=by rw[Int.natAbs_mul,Int.natAbs_natCast,Nat.mul_comm];exact Nat.mul_lt_mul'' h.2 r.1
  have:=Int.natAbs_add_le (p.num* (q.den:Int)) (q.num* (p.den:Int));omega
 ·have:p.den*q.den<10^k*10^m:=Nat.mul_lt_mul'' h.2 r.2;omega
theorem RL.sub{k m:Nat}{p q:Rat}(h:RL k p)(r:RL m q):RL (k+m+1) (p-q):=by
 rw[Rat.sub_eq_add_neg];exact h.add r.neg
structure eu.Lim (m n:Nat) (D:eu) (k:Nat):Prop where
 con:∀r,r<m -> RL k (D.con r)
 cell:∀r c,r<m -> c<n -> RL k (D.cell r c)
 top:∀c,c<n -> RL k (D.top c)
 val:RL k D.val
theorem eu.Lim.pos{m n k:Nat}{D:eu}(h:D.Lim m n k):0<k:=by
 rcases Nat.eq_zero_or_pos k with h0 | h0
 ·subst h0;have:=h.val.2;have:=D.val.den_pos;omega
 ·exact h0
def count(n:Nat)(p:Nat -> Bool):Nat:=match n with
 | 0=>0
 | n+1=>count n p+if p n then 1 else 0
theorem xN{n:Nat}{p q:Nat -> Bool}(h:∀k,k<n -> p k=q k):count n p=count n q:=by
 induction n with
 | zero=>rfl
 | succ n r=>simp only[count];rw[r fun k t=>h k (by omega),h n (by omega)]
theorem count_le(n:Nat)(p:Nat -> Bool):count n p <= n:=by
 induction n with
 | zero=>exact Nat.le_refl _
 | succ n h=>simp only[count];split <;> omega
theorem Eh{n:Nat}{p:Nat -> Bool}(h:count n p=0):∀k,k<n -> p k=false:=by
 induction n with
 | zero=>intro k r;omega
 | succ n t=>
  simp only[count] at h;intro k r;by_cases e:k=n
  ·subst e;cases hp:p k
   ·rfl
   ·rw[hp] at h;simp at h
  ·exact t (by omega) k (by omega)
theorem Ei{n:Nat}{p:Nat -> Bool}(h:count n p≠0):∃k,k<n /\ p k=true:=by
 induction n with
 | zero=>exact absurd rfl h
 | succ n r=>
  simp only[count] at h;cases hp:p n
  ·rw[hp] at h;obtain⟨k,t,e⟩:=r (by simpa using h);exact⟨k,by omega,e⟩
  ·exact⟨n,by omega,hp⟩
theorem xO{n i:Nat}{p q:Nat -> Bool}(M:i<n)(h:∀k,k<n -> k≠i -> p k=q k)(C:p i=true)(E:q i=false):count n p=count n q+1:=by
 induction n with
 | zero=>omega
 | succ n G=>
  simp only[count];by_cases e:i=n
  ·subst e;rw[xN fun k r=>h k (by omega) (by omega),C,E];simp
  ·rw[G (by omega) fun k r t=>h k (by omega) t,h n (by omega) (by omega)];omega
def mM:Nat -> (Nat -> Nat) -> Nat
 | 0,_=>1
 | n+1,f=>mM n f*f n
theorem xP{n c:Nat}{f:Nat -> Nat}(r:c<n):f c ∣ mM n f:=by
 induction n with
 | zero=>omega
 | succ n h=>
  by_cases e:c=n
  ·subst e;exact Nat.dvd_mul_left _ _
  ·exact Nat.dvd_trans (h (by omega)) (Nat.dvd_mul_right _ _)
theorem Ej{n M:Nat}{f:Nat -> Nat}(h:∀c,c<n -> 0<f c /\ f c <= M):0<mM n f /\ mM n f <= M^n:=by
 induction n with
 | zero=>exact⟨Nat.one_pos,Nat.le_refl _⟩
 | succ n t=>
  have h1:=t fun c C=>h c (by omega)
  have r:=h n (by omega);exact⟨Nat.mul_pos h1.1 r.1,by rw[Nat.pow_succ];exact Nat.mul_le_mul h1.2 r.2⟩
theorem El(q:Rat):q* (q.den:Rat)=(q.num:Rat):=by
 have h:q=Rat.divInt q.num q.den:=(Rat.num_divInt_den q).symm;rw[Rat.divInt_eq_div] at h
 have t:((q.den:Int):Rat)≠0:=by
  intro e;have:(q.den:Int)=0:=by exact_mod_cast e
  have:=q.den_pos;omega
 have r:=Rat.div_mul_cancel (a:=(q.num:Rat)) t;rw[<- h] at r
 exact_mod_cast r
theorem RL.clear{k s R:Nat}{q:Rat}(h:RL k q)(t:q.den ∣ R)(h0:0<R)(r:R <= 10^s):∃z:Int,z.natAbs<10^ (k+s) /\ q* (R:Rat)=z:=by
 obtain⟨e,rfl⟩:=t;refine⟨q.num* (e:Int),?_,?_⟩
 ·have C:e <= 10^s:=Nat.le_trans (Nat.le_mul_of_pos_left _ q.den_pos) r;rw[Int.natAbs_mul,Int.natAbs_natCast,Nat.pow_add];exact Nat.lt_of_le_of_lt (Nat.mul_le_mul_left _ C) (Nat.mul_lt_mul_of_pos_right h.1 (Nat.pow_pos (by decide)))
 ·have:=El q
  push_cast
  grind
structure eu.nI (m n:Nat) (D:eu) (σ:Nat -> Nat) (τ:Nat) (d:Int) (b:Nat):Prop where
 d0:d≠0
 dl:d.natAbs<10^b
 con:∀r,r<m -> ∃z:Int,z.natAbs<10^b /\ D.con r* (σ (D.basic r):Rat)* (d:Rat)=z
 cell:∀r c,r<m -> c<n -> ∃z:Int,z.natAbs<10^b /\ D.cell r c* (σ (D.basic r):Rat)* (d:Rat)=z* (σ (D.off c):Rat)
 top:∀c,c<n -> ∃z:Int,z.natAbs<10^b /\ D.top c* (τ:Rat)* (d:Rat)=z* (σ (D.off c):Rat)
 val:∃z:Int,z.natAbs<10^b /\ D.val* (τ:Rat)* (d:Rat)=z
theorem o7{b:Nat}{x y:Int}(r:x.natAbs<10^b)(t:y.natAbs<10^b):(x*y).natAbs<10^ (2*b+1):=by
 have h:=Nat.mul_lt_mul'' r t;rw[Int.natAbs_mul,show 2*b+1=b+b+1 by omega,Nat.pow_succ,Nat.pow_add];omega
theorem qM{b:Nat}{x y z u:Int}(C:x.natAbs<10^b)(E:y.natAbs<10^b)(G:z.natAbs<10^b)(t:u.natAbs<10^b):(x*y-z*u).natAbs<10^ (2*b+1):=by
 have h:=Nat.mul_lt_mul'' C E;have M:=Nat.mul_lt_mul'' G t;have r:=Int.natAbs_sub_le (x*y) (z*u);rw[Int.natAbs_mul,Int.natAbs_mul] at r;rw[show 2*b+1=b+b+1 by omega,Nat.pow_succ,Nat.pow_add];omega
theorem xQ{a:Nat}(h:0<a):(a:Rat)≠0:=by
 intro e;have:a=0:=by exact_mod_cast e
 omega
theorem eu.nI.pivot{m n i j b:Nat}{D:eu}{σ:Nat -> Nat}{τ:Nat}{d:Int}(h:D.nI m n σ τ d b)(hσ:∀v,0<σ v)(W:i<m)(X:j<n)(hk:D.cell i j≠0):∃d',(D.pivot i j).nI m n σ τ d' (2*b+1):=by
 obtain⟨p,Y,ep⟩:=h.cell i j W X;have hd:(d:Rat)≠0:=fun e=>h.d0 (by exact_mod_cast e)
 have hs:=xQ (hσ (D.basic i));have ho:=xQ (hσ (D.off j))
 have a0:p≠0:=by
  rintro rfl;have E:D.cell i j* (σ (D.basic i):Rat)* (d:Rat)=0:=by rw[ep];simp
  rcases Rat.mul_eq_zero.1 E with E | E
  ·rcases Rat.mul_eq_zero.1 E with E | E
   ·exact hk E
   ·exact hs E
  ·exact hd E
 have a2:(p:Rat)≠0:=fun e=>a0 (by exact_mod_cast e)
 -- what stands in the pivot row
 have V:∀ (a:Rat) (z y:Rat),a* (σ (D.basic i):Rat)* (d:Rat)=z*y -> a / D.cell i j* (σ (D.off j):Rat)* (p:Rat)=z*y:=by
  intro a z y e;have T:a / D.cell i j*D.cell i j=a:=Rat.div_mul_cancel hk
  have t:a / D.cell i j* (σ (D.off j):Rat)* (p:Rat)=a / D.cell i j*D.cell i j* (σ (D.basic i):Rat)* (d:Rat):=by
   have:(σ (D.off j):Rat)* (p:Rat)=D.cell i j* (σ (D.basic i):Rat)* (d:Rat):=by rw[ep];grind
   grind
  rw[t,T,e]
 have a1:1 / D.cell i j* (σ (D.off j):Rat)* (p:Rat)=(d:Rat)* (σ (D.basic i):Rat):=V 1 d (σ (D.basic i):Rat) (by grind);refine⟨d*p,⟨Int.mul_ne_zero h.d0 a0,o7 h.dl Y,fun r U=> ?_,fun r c U R=> ?_,fun c R=> ?_,?_⟩⟩
 ·obtain⟨z,C,G⟩:=h.con i W;have T:=V (D.con i) z 1 (by rw[G];grind);simp only[eu.pivot];by_cases e:r=i
  ·subst e;rw[if_pos rfl,upd_same];refine⟨z*d,o7 C h.dl,?_⟩
   push_cast
   grind
  ·rw[if_neg e,eQ _ _ e];obtain⟨y,O,ey⟩:=h.con r U;obtain⟨x,M,Z⟩:=h.cell r j U X;refine⟨y*p-x*z,qM O Y M C,?_⟩
   push_cast
   grind
 ·simp only[eu.pivot];by_cases e:r=i
  ·subst e;rw[if_pos rfl,upd_same];by_cases t:c=j
   ·subst t;rw[upd_same,upd_same];refine⟨d*d,o7 h.dl h.dl,?_⟩
    push_cast
    grind
   ·rw[eQ _ _ t,eQ _ _ t];obtain⟨z,C,G⟩:=h.cell r c U R;have T:=V (D.cell r c) z (σ (D.off c):Rat) G;refine⟨z*d,o7 C h.dl,?_⟩
    push_cast
    grind
  ·rw[if_neg e,eQ _ _ e];obtain⟨x,M,Z⟩:=h.cell r j U X;by_cases t:c=j
   ·subst t;rw[upd_same,upd_same,upd_same];refine⟨-(x*d),by rw[Int.natAbs_neg];exact o7 M h.dl,?_⟩
    push_cast
    grind
   ·rw[eQ _ _ t,eQ _ _ t,eQ _ _ t];obtain⟨z,C,G⟩:=h.cell i c W R;have T:=V (D.cell i c) z (σ (D.off c):Rat) G;obtain⟨y,O,ey⟩:=h.cell r c U R;refine⟨y*p-x*z,qM O Y M C,?_⟩
    push_cast
    grind
 ·simp only[eu.pivot];obtain⟨x,M,Z⟩:=h.top j X;by_cases t:c=j
  ·subst t;rw[upd_same,upd_same,upd_same];refine⟨-(x*d),by rw[Int.natAbs_neg];exact o7 M h.dl,?_⟩
   push_cast
   grind
  ·rw[eQ _ _ t,eQ _ _ t,eQ _ _ t];obtain⟨z,C,G⟩:=h.cell i c W R;have T:=V (D.cell i c) z (σ (D.off c):Rat) G;obtain⟨y,O,ey⟩:=h.top c R;refine⟨y*p-x*z,qM O Y M C,?_⟩
   push_cast
   grind
 ·simp only[eu.pivot];obtain⟨x,M,Z⟩:=h.top j X;obtain⟨z,C,G⟩:=h.con i W;have T:=V (D.con i) z 1 (by rw[G];grind);obtain⟨y,O,ey⟩:=h.val;refine⟨y*p-x*z,qM O Y M C,?_⟩
  push_cast
  grind
theorem qN{b s:Nat}{q:Rat}{z e:Int}{x:Nat}(G:z.natAbs<10^b)(t:e.natAbs<10^ (b+s))(r:e≠0)(E:x <= 10^s)(h:q* (e:Rat)=z* (x:Rat)):RL (b+s) q:=by
 have:q=Rat.divInt (z* (x:Int)) e:=by
  rw[Rat.divInt_eq_div];have C:(e:Rat)≠0:=fun h=>r (by exact_mod_cast h)
  push_cast
  rw[<- h,Rat.mul_div_cancel C]
 rw[this];refine xL r ?_ t;rw[Int.natAbs_mul,Int.natAbs_natCast,Nat.pow_add];exact Nat.lt_of_le_of_lt (Nat.mul_le_mul_left _ E) (Nat.mul_lt_mul_of_pos_right G (Nat.pow_pos (by decide)))
theorem eu.nI.lim{m n b s:Nat}{D:eu}{σ:Nat -> Nat}{τ:Nat}{d:Int}(h:D.nI m n σ τ d b)(E:∀v,0<σ v /\ σ v <= 10^s)(O:0<τ /\ τ <= 10^s):D.Lim m n (b+s):=by
 have G:∀x:Nat,x <= 10^s -> ((x:Int)*d).natAbs<10^ (b+s):=fun x U=>by
  rw[Int.natAbs_mul,Int.natAbs_natCast,Nat.pow_add,Nat.mul_comm];exact Nat.lt_of_le_of_lt (Nat.mul_le_mul_left _ U) (Nat.mul_lt_mul_of_pos_right h.dl (Nat.pow_pos (by decide)))
 have M:∀x:Nat,0<x -> (x:Int)*d≠0:=fun x U=>Int.mul_ne_zero (by omega) h.d0
 have one:(1:Nat) <= 10^s:=Nat.pow_pos (by decide);refine⟨fun r T=> ?_,fun r c T R=> ?_,fun c R=> ?_,?_⟩
 ·obtain⟨z,C,t⟩:=h.con r T;exact qN (x:=1) C (G _ (E (D.basic r)).2) (M _ (E (D.basic r)).1) one (by push_cast;rw[<- t];grind)
 ·obtain⟨z,C,t⟩:=h.cell r c T R;exact qN C (G _ (E (D.basic r)).2) (M _ (E (D.basic r)).1) (E (D.off c)).2 (by push_cast;rw[<- t];grind)
 ·obtain⟨z,C,t⟩:=h.top c R;exact qN C (G _ O.2) (M _ O.1) (E (D.off c)).2 (by push_cast;rw[<- t];grind)
 ·obtain⟨z,C,t⟩:=h.val;exact qN (x:=1) C (G _ O.2) (M _ O.1) one (by push_cast;rw[<- t];grind)
theorem eu.Lim.Em{m n k:Nat}{D:eu}(Y:D.Ok m n)(h:D.Lim m n k):
  ∃ (σ:Nat -> Nat) (τ:Nat),(∀v,0<σ v /\ σ v <= 10^ (k* (n+1))) /\ (0<τ /\ τ <= 10^ (k* (n+1))) /\ D.nI m n σ τ 1 (k* (n+2)):=by
 have hk:=h.pos;have O:k* (n+2)=k+k* (n+1):=by rw[show n+2=n+1+1 by omega,Nat.mul_succ];omega
 have X:∀ (f:Nat -> Rat) (q:Rat),(∀c,c<n -> RL k (f c)) -> RL k q -> (0<mM n (fun c=>(f c).den)*q.den /\ mM n (fun c=>(f c).den)*q.den <= 10^ (k* (n+1))):=by
  intro f q Z hq;have h1:=Ej (n:=n) (M:=10^k) (f:=fun c=>(f c).den) (fun c t=>⟨(f c).den_pos,Nat.le_of_lt (Z c t).2⟩);refine⟨Nat.mul_pos h1.1 q.den_pos,?_⟩;rw[Nat.mul_succ,Nat.pow_add,Nat.pow_mul];exact Nat.mul_le_mul h1.2 (Nat.le_of_lt hq.2)
 obtain⟨R,W⟩:∃R:Nat -> Nat,R=fun r=>mM n (fun c=>(D.cell r c).den)* (D.con r).den:=⟨_,rfl⟩
 have T:∀r,r<m -> 0<R r /\ R r <= 10^ (k* (n+1)):=fun r C=>by rw[W];exact X _ _ (fun c t=>h.cell r c C t) (h.con r C)
 have U:=X D.top D.val h.top h.val
 obtain⟨σ,V⟩:∃σ:Nat -> Nat,(∀v,0<σ v /\ σ v <= 10^ (k* (n+1))) /\ (∀r,r<m -> σ (D.basic r)=R r) /\ ∀c,c<n -> σ (D.off c)=1:=by
  classical
  refine⟨fun v=>if E:∃r,r<m /\ D.basic r=v then R (Classical.choose E) else 1,fun v=> ?_,fun r C=> ?_,fun c t=> ?_⟩
  ·by_cases E:∃r,r<m /\ D.basic r=v
   ·simp only[dif_pos E];exact T _ (Classical.choose_spec E).1
   ·simp only[dif_neg E];exact⟨Nat.one_pos,Nat.pow_pos (by decide)⟩
  ·have E:∃s,s<m /\ D.basic s=D.basic r:=⟨r,C,rfl⟩
   have t:=Classical.choose_spec E;simp only[dif_pos E];rw[Y.bi _ _ t.1 C t.2]
  ·have E:¬ ∃s,s<m /\ D.basic s=D.off c:=fun⟨s,O,e⟩=>Y.ne s c O t e
   simp only[dif_neg E]
 refine⟨σ,mM n (fun c=>(D.top c).den)*D.val.den,V.1,U,⟨by decide,?_,fun r C=> ?_,fun r c C t=> ?_,fun c t=> ?_,?_⟩⟩
 ·exact Nat.one_lt_pow (by have:=Nat.mul_pos hk (show 0<n+2 by omega);omega) (by decide)
 ·obtain⟨z,G,e⟩:=(h.con r C).clear (R:=R r) (by rw[W];exact Nat.dvd_mul_left _ _) (T r C).1 (T r C).2;refine⟨z,by rw[O];exact G,?_⟩;rw[V.2.1 r C, <- e];push_cast;grind
 ·obtain⟨z,G,e⟩:=(h.cell r c C t).clear (R:=R r) (by rw[W];exact Nat.dvd_trans (xP (f:=fun c=>(D.cell r c).den) t) (Nat.dvd_mul_right _ _)) (T r C).1 (T r C).2;refine⟨z,by rw[O];exact G,?_⟩;rw[V.2.1 r C,V.2.2 c t, <- e];push_cast;grind
 ·obtain⟨z,G,e⟩:=(h.top c t).clear (Nat.dvd_trans (xP (f:=fun c=>(D.top c).den) t) (Nat.dvd_mul_right _ _)) U.1 U.2;refine⟨z,by rw[O];exact G,?_⟩;rw[V.2.2 c t, <- e];push_cast;grind
 ·obtain⟨z,G,e⟩:=h.val.clear (Nat.dvd_mul_left _ _) U.1 U.2;refine⟨z,by rw[O];exact G,?_⟩;rw[<- e];push_cast;grind
def wb:Nat -> Nat -> Nat
 | 0,b=>b
 | d+1,b=>wb d (2*b+1)
theorem En{d b c:Nat}(h:b <= c):wb d b <= wb d c:=by
 induction d generalizing b c with
 | zero=>exact h
 | succ d r=>exact r (by omega)
theorem Eo{d e b:Nat}(h:d <= e):wb d b <= wb e b:=by
 induction e with
 | zero=>rw[show d=0 by omega];exact Nat.le_refl _
 | succ e t=>
  by_cases r:d=e+1
  ·rw[r];exact Nat.le_refl _
  ·exact Nat.le_trans (t (by omega)) (En (by omega))
def wide(m n k:Nat):Nat:=wb (min m n) (k* (n+2))+k* (n+1)
theorem Ep{m n k:Nat}{D E:eu}(V:D.Ok m n)(T:E.Ok m n)(hs:∀x g f,D.Sol m n x g f↔E.Sol m n x g f)(Y:D.Lim m n k)(a0:∀c,c<n -> ∃d,d<n /\ D.off d=E.off c):E.Lim m n k:=by
 have Z:∀r,r<m -> ∃s,s<m /\ D.basic s=E.basic r:=by
  intro r M
  rcases V.all _ (T.bl r M) with h | ⟨d,G,e⟩
  ·exact h
  ·exfalso
   -- all of D's columns stand outside at E: n of n
   have ae:∀ (C:Nat) (f:Nat -> Nat),(∀c,c<C -> f c<C) -> (∀c c',c<C -> c'<C -> f c=f c' -> c=c') -> ∀d,d<C -> ∃c,c<C /\ f c=d:=by
    intro C
    induction C with
    | zero=>intro f _ _ d G;omega
    | succ C ih=>
     intro f U X d G;by_cases a4:f C=d
     ·exact⟨C,by omega,a4⟩
     -- strike the place of f n'
     have h1:=ih (fun c=>if f c=C then f C else f c) (fun c t=>by
      have:=U c (by omega);have:=U C (by omega);have:f c≠f C:=fun e=>by have:=X c C (by omega) (by omega) e;omega
      split <;> omega) (fun c c' t W e=>by
      have a1:f c≠f C:=fun e=>by have:=X c C (by omega) (by omega) e;omega
      have a2:f c'≠f C:=fun e=>by have:=X c' C (by omega) (by omega) e;omega
      split at e <;> split at e
      ·exact X c c' (by omega) (by omega) (by omega)
      ·exact absurd e.symm a2
      ·exact absurd e a1
      ·exact X c c' (by omega) (by omega) e)
     by_cases af:d=C
     ·-- f n' is not d = n', so it is below: some c has its place
      have ab:f C<C:=by have:=U C (by omega);omega
      obtain⟨c,t,e⟩:=h1 (f C) ab;split at e
      ·exact⟨c,by omega,by omega⟩
      ·have:=X c C (by omega) (by omega) e;omega
     ·obtain⟨c,t,e⟩:=h1 d (by omega);split at e
      ·exact absurd e a4
      ·exact⟨c,by omega,e⟩
   have aa:∃f:Nat -> Nat,∀c,c<n -> f c<n /\ D.off (f c)=E.off c:=by
    refine⟨fun c=>if h:c<n then Classical.choose (a0 c h) else 0,fun c t=> ?_⟩;simp only[dif_pos t];exact Classical.choose_spec (a0 c t)
   obtain⟨f,U⟩:=aa;obtain⟨c,t,ec⟩:=ae n f (fun c t=>(U c t).1) (fun c c' t W e=>T.oi c c' t W (by rw[<- (U c t).2, <- (U c' W).2,e])) d G;exact T.ne r c M t (by rw[<- (U c t).2,ec,e])
 have z:∀a:Nat -> Rat,sumTo n (fun c=>a c*0)=0:=fun a=>iF fun c _=>by grind
 -- the basic point
 obtain⟨x,hx,ho,hb⟩:=E.lQ T (fun _=>0) 1;have a5:=(hs _ _ _).2 hx
 have a6:∀c,c<n -> x (D.off c)=0:=by
  intro c t
  rcases T.all _ (V.ol c t) with ⟨r,M,e⟩ | ⟨d,G,e⟩
  ·obtain⟨s,O,e'⟩:=Z r M;exact absurd (e'.trans e) (V.ne s c O t)
  ·rw[<- e,ho d G]
 -- the direction of a column
 have a3:∀c,c<n -> ∀d,d<n -> D.off d=E.off c -> (∀r s,r<m -> s<m -> D.basic s=E.basic r -> E.cell r c=D.cell s d) /\ E.top c=D.top d:=by
  intro c t d G e;obtain⟨y,hy,ac,a9⟩:=E.lQ T (fun k=>if k=c then 1 else 0) 0
  have one:∀a:Nat -> Rat,sumTo n (fun k=>a k* (if k=c then 1 else 0))=a c:=fun a=>by
   rw[kM t (fun k _ R=>by rw[if_neg R];grind),if_pos rfl];grind
  have a7:=(hs _ _ _).2 hy
  have ad:∀k,k<n -> y (D.off k)=if k=d then 1 else 0:=by
   intro k R
   rcases T.all _ (V.ol k R) with ⟨r,M,e'⟩ | ⟨c',W,e'⟩
   ·obtain⟨s,O,e2⟩:=Z r M;exact absurd (e2.trans e') (V.ne s k O R)
   ·rw[<- e',ac c' W];by_cases h1:c'=c
    ·subst h1;have:k=d:=V.oi k d R G (by rw[e,e']);rw[if_pos rfl,if_pos this]
    ·have:k≠d:=by rintro rfl;exact h1 (T.oi c' c W t (by rw[e',e]))
     rw[if_neg h1,if_neg this]
  have a8:∀a:Nat -> Rat,sumTo n (fun k=>a k*y (D.off k))=a d:=fun a=>by
   rw[sumTo_congr (g:=fun k=>a k* (if k=d then 1 else 0)) fun k R=>by rw[ad k R],kM G (fun k _ R=>by rw[if_neg R];grind),if_pos rfl];grind
  refine⟨fun r s M O e2=> ?_,?_⟩
  ·have h1:=a7.1 s O;unfold eu.Row at h1;rw[a8,e2,a9 r M,one] at h1;grind
  ·have h1:=a7.2;unfold eu.Top at h1;rw[a8,one] at h1;grind
 refine⟨fun r M=> ?_,fun r c M t=> ?_,fun c t=> ?_,?_⟩
 ·obtain⟨s,O,e⟩:=Z r M;have h1:=a5.1 s O;unfold eu.Row at h1;rw[iF (fun c t=>by rw[a6 c t];grind),e,hb r M,z] at h1;have:E.con r=D.con s:=by grind
  rw[this];exact Y.con s O
 ·obtain⟨d,G,e⟩:=a0 c t;obtain⟨s,O,e'⟩:=Z r M;rw[(a3 c t d G e).1 r s M O e'];exact Y.cell s d O G
 ·obtain⟨d,G,e⟩:=a0 c t;rw[(a3 c t d G e).2];exact Y.top d G
 ·have h1:=a5.2;unfold eu.Top at h1;rw[z,iF (fun c t=>by rw[a6 c t];grind)] at h1;have:E.val=D.val:=by grind
  rw[this];exact Y.val
def eu.kS(n:Nat)(D:eu)(v:Nat):Bool:=decide (∃c,c<n /\ D.off c=v)
theorem eu.o8{n:Nat}{D:eu}{v:Nat}:D.kS n v=true↔∃c,c<n /\ D.off c=v:=by unfold eu.kS;rw[decide_eq_true_iff]
theorem near{m n s:Nat}{σ:Nat -> Nat}{τ:Nat}(hσ:∀v,0<σ v /\ σ v <= 10^s)(hτ:0<τ /\ τ <= 10^s)(d:Nat):∀ {D E:eu} {z:Int} {b:Nat},D.Ok m n -> E.Ok m n -> (∀x g f,D.Sol m n x g f↔E.Sol m n x g f) -> D.nI m n σ τ z b -> count n (fun c=> !(D.kS n (E.off c)))=d -> E.Lim m n (wb d b+s):=by
 induction d with
 | zero=>
  intro D E z b O G U W Y;refine Ep O G U (W.lim hσ hτ) fun c C=> ?_
  have h1:=Eh Y c C;exact eu.o8.1 (by simpa using h1)
 | succ d ih=>
  intro D E z b O G U W Y
  -- a variable l that stands outside at E and is basic at D
  obtain⟨r,R,h0⟩:=Ei (n:=n) (p:=fun c=> !(D.kS n (E.off c))) (by omega);have X:¬ ∃c,c<n /\ D.off c=E.off r:=fun h=>by rw[eu.o8.2 h] at h0;exact absurd h0 (by decide)
  obtain⟨i,T,V⟩:∃i,i<m /\ D.basic i=E.off r:=by
   rcases O.all _ (G.ol r R) with h | h
   ·exact h
   ·exact absurd h X
  -- a column of D that is basic at E, with a cell in row i
  obtain⟨j,M,a3,Z⟩:∃j,j<n /\ (∀c,c<n -> E.off c≠D.off j) /\ D.cell i j≠0:=by
   apply Classical.byContradiction;intro a4;have a5:∀j,j<n -> (∀c,c<n -> E.off c≠D.off j) -> D.cell i j=0:=fun j M h=>Classical.byContradiction fun h'=>a4 ⟨j,M,h,h'⟩
   -- the direction of E's column c0 contradicts row i
   obtain⟨y,hy,ho,hb⟩:=E.lQ G (fun k=>if k=r then 1 else 0) 0;have a0:=((U _ _ _).2 hy).1 i T;unfold eu.Row at a0
   rw[V,ho r R,if_pos rfl,iF (fun c C=>by
    by_cases h:∃c',c'<n /\ E.off c'=D.off c
    ·obtain⟨c',t,e⟩:=h;rw[<- e,ho c' t,if_neg]
     ·grind
     ·rintro rfl;exact X ⟨c,C,e.symm⟩
    ·rw[a5 c C (fun c' t e=>h ⟨c',t,e⟩)];grind)] at a0
   grind
  have a6:=O.pivot T M;have a7:∀x g f,(D.pivot i j).Sol m n x g f↔E.Sol m n x g f:=fun x g f=>(eu.tV T M Z).trans (U x g f)
  obtain⟨z',a1⟩:=W.pivot (fun v=>(hσ v).1) T M Z;refine ih a6 G a7 a1 ?_;have a8:=xO (n:=n) (i:=r) (p:=fun c=> !(D.kS n (E.off c))) (q:=fun c=> !((D.pivot i j).kS n (E.off c))) R ?_ h0 ?_
  ·omega
  ·intro c C a2;congr 1;rw[Bool.eq_iff_iff,eu.o8,eu.o8];simp only[eu.pivot];constructor
   ·rintro⟨c',t,e⟩;refine⟨c',t,?_⟩;rw[eQ]
    ·exact e
    ·rintro rfl;exact a3 c C e.symm
   ·rintro⟨c',t,e⟩;by_cases e':c'=j
    ·subst e';rw[upd_same,V] at e;exact absurd (G.oi r c R C e).symm a2
    ·rw[eQ _ _ e'] at e;exact⟨c',t,e⟩
  ·skip
   rw[Bool.not_eq_false',eu.o8];exact⟨j,M,by simp only[eu.pivot];rw[upd_same,V]⟩
theorem Er{m:Nat}{p:Nat -> Bool}{f:Nat -> Nat}:∀ {n:Nat},(∀c,c<n -> p c=true -> f c<m) -> (∀c d,c<n -> d<n -> p c=true -> p d=true -> f c=f d -> c=d) ->
  count n p <= count m (fun r=>decide (∃c,c<n /\ p c=true /\ f c=r)):=by
 intro n
 induction n with
 | zero=>intro _ _;exact Nat.zero_le _
 | succ n M=>
  intro h1 C;have E:=M (fun c t=>h1 c (by omega)) (fun c d t O=>C c d (by omega) (by omega));simp only[count];cases hp:p n
  ·rw[xN (n:=m) (p:=fun r=>decide (∃c,c<n+1 /\ p c=true /\ f c=r)) (q:=fun r=>decide (∃c,c<n /\ p c=true /\ f c=r))]
   ·simpa using E
   ·intro r _;rw[decide_eq_decide];constructor
    ·rintro⟨c,t,h,e⟩;have:c≠n:=by rintro rfl;rw[hp] at h;cases h
     exact⟨c,by omega,h,e⟩
    ·rintro⟨c,t,h,e⟩;exact⟨c,by omega,h,e⟩
  ·rw[xO (n:=m) (i:=f n) (p:=fun r=>decide (∃c,c<n+1 /\ p c=true /\ f c=r)) (q:=fun r=>decide (∃c,c<n /\ p c=true /\ f c=r)) (h1 n (by omega) hp)]
   ·simpa using E
   ·intro r _ G;rw[decide_eq_decide];constructor
    ·rintro⟨c,t,h,e⟩;have:c≠n:=by rintro rfl;exact G e.symm
     exact⟨c,by omega,h,e⟩
    ·rintro⟨c,t,h,e⟩;exact⟨c,by omega,h,e⟩
   ·rw[decide_eq_true_iff];exact⟨n,by omega,hp,rfl⟩
   ·rw[decide_eq_false_iff_not];rintro⟨c,t,h,e⟩;have:=C c n (by omega) (by omega) h hp e;omega
theorem xR{m n:Nat}{D E:eu}{k:Nat}(M:D.Ok m n)(O:E.Ok m n)(hs:∀x g f,D.Sol m n x g f↔E.Sol m n x g f)(Z:D.Lim m n k):E.Lim m n (wide m n k):=by
 obtain⟨σ,τ,hσ,hτ,X⟩:=Z.Em M;have h:=near hσ hτ _ M O hs X rfl
 have h1:count n (fun c=> !(D.kS n (E.off c))) <= m:=by
  have Y:∃f:Nat -> Nat,∀c,c<n -> (!(D.kS n (E.off c)))=true -> f c<m /\ D.basic (f c)=E.off c:=by
   have W:∀c,c<n -> (!(D.kS n (E.off c)))=true -> ∃r,r<m /\ D.basic r=E.off c:=by
    intro c t C
    rcases M.all _ (O.ol c t) with h | h
    ·exact h
    ·rw[eu.o8.2 h] at C;cases C
   refine⟨fun c=>if t:c<n /\ (!(D.kS n (E.off c)))=true then Classical.choose (W c t.1 t.2) else 0,fun c t C=> ?_⟩;simp only[dif_pos (And.intro t C)];exact Classical.choose_spec (W c t C)
  obtain⟨f,R⟩:=Y;refine Nat.le_trans (Er (m:=m) (f:=f) (fun c t T=>(R c t T).1) (fun c d t V T a0 e=> ?_)) (count_le _ _);exact O.oi c d t V (by rw[<- (R c t T).2, <- (R d V a0).2,e])
 have G:=Nat.add_le_add_right (Eo (b:=k* (n+2)) (Nat.le_min.2 ⟨h1,count_le n (fun c=> !(D.kS n (E.off c)))⟩)) (k* (n+1));exact⟨fun r U=>(h.con r U).mono G,fun r c U t=>(h.cell r c U t).mono G,fun c t=>(h.top c t).mono G,h.val.mono G⟩
end Go.Proofs.YtokagbahdkfagaaGreatDoor.Lp
