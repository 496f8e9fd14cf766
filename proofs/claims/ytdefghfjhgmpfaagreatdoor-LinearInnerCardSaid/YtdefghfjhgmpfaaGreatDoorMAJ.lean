/- Parts of this proof: Dict. -/
namespace Go.Proofs.YtdefghfjhgmpfaaGreatDoor.Lp
def sumTo:Nat -> (Nat -> Rat) -> Rat
 | 0,_=>0
 | n+1,f=>sumTo n f+f n
theorem sumTo_congr{n:Nat}{f g:Nat -> Rat}(h:∀c,c<n -> f c=g c):sumTo n f=sumTo n g:=by
 induction n with
 | zero=>rfl
 | succ n t=>rw[sumTo,sumTo,t (fun c E=>h c (by omega)),h n (by omega)]
theorem iX{n:Nat}{f:Nat -> Rat}(h:∀c,c<n -> f c=0):sumTo n f=0:=by
 induction n with
 | zero=>rfl
 | succ n t=>rw[sumTo,t (fun c E=>h c (by omega)),h n (by omega)];grind
theorem yB(n:Nat)(f g:Nat -> Rat):sumTo n (fun c=>f c+g c)=sumTo n f+sumTo n g:=by
 induction n with
 | zero=>simp only[sumTo];grind
 | succ n h=>simp only[sumTo];rw[h];grind
theorem mR(n:Nat)(a:Rat)(f:Nat -> Rat):sumTo n (fun c=>a*f c)=a*sumTo n f:=by
 induction n with
 | zero=>simp only[sumTo];grind
 | succ n h=>simp only[sumTo];rw[h];grind
theorem yC(n:Nat)(f g:Nat -> Rat):sumTo n (fun c=>f c-g c)=sumTo n f-sumTo n g:=by
 induction n with
 | zero=>simp only[sumTo];grind
 | succ n h=>simp only[sumTo];rw[h];grind
theorem rZ{n:Nat}{f:Nat -> Rat}(h:∀c,c<n -> 0 <= f c):0 <= sumTo n f:=by
 induction n with
 | zero=>simp[sumTo]
 | succ n t=>have:=t (fun c E=>h c (by omega));have:=h n (by omega);simp only[sumTo];grind
theorem F8{n j:Nat}{f:Nat -> Rat}(M:j<n)(h:∀c,c<n -> 0 <= f c)(O:0<f j):0<sumTo n f:=by
 induction n with
 | zero=>omega
 | succ n F=>
  simp only[sumTo];have G:=h n (by omega);by_cases E:j=n
  ·subst E;have h1:=rZ (fun c (t:c<j)=>h c (by omega));grind
  ·have:=F (by omega) (fun c t=>h c (by omega));grind
def jg(n j:Nat)(f:Nat -> Rat):Rat:=sumTo n (fun c=>if c=j then 0 else f c)
theorem uV{n j:Nat}{f g:Nat -> Rat}(h:∀c,c<n -> c≠j -> f c=g c):jg n j f=jg n j g:=
 sumTo_congr fun c t=>by by_cases e:c=j <;> simp[e];exact h c t e
theorem oW{n j:Nat}(f:Nat -> Rat)(F:j<n):sumTo n f=jg n j f+f j:=by
 unfold jg
 induction n with
 | zero=>omega
 | succ n t=>
  simp only[sumTo];by_cases h:j=n
  ·subst h;rw[if_pos rfl,sumTo_congr (f:=fun c=>if c=j then 0 else f c) (g:=f) (fun c E=>if_neg (by omega))];grind
  ·rw[t (by omega),if_neg (by omega)];grind
theorem F9(n j:Nat)(f g:Nat -> Rat)(a:Rat):jg n j (fun c=>f c-a*g c)=jg n j f-a*jg n j g:=by
 unfold jg;rw[<- mR, <- yC];refine sumTo_congr fun c _=> ?_
 by_cases e:c=j
 ·simp only[if_pos e];grind
 ·simp only[if_neg e]
theorem Fa(n j:Nat)(f:Nat -> Rat)(a:Rat):jg n j (fun c=>a*f c)=a*jg n j f:=by
 unfold jg;rw[<- mR];refine sumTo_congr fun c _=> ?_
 by_cases e:c=j
 ·simp only[if_pos e];grind
 ·simp only[if_neg e]
theorem kU{n j:Nat}{f:Nat -> Rat}(t:j<n)(h:∀c,c<n -> c≠j -> f c=0):sumTo n f=f j:=by
 rw[oW f t,uV (g:=fun _=>0) h];unfold jg;rw[iX (by intro c _;simp)];grind
theorem yD(n m:Nat)(f:Nat -> Nat -> Rat):sumTo n (fun i=>sumTo m (fun j=>f i j))=sumTo m (fun j=>sumTo n (fun i=>f i j)):=by
 induction n with
 | zero=>simp only[sumTo];exact(iX (fun _ _=>rfl)).symm
 | succ n h=>simp only[sumTo];rw[h,yB]
structure eu where
 basic:Nat -> Nat
 off:Nat -> Nat
 con:Nat -> Rat
 cell:Nat -> Nat -> Rat
 top:Nat -> Rat
 val:Rat
def upd{α:Type}(f:Nat -> α)(i:Nat)(x:α):Nat -> α:=fun k=>if k=i then x else f k
theorem upd_same{α:Type}(f:Nat -> α)(i:Nat)(x:α):upd f i x i=x:=if_pos rfl
theorem eT{α:Type}(f:Nat -> α){i k:Nat}(x:α)(h:k≠i):upd f i x k=f k:=if_neg h
def eu.pivot(D:eu)(i j:Nat):eu where
 basic:=upd D.basic i (D.off j)
 off:=upd D.off j (D.basic i)
 con:=fun r=>if r=i then D.con i / D.cell i j else D.con r-D.cell r j* (D.con i / D.cell i j)
 cell:=fun r c=>if r=i then upd (D.cell i) j 1 c / D.cell i j else upd (D.cell r) j 0 c-D.cell r j* (upd (D.cell i) j 1 c / D.cell i j)
 top:=fun c=>upd D.top j 0 c-D.top j* (upd (D.cell i) j 1 c / D.cell i j)
 val:=D.val-D.top j* (D.con i / D.cell i j)
def eu.Row(n:Nat)(D:eu)(x:Nat -> Rat)(g:Rat)(r:Nat):Prop:=x (D.basic r)=D.con r*g-sumTo n (fun c=>D.cell r c*x (D.off c))
def eu.Top(n:Nat)(D:eu)(x:Nat -> Rat)(g f:Rat):Prop:=f=D.val*g-sumTo n (fun c=>D.top c*x (D.off c))
def eu.Sol(m n:Nat)(D:eu)(x:Nat -> Rat)(g f:Rat):Prop:=(∀r,r<m -> D.Row n x g r) /\ D.Top n x g f
structure eu.Ok (m n:Nat) (D:eu):Prop where
 bi:∀r s,r<m -> s<m -> D.basic r=D.basic s -> r=s
 oi:∀c d,c<n -> d<n -> D.off c=D.off d -> c=d
 ne:∀r c,r<m -> c<n -> D.basic r≠D.off c
 bl:∀r,r<m -> D.basic r<n+m
 ol:∀c,c<n -> D.off c<n+m
 all:∀v,v<n+m -> (∃r,r<m /\ D.basic r=v) \/ (∃c,c<n /\ D.off c=v)
theorem eu.Fb(D:eu)(i j:Nat)(F:D.cell i j≠0):(D.pivot i j).pivot i j=D:=by
 have O:(D.pivot i j).cell i j=1 / D.cell i j:=by simp[eu.pivot,upd]
 have R:(1 / D.cell i j)≠0:=by
  intro h;have:D.cell i j* (1 / D.cell i j)=0:=by rw[h];grind
  grind
 unfold eu.pivot
 rcases D with ⟨b,o,M,G,t,v⟩
 simp only[upd_same];simp only at F;congr 1
 ·funext r;by_cases h:r=i <;> simp[upd,h]
 ·funext r;by_cases h:r=j <;> simp[upd,h]
 ·funext r;by_cases h:r=i
  ·subst h;simp;grind
  ·simp[h];grind
 ·funext r c;by_cases h:r=i
  ·subst h;by_cases E:c=j
   ·subst E;simp[upd];grind
   ·simp[upd,E];grind
  ·by_cases E:c=j
   ·subst E;simp[upd,h];grind
   ·simp[upd,h,E];grind
 ·funext c;by_cases E:c=j
  ·subst E;simp[upd];grind
  ·simp[upd,E];grind
 ·simp;grind
theorem eu.Ok.pivot{m n i j:Nat}{D:eu}(h:D.Ok m n)(F:i<m)(G:j<n):(D.pivot i j).Ok m n:=by
 have X:=h.ne;refine⟨?_,?_,?_,?_,?_,?_⟩
 ·intro r s E T;simp only[eu.pivot,upd];split <;> split
  ·intro _;omega
  ·intro e;exact absurd e.symm (h.ne s j T G)
  ·intro e;exact absurd e (h.ne r j E G)
  ·exact h.bi r s E T
 ·intro c d t O;simp only[eu.pivot,upd];split <;> split
  ·intro _;omega
  ·intro e;exact absurd e (h.ne i d F O)
  ·intro e;exact absurd e.symm (h.ne i c F t)
  ·exact h.oi c d t O
 ·intro r c E t;simp only[eu.pivot,upd];split <;> split
  ·exact fun e=>h.ne i j F G e.symm
  ·intro e;have:=h.oi j c G t e;omega
  ·intro e;have:=h.bi r i E F e;omega
  ·exact h.ne r c E t
 ·intro r E;simp only[eu.pivot,upd];split
  ·exact h.ol j G
  ·exact h.bl r E
 ·intro c t;simp only[eu.pivot,upd];split
  ·exact h.bl i F
  ·exact h.ol c t
 ·intro v U;simp only[eu.pivot,upd]
  rcases h.all v U with ⟨r,E,e⟩ | ⟨c,t,e⟩
  ·by_cases R:r=i
   ·exact .inr ⟨j,G,by rw[if_pos rfl, <- R];exact e⟩
   ·exact .inl ⟨r,E,by rw[if_neg R];exact e⟩
  ·by_cases M:c=j
   ·exact .inl ⟨i,F,by rw[if_pos rfl, <- M];exact e⟩
   ·exact .inr ⟨c,t,by rw[if_neg M];exact e⟩
theorem eu.Sol.pivot{m n i j:Nat}{D:eu}{x:Nat -> Rat}{g f:Rat}(h:D.Sol m n x g f)(Y:i<m)(E:j<n)(Z:D.cell i j≠0):(D.pivot i j).Sol m n x g f:=by
 obtain⟨T,U⟩:=h;have G:=T i Y;unfold eu.Row at G;rw[oW _ E] at G;obtain⟨k,F⟩:∃k,k=D.cell i j:=⟨_,rfl⟩
 obtain⟨S,M⟩:∃S,S=jg n j (fun c=>D.cell i c*x (D.off c)):=⟨_,rfl⟩
 rw[<- M, <- F] at G
 -- the sum of a row less a multiple of the new row
 have X:∀ (a:Rat) (f:Nat -> Rat),sumTo n (fun c=>(upd f j 0 c-a* (upd (D.cell i) j 1 c / k))*x (upd D.off j (D.basic i) c))=jg n j (fun c=>f c*x (D.off c))-a / k*S-a / k*x (D.basic i):=by
  intro a f;rw[oW _ E,M, <- F9]
  have e:jg n j (fun c=>(upd f j 0 c-a* (upd (D.cell i) j 1 c / k))*x (upd D.off j (D.basic i) c))=jg n j (fun c=>f c*x (D.off c)-a / k* (D.cell i c*x (D.off c))):=
   uV fun c _ t=>by rw[eT _ _ t,eT _ _ t,eT _ _ t];grind
  rw[e,upd_same,upd_same,upd_same];grind
 rw[<- F] at Z;refine⟨fun r a0=> ?_,?_⟩
 ·unfold eu.Row;simp only[eu.pivot];by_cases O:r=i
  ·subst O;simp only[if_true,upd_same];rw[<- F]
   have e:sumTo n (fun c=>upd (D.cell r) j 1 c / k*x (upd D.off j (D.basic r) c))=1 / k*S+1 / k*x (D.basic r):=by
    rw[oW _ E,M, <- Fa]
    have e:jg n j (fun c=>upd (D.cell r) j 1 c / k*x (upd D.off j (D.basic r) c))=jg n j (fun c=>1 / k* (D.cell r c*x (D.off c))):=
     uV fun c _ t=>by rw[eT _ _ t,eT _ _ t];grind
    rw[e,upd_same,upd_same]
   rw[e];grind
  ·rw[eT _ _ O];simp only[if_neg O];rw[<- F,X];have R:=T r a0;unfold eu.Row at R;rw[oW _ E] at R;grind
 ·unfold eu.Top;simp only[eu.pivot];rw[<- F,X];unfold eu.Top at U;rw[oW _ E] at U;grind
theorem eu.uW{m n i j:Nat}{D:eu}{x:Nat -> Rat}{g f:Rat}(t:i<m)(E:j<n)(F:D.cell i j≠0):(D.pivot i j).Sol m n x g f↔D.Sol m n x g f:=by
 constructor
 ·intro h
  have e:(D.pivot i j).cell i j≠0:=by
   simp only[eu.pivot,if_true,upd_same];intro h0;have:D.cell i j* (1 / D.cell i j)=0:=by rw[h0];grind
   grind
  have:=h.pivot t E e
  rwa [D.Fb i j F] at this
 ·exact fun h=>h.pivot t E F
def qD(n k:Nat)(D E:eu):Prop:=∀v,v<n \/ k<v -> ((∃c,c<n /\ D.off c=v)↔(∃c,c<n /\ E.off c=v))
def eu.assign(m n:Nat)(D:eu)(a b:Nat -> Rat)(v:Nat):Rat:=sumTo m (fun r=>if D.basic r=v then a r else 0)+sumTo n (fun c=>if D.off c=v then b c else 0)
theorem eu.Fe{m n:Nat}{D:eu}(h:D.Ok m n)(a b:Nat -> Rat){r:Nat}(t:r<m):D.assign m n a b (D.basic r)=a r:=by
 unfold eu.assign;rw[kU t (fun s G F=>if_neg fun e=>F (h.bi s r G t e)),iX (fun c E=>if_neg fun e=>h.ne r c t E e.symm),if_pos rfl];grind
theorem eu.Ff{m n:Nat}{D:eu}(h:D.Ok m n)(a b:Nat -> Rat){c:Nat}(t:c<n):D.assign m n a b (D.off c)=b c:=by
 unfold eu.assign;rw[kU t (fun d E F=>if_neg fun e=>F (h.oi d c E t e)),iX (fun r G=>if_neg fun e=>h.ne r c G t e),if_pos rfl];grind
theorem eu.lS{m n:Nat}{D:eu}(h:D.Ok m n)(b:Nat -> Rat)(g:Rat):
  ∃x,D.Sol m n x g (D.val*g-sumTo n (fun c=>D.top c*b c)) /\ (∀c,c<n -> x (D.off c)=b c) /\ ∀r,r<m -> x (D.basic r)=D.con r*g-sumTo n (fun c=>D.cell r c*b c):=by
 obtain⟨a,M⟩:∃a:Nat -> Rat,a=fun r=>D.con r*g-sumTo n (fun c=>D.cell r c*b c):=⟨_,rfl⟩
 have E:∀c,c<n -> D.assign m n a b (D.off c)=b c:=fun c t=>D.Ff h a b t
 have G:∀r,r<m -> D.assign m n a b (D.basic r)=D.con r*g-sumTo n (fun c=>D.cell r c*b c):=fun r F=>(D.Fe h a b F).trans (by rw[M])
 refine⟨D.assign m n a b,⟨fun r F=> ?_,?_⟩,E,G⟩
 ·unfold eu.Row;rw[G r F,sumTo_congr (f:=fun c=>D.cell r c*D.assign m n a b (D.off c)) fun c t=>by rw[E c t]]
 ·unfold eu.Top;rw[sumTo_congr (f:=fun c=>D.top c*D.assign m n a b (D.off c)) fun c t=>by rw[E c t]]
def eu.kV(m n:Nat)(D:eu)(k:Nat):Prop:=(∀r,r<m -> n <= D.basic r -> D.basic r<k -> 0 <= D.con r) /\ (∀c,c<n -> n <= D.off c -> D.off c<k -> 0 <= D.top c)
inductive eu.kr (m n:Nat) (D:eu) (i j:Nat):Prop
 | row:i<m -> j<n -> n <= D.basic i -> D.con i<0 -> D.kV m n (D.basic i) -> n <= D.off j -> D.cell i j<0 -> (∀c,c<n -> n <= D.off c -> D.off c<D.off j -> 0 <= D.cell i c) -> eu.kr m n D i j
 | col:i<m -> j<n -> n <= D.off j -> D.top j<0 -> D.kV m n (D.off j) -> n <= D.basic i -> 0<D.cell i j -> (∀r,r<m -> n <= D.basic r -> D.basic r<D.basic i -> D.cell r j <= 0) -> eu.kr m n D i j
theorem eu.kr.lt{m n i j:Nat}{D:eu}(h:D.kr m n i j):i<m /\ j<n /\ D.cell i j≠0 /\ n <= D.basic i /\ n <= D.off j:=by
 cases h with
 | row h1 E F M O G t R=>exact⟨h1,E,by intro e;rw[e] at t;exact absurd t (Rat.lt_irrefl),F,G⟩
 | col h1 E F M O G t R=>exact⟨h1,E,by intro e;rw[e] at t;exact absurd t (Rat.lt_irrefl),G,F⟩
theorem yE{n k:Nat}{D E:eu}(U:qD n k D E){a x:Nat -> Rat}(M:∀c,c<n -> n <= D.off c -> D.off c<k -> 0 <= a c)(X:∀v,n <= v -> v<k -> 0 <= x v)
  (h0:∀c,c<n -> E.off c<n \/ k<E.off c -> x (E.off c)=0) {j:Nat} (F:j<n) (G:D.off j=k) (T:0<a j*x k) (R:∀c d,c<n -> d<n -> D.off c=D.off d -> c=d):0<sumTo n (fun c=>a c*x (D.off c)):=by
 refine F8 F (fun c h=> ?_) (by rw[G];exact T);by_cases h1:D.off c<n \/ k<D.off c
 ·obtain⟨d,O,e⟩:=(U _ h1).1 ⟨c,h,rfl⟩;rw[<- e,h0 d O (by rw[e];exact h1)];grind
 ·by_cases t:D.off c=k
  ·have:c=j:=R c j h F (by rw[t,G]);subst this;rw[t];grind
  ·exact Rat.mul_nonneg (M c h (by omega) (by omega)) (X _ (by omega) (by omega))
theorem Fg{n k:Nat}{D E:eu}(M:qD n k D E){a x:Nat -> Rat}(t:∀c,c<n -> n <= D.off c -> D.off c<k -> 0 <= a c)(O:∀v,n <= v -> v<k -> 0 <= x v)
  (h0:∀c,c<n -> E.off c<n \/ k<E.off c -> x (E.off c)=0) (G:∀c,c<n -> D.off c≠k):0 <= sumTo n (fun c=>a c*x (D.off c)):=by
 refine rZ (fun c h=> ?_);by_cases h1:D.off c<n \/ k<D.off c
 ·obtain⟨d,F,e⟩:=(M _ h1).1 ⟨c,h,rfl⟩;rw[<- e,h0 d F (by rw[e];exact h1)];grind
 ·have R:=G c h;exact Rat.mul_nonneg (t c h (by omega) (by omega)) (O _ (by omega) (by omega))
theorem yF{m n k:Nat}{D E:eu}(hD:D.Ok m n)(R:E.Ok m n)(a4:∀x g f,D.Sol m n x g f↔E.Sol m n x g f)(hs:qD n k D E)
  {Z j1 T j2:Nat} (c1:D.kr m n Z j1) (e1:D.off j1=k) (l1:D.basic Z<k) (c2:E.kr m n T j2) (U:E.basic T=k) (l2:E.off j2<k):False:=by
 have a8:qD n k E D:=fun v hv=>(hs v hv).symm
 obtain⟨ad,ae,_,ah,aj⟩:=c1.lt;obtain⟨a3,af,_,ai,ak⟩:=c2.lt;have kE:∀c,c<n -> E.off c≠k:=fun c h e=>R.ne T c a3 h (by rw[U,e])
 -- what stands at the leaving dictionary
 have lhs:∃ (x:Nat -> Rat) (g f:Rat),E.Sol m n x g f /\ (∀v,n <= v -> v<k -> v<n+m -> 0 <= x v) /\ (∀c,c<n -> E.off c<n \/ k<E.off c -> x (E.off c)=0) /\ x k<0 /\
   ((g=1 /\ f=E.val /\ E.kV m n k) \/ (g=0 /\ 0<f)):=by
  cases c2 with
  | row h1 O h3 h4 G h6 h7 X=>
   obtain⟨x,Y,F,M⟩:=E.lS R (fun _=>0) 1;have z:∀a:Nat -> Rat,sumTo n (fun c=>a c*0)=0:=fun a=>iX fun c _=>by grind
   refine⟨x,1,_,Y,fun v a9 aa a1=> ?_,fun c h _=>F c h,?_, .inl ⟨rfl,by rw[z];grind,by rw[<- U];exact G⟩⟩
   ·rcases R.all v a1 with ⟨r,t,e⟩ | ⟨c,h,e⟩
    ·rw[<- e,M r t,z];have:=G.1 r t (by omega) (by omega);grind
    ·rw[<- e,F c h];exact Rat.le_refl
   ·rw[<- U,M T h1,z];grind
  | col h1 O h3 h4 G h6 h7 X=>
   obtain⟨x,Y,F,M⟩:=E.lS R (fun c=>if c=j2 then 1 else 0) 0
   have z:∀a:Nat -> Rat,sumTo n (fun c=>a c* (if c=j2 then 1 else 0))=a j2:=fun a=>by
    rw[kU O (fun c _ h=>by rw[if_neg h];grind),if_pos rfl];grind
   refine⟨x,0,_,Y,fun v a9 aa a1=> ?_,fun c h ac=> ?_,?_, .inr ⟨rfl,by rw[z];grind⟩⟩
   ·rcases R.all v a1 with ⟨r,t,e⟩ | ⟨c,h,e⟩
    ·rw[<- e,M r t,z];have:=X r t (by omega) (by omega);grind
    ·rw[<- e,F c h];split <;> grind
   ·rw[F c h,if_neg];intro e;subst e;omega
   ·rw[<- U,M T h1,z];grind
 obtain⟨x,g,f,Y,a7,hz,hk,a2⟩:=lhs;have ag:k<n+m:=by rw[<- U];exact R.bl T a3
 have a0:∀v,n <= v -> v<k -> 0 <= x v:=fun v a b=>a7 v a b (by omega)
 have a5:=(a4 x g f).2 Y;cases c1 with
 | row h1 O h3 h4 G h6 h7 X=>
  have:=yE hs (a:=D.cell Z) (fun c h a b=>X c h a (by omega)) a0 hz O e1 (by have:=Rat.mul_pos (a:= - D.cell Z j1) (b:= - x k) (by grind) (by grind);grind) hD.oi;have t:=a5.1 Z h1;unfold eu.Row at t;have:=a0 _ h3 l1
  rcases a2 with ⟨rfl,_,_⟩ | ⟨rfl,_⟩ <;> grind
 | col h1 O h3 h4 G h6 h7 X=>
  have al:=yE hs (a:=D.top) (fun c h a b=>G.2 c h a (by omega)) a0 hz O e1 (by have:=Rat.mul_pos (a:= - D.top j1) (b:= - x k) (by grind) (by grind);grind) hD.oi;have t:=a5.2;unfold eu.Top at t
  rcases a2 with ⟨rfl,hf,a6⟩ | ⟨rfl,_⟩
  ·-- the basic point of D
   obtain⟨y,hy,F,M⟩:=D.lS hD (fun _=>0) 1;have z:∀a:Nat -> Rat,sumTo n (fun c=>a c*0)=0:=fun a=>iX fun c _=>by grind
   rw[z] at hy;have ab:=((a4 _ _ _).1 hy).2;unfold eu.Top at ab
   have:=Fg a8 (a:=E.top) (x:=y) (fun c h a b=>a6.2 c h a b) (fun v a b=>by
    rcases hD.all v (by omega) with ⟨r,t,e⟩ | ⟨c,h,e⟩
    ·rw[<- e,M r t,z];have:=G.1 r t (by omega) (by omega);grind
    ·rw[<- e,F c h];exact Rat.le_refl) (fun c h _=>F c h) kE
   grind
  ·grind
structure jB (m n:Nat) (s:Nat -> eu) (I J:Nat -> Nat) (N:Nat):Prop where
 ok:(s 0).Ok m n
 step:∀t,t<N -> (s t).kr m n (I t) (J t) /\ s (t+1)=(s t).pivot (I t) (J t)
section
variable {m n N:Nat} {s:Nat -> eu} {I J:Nat -> Nat}
theorem jB.oZ(h:jB m n s I J N):∀t,t <= N -> (s t).Ok m n:=by
 intro t
 induction t with
 | zero=>exact fun _=>h.ok
 | succ t G=>
  intro M;obtain⟨E,F⟩:=h.step t (by omega);rw[F];exact(G (by omega)).pivot E.lt.1 E.lt.2.1
theorem jB.sol(h:jB m n s I J N){x:Nat -> Rat}{g f:Rat}:∀t,t <= N -> ((s t).Sol m n x g f↔(s 0).Sol m n x g f):=by
 intro t
 induction t with
 | zero=>exact fun _=>Iff.rfl
 | succ t G=>
  intro M;obtain⟨E,F⟩:=h.step t (by omega);rw[F,eu.uW E.lt.1 E.lt.2.1 E.lt.2.2.1];exact G (by omega)
theorem jB.tail(h:jB m n s I J N){t:Nat}(E:t <= N):jB m n (fun i=>s (t+i)) (fun i=>I (t+i)) (fun i=>J (t+i)) (N-t):=
 ⟨h.oZ t E,fun i F=>h.step (t+i) (by omega)⟩
theorem jB.front(h:jB m n s I J N){t:Nat}(F:t <= N):jB m n s I J t:=⟨h.ok,fun i E=>h.step i (by omega)⟩
theorem jB.stays(h:jB m n s I J N)(v:Nat):∀t,t <= N -> (∀i,i<t -> (s i).basic (I i)≠v /\ (s i).off (J i)≠v) -> ((∃c,c<n /\ (s 0).off c=v)↔(∃c,c<n /\ (s t).off c=v)):=by
 intro t
 induction t with
 | zero=>exact fun _ _=>Iff.rfl
 | succ t O=>
  intro U F;rw[O (by omega) fun i T=>F i (by omega)];obtain⟨R,M⟩:=h.step t (by omega);obtain⟨h1,G⟩:=F t (by omega);rw[M];simp only[eu.pivot];constructor
  ·rintro⟨c,E,e⟩;refine⟨c,E,?_⟩;rw[eT]
   ·exact e
   ·intro e';subst e';exact G e
  ·rintro⟨c,E,e⟩;refine⟨c,E,?_⟩;by_cases e':c=J t
   ·subst e';rw[upd_same] at e;exact absurd e h1
   ·rwa [eT _ _ e'] at e
theorem Fh(K:Nat):∀ (s:Nat -> eu) (I J:Nat -> Nat) (N:Nat),jB m n s I J N -> (∀t,t<N -> (s t).basic (I t)<n+K /\ (s t).off (J t)<n+K) -> N<2^K:=by
 induction K with
 | zero=>
  intro s I J N h G
  rcases Nat.eq_zero_or_pos N with h0 | h0
  ·subst h0;decide
  ·have h1:=G 0 h0;have h2:=(h.step 0 h0).1.lt;omega
 | succ K ih=>
  intro s I J N h G;have ap:2^ (K+1)=2^K+2^K:=by rw[Nat.pow_succ];omega
  -- the first step that moves n + K
  by_cases a6:∃t,t<N /\ ((s t).basic (I t)=n+K \/ (s t).off (J t)=n+K)
  ·obtain⟨E,⟨ab,af⟩,ae⟩:∃t,(t<N /\ ((s t).basic (I t)=n+K \/ (s t).off (J t)=n+K)) /\ ∀u,u<t -> ¬((s u).basic (I u)=n+K \/ (s u).off (J u)=n+K):=by
    obtain⟨t,F⟩:=a6
    induction t using Nat.strongRecOn with
    | ind t a5=>
     by_cases T:∃u,u<t /\ ((s u).basic (I u)=n+K \/ (s u).off (J u)=n+K)
     ·obtain⟨u,O,R⟩:=T;exact a5 u O ⟨by omega,R⟩
     ·exact⟨t,F,fun u O R=>T ⟨u,O,R⟩⟩
   have h1:E<2^K:=by
    refine ih s I J E (h.front (by omega)) fun t F=> ?_
    have:=G t (by omega);have:=ae t F;omega
   have h2:N-(E+1)<2^K:=by
    refine ih _ _ _ (N-(E+1)) (h.tail (t:=E+1) (by omega)) fun t F=> ?_
    have ao:=G (E+1+t) (by omega)
    -- no second step moves n + K
    by_cases a7:∃u,u<N-(E+1) /\ ((s (E+1+u)).basic (I (E+1+u))=n+K \/ (s (E+1+u)).off (J (E+1+u))=n+K)
    ·exfalso
     obtain⟨u,⟨T,a8⟩,al⟩:∃u,(u<N-(E+1) /\ ((s (E+1+u)).basic (I (E+1+u))=n+K \/ (s (E+1+u)).off (J (E+1+u))=n+K)) /\
       ∀i,i<u -> ¬((s (E+1+i)).basic (I (E+1+i))=n+K \/ (s (E+1+i)).off (J (E+1+i))=n+K):=by
      obtain⟨t,F⟩:=a7
      induction t using Nat.strongRecOn with
      | ind t a5=>
       by_cases T:∃u,u<t /\ ((s (E+1+u)).basic (I (E+1+u))=n+K \/ (s (E+1+u)).off (J (E+1+u))=n+K)
       ·obtain⟨u,O,R⟩:=T;exact a5 u O ⟨by omega,R⟩
       ·exact⟨t,F,fun u O R=>T ⟨u,O,R⟩⟩
     have X:=h.oZ E (by omega);have ak:=h.oZ (E+1) (by omega);have U:=h.oZ (E+1+u) (by omega);obtain⟨Y,eA⟩:=h.step E ab;obtain⟨Z,_⟩:=h.step (E+1+u) (by omega);have lA:=G E ab;have lC:=G (E+1+u) (by omega);have aa:∀x g f,(s E).Sol m n x g f↔(s (E+1+u)).Sol m n x g f:=fun x g f=>(h.sol E (by omega)).trans (h.sol (E+1+u) (by omega)).symm
     have hT:=h.tail (t:=E) (by omega);have ac:=h.tail (t:=E+1) (by omega)
     have a9:qD n (n+K) (s E) (s (E+1+u)):=by
      intro v hv
      have h3:=hT.stays v (1+u) (by omega) fun i hi=>by
       have an:=G (E+i) (by omega);have am:=((h.step (E+i) (by omega)).1).lt;omega
      rw[show E+ (1+u)=E+1+u by omega] at h3;exact h3
     have a4:=ac.stays (n+K) u (by omega) fun i hi=>by
      have:=al i hi;exact⟨fun e=>this (.inl e),fun e=>this (.inr e)⟩
     simp only[Nat.add_zero] at a4;obtain⟨a0,a2,_,_,_⟩:=Y.lt;obtain⟨a1,a3,_,_,_⟩:=Z.lt
     rcases af with hb | ho
     ·-- it leaves first
      have ai:∃c,c<n /\ (s (E+1)).off c=n+K:=⟨J E,a2,by rw[eA];simp only[eu.pivot];rw[upd_same,hb]⟩
      obtain⟨c,hc,ec⟩:=a4.1 ai
      have aj:(s (E+1+u)).off (J (E+1+u))=n+K:=by
       rcases a8 with M | M
       ·exact absurd (M.trans ec.symm) (U.ne _ _ a1 hc)
       ·exact M
      have:=U.ne _ _ a1 a3;have:=X.ne _ _ a0 a2;exact yF U X (fun x g f=>(aa x g f).symm) (fun v hv=>(a9 v hv).symm) Z aj (by omega) Y hb (by omega)
     ·have ag:¬ ∃c,c<n /\ (s (E+1)).off c=n+K:=by
       rintro⟨c,hc,ec⟩;refine ak.ne (I E) c a0 hc ?_;rw[ec,eA];simp only[eu.pivot];rw[upd_same,ho]
      have ah:¬ ∃c,c<n /\ (s (E+1+u)).off c=n+K:=fun e=>ag (a4.2 e)
      have ad:(s (E+1+u)).basic (I (E+1+u))=n+K:=by
       rcases a8 with M | M
       ·exact M
       ·exact absurd ⟨_,a3,M⟩ ah
      have:=U.ne _ _ a1 a3;have:=X.ne _ _ a0 a2;exact yF X U aa a9 Y ho (by omega) Z ad (by omega)
    ·have:¬((s (E+1+t)).basic (I (E+1+t))=n+K \/ (s (E+1+t)).off (J (E+1+t))=n+K):=fun e=>a7 ⟨t,F,e⟩
     omega
   omega
  ·have:=ih s I J N h fun t F=>by
    have:=G t F;have:¬((s t).basic (I t)=n+K \/ (s t).off (J t)=n+K):=fun e=>a6 ⟨t,F,e⟩
    omega
   omega
theorem jB.len(h:jB m n s I J N):N<2^m:=by
 refine Fh m s I J N h fun t G=> ?_
 have E:=h.oZ t (by omega);obtain⟨h1,F,_⟩:=(h.step t G).1.lt;exact⟨E.bl _ h1,E.ol _ F⟩
end
def Reach(m n:Nat)(D:eu)(N:Nat)(E:eu):Prop:=∃s I J,jB m n s I J N /\ s 0=D /\ s N=E
theorem Reach.refl{m n:Nat}{D:eu}(h:D.Ok m n):Reach m n D 0 D:=⟨fun _=>D,fun _=>0,fun _=>0,⟨h,fun _ h=>absurd h (by omega)⟩,rfl,rfl⟩
theorem Reach.step{m n N i j:Nat}{D E:eu}(h:Reach m n D N E)(G:E.kr m n i j):Reach m n D (N+1) (E.pivot i j):=by
 obtain⟨s,I,J,F,h0,hN⟩:=h;refine⟨fun t=>if t <= N then s t else E.pivot i j,fun t=>if t<N then I t else i,fun t=>if t<N then J t else j,⟨?_,fun t M=> ?_⟩,?_,?_⟩
 ·simp only[Nat.zero_le,if_true];exact F.ok
 ·by_cases h1:t<N
  ·simp only[h1,if_true,show t <= N by omega,show t+1 <= N by omega];exact F.step t h1
  ·have:t=N:=by omega
   subst this;simp only[Nat.le_refl,if_true,Nat.lt_irrefl,if_false,show ¬(t+1 <= t) by omega,hN];exact⟨G,trivial⟩
 ·simp only[Nat.zero_le,if_true];exact h0
 ·simp only[show ¬(N+1 <= N) by omega,if_false]
theorem Reach.lt{m n N:Nat}{D E:eu}(h:Reach m n D N E):N<2^m:=by obtain⟨s,I,J,t,_,_⟩:=h;exact t.len
theorem Reach.ok{m n N:Nat}{D E:eu}(h:Reach m n D N E):E.Ok m n:=by obtain⟨s,I,J,t,_,rfl⟩:=h;exact t.oZ N (Nat.le_refl _)
theorem Reach.sol{m n N:Nat}{D E:eu}(h:Reach m n D N E){x:Nat -> Rat}{g f:Rat}:E.Sol m n x g f↔D.Sol m n x g f:=by obtain⟨s,I,J,t,rfl,rfl⟩:=h;exact t.sol N (Nat.le_refl _)
def eu.init(n:Nat)(A:Nat -> Nat -> Rat)(b c:Nat -> Rat):eu where
 basic:=fun r=>n+r
 off:=fun j=>j
 con:=b
 cell:=A
 top:=fun j=> - c j
 val:=0
def eB(n:Nat)(a x:Nat -> Rat):Rat:=sumTo n (fun k=>a k*x k)
theorem eu.nQ(m n:Nat)(A:Nat -> Nat -> Rat)(b c:Nat -> Rat):(eu.init n A b c).Ok m n:=by
 refine⟨?_,?_,?_,?_,?_,?_⟩ <;> simp only[eu.init]
 ·intro r s _ _ h;omega
 ·intro c d _ _ h;exact h
 ·intro r c _ t h;omega
 ·intro r E;omega
 ·intro c t;omega
 ·intro v F;by_cases h:v<n
  ·exact .inr ⟨v,h,rfl⟩
  ·exact .inl ⟨v-n,by omega,by omega⟩
theorem eu.sw{m n:Nat}{A:Nat -> Nat -> Rat}{b c:Nat -> Rat}{x:Nat -> Rat}{g f:Rat}:(eu.init n A b c).Sol m n x g f↔(∀r,r<m -> x (n+r)=b r*g-eB n (A r) x) /\ f=eB n c x:=by
 unfold eu.Sol eu.Row eu.Top eB;simp only[eu.init]
 have e:(0:Rat)*g-sumTo n (fun k=> - c k*x k)=sumTo n (fun k=>c k*x k):=by
  have:sumTo n (fun k=> - c k*x k)=(-1)*sumTo n (fun k=>c k*x k):=by rw[<- mR];exact sumTo_congr fun k _=>by grind
  rw[this];grind
 rw[e]
theorem qE{n:Nat}{a x y:Nat -> Rat}(h:∀k,k<n -> x k=y k):eB n a x=eB n a y:=sumTo_congr fun k t=>by rw[h k t]
theorem eu.yG{m n:Nat}(A:Nat -> Nat -> Rat)(b c x:Nat -> Rat)(g:Rat):∃y,(eu.init n A b c).Sol m n y g (eB n c x) /\ (∀k,k<n -> y k=x k) /\ ∀r,r<m -> y (n+r)=b r*g-eB n (A r) x:=by
 have e:∀a:Nat -> Rat,eB n a (fun v=>if v<n then x v else b (v-n)*g-eB n (A (v-n)) x)=eB n a x:=fun a=>qE fun k h=>if_pos h
 refine⟨fun v=>if v<n then x v else b (v-n)*g-eB n (A (v-n)) x,eu.sw.2 ⟨fun r _=> ?_,(e c).symm⟩,fun k h=>if_pos h,fun r _=> ?_⟩
 ·rw[e,if_neg (by omega),show n+r-n=r by omega]
 ·simp only[];rw[if_neg (by omega),show n+r-n=r by omega]
def jC(m n:Nat)(A:Nat -> Nat -> Rat)(b x:Nat -> Rat):Prop:=∀i,i<m -> eB n (A i) x <= b i
structure jc (m n:Nat) (A:Nat -> Nat -> Rat) (y c:Nat -> Rat):Prop where
 pos:∀i,i<m -> 0 <= y i
 sum:∀k,k<n -> eB m y (fun i=>A i k)=c k
structure Opt (m n:Nat) (A:Nat -> Nat -> Rat) (b c:Nat -> Rat) (v:Rat) (x y:Nat -> Rat):Prop where
 du:jc m n A y c
 bound:eB m y b=v
 holds:jC m n A b x
 value:eB n c x=v
structure Inf (m n:Nat) (A:Nat -> Nat -> Rat) (b:Nat -> Rat) (y:Nat -> Rat):Prop where
 du:jc m n A y (fun _=>0)
 bound:eB m y b<0
structure Unb (m n:Nat) (A:Nat -> Nat -> Rat) (b c x d:Nat -> Rat):Prop where
 holds:jC m n A b x
 ray:∀i,i<m -> eB n (A i) d <= 0
 up:0<eB n c d
theorem sumTo_le{n:Nat}{f g:Nat -> Rat}(h:∀c,c<n -> f c <= g c):sumTo n f <= sumTo n g:=by
 have:=rZ (n:=n) (f:=fun c=>g c-f c) (fun c t=>by have:=h c t;grind);rw[yC] at this;grind
theorem yH{m n:Nat}{A:Nat -> Nat -> Rat}{y c x:Nat -> Rat}(h:jc m n A y c):eB n c x=eB m y (fun i=>eB n (A i) x):=by
 have e:eB n c x=sumTo n (fun k=>sumTo m (fun i=>y i*A i k)*x k):=sumTo_congr fun k E=>by rw[<- h.sum k E];rfl
 have t:sumTo n (fun k=>sumTo m (fun i=>y i*A i k)*x k)=sumTo n (fun k=>sumTo m (fun i=>y i*A i k*x k)):=sumTo_congr fun k _=>by
  rw[show sumTo m (fun i=>y i*A i k)*x k=x k*sumTo m (fun i=>y i*A i k) by grind, <- mR];exact sumTo_congr fun i _=>by grind
 rw[e,t,yD];refine sumTo_congr fun i _=> ?_
 rw[show y i*eB n (A i) x=y i*sumTo n (fun k=>A i k*x k) from rfl, <- mR];exact sumTo_congr fun k _=>by grind
theorem yI{m n:Nat}{A:Nat -> Nat -> Rat}{b y c x:Nat -> Rat}(h:jc m n A y c)(E:jC m n A b x):eB n c x <= eB m y b:=by
 rw[yH h];exact sumTo_le fun i t=>Rat.mul_le_mul_of_nonneg_left (E i t) (h.pos i t)
theorem Fj{m n:Nat}{A:Nat -> Nat -> Rat}{y c d:Nat -> Rat}(h:jc m n A y c)(E:∀i,i<m -> eB n (A i) d <= 0):eB n c d <= 0:=by
 rw[yH h];have:=rZ (n:=m) (f:=fun i=>y i* (- eB n (A i) d)) (fun i t=>Rat.mul_nonneg (h.pos i t) (by have:=E i t;grind))
 have e:sumTo m (fun i=>y i* (- eB n (A i) d))=(-1)*eB m y (fun i=>eB n (A i) d):=by
  unfold eB;rw[<- mR];exact sumTo_congr fun i _=>by grind
 rw[e] at this;grind
section
variable {m n:Nat} {A:Nat -> Nat -> Rat} {b c x y d x' y':Nat -> Rat} {v v':Rat}
theorem Opt.le(h:Opt m n A b c v x y)(t:jC m n A b x'):eB n c x' <= v:=by have:=yI h.du t;rw[h.bound] at this;exact this
theorem Opt.eq(h:Opt m n A b c v x y)(t:Opt m n A b c v' x' y'):v=v':=by
 have h1:=h.le t.holds;have E:=t.le h.holds;rw[t.value] at h1;rw[h.value] at E;exact Rat.le_antisymm E h1
theorem Inf.no(h:Inf m n A b y)(t:jC m n A b x):False:=by
 have h1:=yI h.du t;have E:=h.bound;have:eB n (fun _=>0) x=0:=iX fun k _=>by grind
 grind
theorem Unb.no(h:Unb m n A b c x d)(t:Opt m n A b c v x' y'):False:=by
 have:=Fj t.du h.ray;have:=h.up;grind
end
theorem yJ{m n:Nat}{A:Nat -> Nat -> Rat}{b c y:Nat -> Rat}{p q:Rat}(h:∀x g f,(eu.init n A b c).Sol m n x g f -> eB m y (fun i=>x (n+i))=p*g-q*f):
  (∀k,k<n -> eB m y (fun i=>A i k)=q*c k) /\ eB m y b=p:=by
 constructor
 ·intro k M;obtain⟨z,F,_,E⟩:=eu.yG (m:=m) (n:=n) A b c (fun v=>if v=k then 1 else 0) 0
  have one:∀a:Nat -> Rat,eB n a (fun v=>if v=k then 1 else 0)=a k:=fun a=>by
   unfold eB;rw[kU M (fun c _ G=>by simp only[if_neg G];grind)];simp only[if_true];grind
  have h1:=h z 0 _ F;rw[one] at h1
  have e:eB m y (fun i=>z (n+i))=(-1)*eB m y (fun i=>A i k):=by
   unfold eB;rw[<- mR];exact sumTo_congr fun i t=>by simp only[];rw[E i t,one];grind
  rw[e] at h1;grind
 ·obtain⟨z,F,_,E⟩:=eu.yG (m:=m) (n:=n) A b c (fun _=>0) 1;have zero:∀a:Nat -> Rat,eB n a (fun _=>0)=0:=fun a=>iX fun _ _=>by grind
  have h1:=h z 1 _ F;rw[zero] at h1
  have e:eB m y (fun i=>z (n+i))=eB m y b:=by
   unfold eB;exact sumTo_congr fun i t=>by simp only[];rw[E i t,zero];grind
  rw[e] at h1;grind
def spread(n:Nat)(o:Nat -> Nat)(a:Nat -> Rat)(k:Nat):Rat:=sumTo n (fun c=>if o c=k then a c else 0)
theorem qF{n:Nat}{o:Nat -> Nat}(E:∀c d,c<n -> d<n -> o c=o d -> c=d)(a:Nat -> Rat){c:Nat}(h:c<n):spread n o a (o c)=a c:=by
 unfold spread;rw[kU h (fun d t F=>if_neg fun e=>F (E d c t h e)),if_pos rfl]
theorem nR{n:Nat}{o:Nat -> Nat}(a:Nat -> Rat){k:Nat}(h:∀c,c<n -> o c≠k):spread n o a k=0:=iX fun c t=>if_neg (h c t)
theorem yK{m n:Nat}{o:Nat -> Nat}(F:∀c,c<n -> o c<n+m)(a x:Nat -> Rat):eB m (fun i=>spread n o a (n+i)) (fun i=>x (n+i))=sumTo n (fun c=>if n <= o c then a c*x (o c) else 0):=by
 unfold eB spread
 have e:sumTo m (fun i=>sumTo n (fun c=>if o c=n+i then a c else 0)*x (n+i))=sumTo m (fun i=>sumTo n (fun c=>if o c=n+i then a c*x (n+i) else 0)):=sumTo_congr fun i _=>by
  rw[show sumTo n (fun c=>if o c=n+i then a c else 0)*x (n+i)=x (n+i)*sumTo n (fun c=>if o c=n+i then a c else 0) by grind, <- mR];exact sumTo_congr fun c _=>by split <;> grind
 rw[e,yD];refine sumTo_congr fun c t=> ?_
 by_cases h:n <= o c
 ·rw[if_pos h];have:=F c t;rw[kU (j:=o c-n) (by omega) (fun i E G=>if_neg (by omega)),if_pos (by omega),show n+ (o c-n)=o c by omega]
 ·rw[if_neg h];exact iX fun i E=>if_neg (by omega)
def eu.Zed(m n:Nat)(D:eu):Prop:=∀r c,r<m -> c<n -> n <= D.basic r -> D.off c<n -> D.cell r c=0
def eu.mU(n:Nat)(D:eu):Prop:=∀c,c<n -> D.off c<n -> D.top c=0
theorem eu.Zed.pivot{m n i j:Nat}{D:eu}(h:D.Zed m n)(R:D.kr m n i j):(D.pivot i j).Zed m n:=by
 obtain⟨T,U,X,M,Y⟩:=R.lt;intro r c O F h1 t;simp only[eu.pivot] at*;have E:c≠j:=by rintro rfl;rw[upd_same] at t;omega
 rw[eT _ _ E] at t;by_cases G:r=i
 ·subst G;rw[if_pos rfl,eT _ _ E,h r c O F M t];grind
 ·rw[eT _ _ G] at h1;rw[if_neg G,eT _ _ E,eT _ _ E,h r c O F h1 t,h i c T F M t];grind
theorem eu.mU.pivot{m n i j:Nat}{D:eu}(h:D.mU n)(R:D.Zed m n)(M:D.kr m n i j):(D.pivot i j).mU n:=by
 obtain⟨O,T,U,G,X⟩:=M.lt;intro c F t;simp only[eu.pivot] at*;have E:c≠j:=by rintro rfl;rw[upd_same] at t;omega
 rw[eT _ _ E] at t;rw[eT _ _ E,eT _ _ E,h c F t,R i c O F G t];grind
theorem Reach.zed{m n N:Nat}{D E:eu}(h:Reach m n D N E)(O:D.Zed m n):E.Zed m n:=by
 obtain⟨s,I,J,G,rfl,rfl⟩:=h
 have:∀t,t <= N -> (s t).Zed m n:=by
  intro t
  induction t with
  | zero=>exact fun _=>O
  | succ t R=>intro T;obtain⟨F,M⟩:=G.step t (by omega);rw[M];exact(R (by omega)).pivot F
 exact this N (Nat.le_refl _)
theorem Reach.Fp{m n N:Nat}{D E:eu}(h:Reach m n D N E)(T:D.Zed m n)(M:D.mU n):E.mU n:=by
 obtain⟨s,I,J,O,rfl,rfl⟩:=h
 have:∀t,t <= N -> (s t).Zed m n /\ (s t).mU n:=by
  intro t
  induction t with
  | zero=>exact fun _=>⟨T,M⟩
  | succ t F=>intro M;obtain⟨G,R⟩:=O.step t (by omega);rw[R];exact⟨(F (by omega)).1.pivot G,(F (by omega)).2.pivot (F (by omega)).1 G⟩
 exact(this N (Nat.le_refl _)).2
section
variable {m n:Nat} {A:Nat -> Nat -> Rat} {b c:Nat -> Rat} {D:eu}
theorem yL(h:D.Ok m n)(X:∀x g f,D.Sol m n x g f↔(eu.init n A b c).Sol m n x g f)(O:D.kV m n (n+m))(hz:D.mU n):
  Opt m n A b c D.val (spread m D.basic D.con) (fun i=>spread n D.off D.top (n+i)):=by
 have hy:∀x g f,(eu.init n A b c).Sol m n x g f -> eB m (fun i=>spread n D.off D.top (n+i)) (fun i=>x (n+i))=D.val*g-1*f:=by
  intro x g f G;have Y:=((X x g f).2 G).2;unfold eu.Top at Y;rw[yK h.ol,Y]
  have:sumTo n (fun k=>if n <= D.off k then D.top k*x (D.off k) else 0)=sumTo n (fun k=>D.top k*x (D.off k)):=sumTo_congr fun k F=>by
   split
   ·rfl
   ·rw[hz k F (by omega)];grind
  rw[this];grind
 obtain⟨h1,h2⟩:=yJ hy;obtain⟨x,G,T,M⟩:=D.lS h (fun _=>0) 1;have z:∀a:Nat -> Rat,sumTo n (fun c=>a c*0)=0:=fun a=>iX fun c _=>by grind
 have Z:=eu.sw.1 ((X _ _ _).1 G)
 have U:∀k,k<n -> x k=spread m D.basic D.con k:=by
  intro k F
  rcases h.all k (by omega) with ⟨r,E,rfl⟩ | ⟨c,t,rfl⟩
  ·rw[qF h.bi _ E,M r E,z];grind
  ·rw[T c t,nR _ fun r E=>h.ne r c E t]
 refine⟨⟨fun i R=> ?_,fun k F=>by rw[h1 k F];grind⟩,h2,fun i R=> ?_,?_⟩
 ·rcases h.all (n+i) (by omega) with ⟨r,E,e⟩ | ⟨c,t,e⟩
  ·rw[nR _ fun c t=>by rw[<- e];exact fun e'=>h.ne r c E t e'.symm];exact Rat.le_refl
  ·rw[<- e,qF h.oi _ t];exact O.2 c t (by omega) (h.ol c t)
 ·rw[<- qE U];have e:=Z.1 i R
  have a0:0 <= x (n+i):=by
   rcases h.all (n+i) (by omega) with ⟨r,E,e⟩ | ⟨c,t,e⟩
   ·rw[<- e,M r E,z];have:=O.1 r E (by omega) (h.bl r E);grind
   ·rw[<- e,T c t];exact Rat.le_refl
  grind
 ·rw[<- qE U];have e:=Z.2;rw[z] at e;grind
theorem yM(h:D.Ok m n)(Y:∀x g f,D.Sol m n x g f↔(eu.init n A b c).Sol m n x g f)(hz:D.Zed m n){i:Nat}(F:i<m)(R:n <= D.basic i)(T:D.con i<0)(U:∀c,c<n -> n <= D.off c -> 0 <= D.cell i c):
  Inf m n A b (fun k=>(if D.basic i=n+k then 1 else 0)+spread n D.off (D.cell i) (n+k)):=by
 have a0:=h.bl i F
 have hy:∀x g f,(eu.init n A b c).Sol m n x g f -> eB m (fun k=>(if D.basic i=n+k then 1 else 0)+spread n D.off (D.cell i) (n+k)) (fun i=>x (n+i))=D.con i*g-0*f:=by
  intro x g f Z;have G:=((Y x g f).2 Z).1 i F;unfold eu.Row at G
  have M:eB m (fun k=>(if D.basic i=n+k then 1 else 0)+spread n D.off (D.cell i) (n+k)) (fun i=>x (n+i))=sumTo m (fun k=>(if D.basic i=n+k then 1 else 0)*x (n+k))+eB m (fun k=>spread n D.off (D.cell i) (n+k)) (fun i=>x (n+i)):=by
   unfold eB;rw[<- yB];exact sumTo_congr fun k _=>by grind
  rw[M,yK h.ol,kU (j:=D.basic i-n) (by omega) (fun k t a1=>by rw[if_neg (by omega)];grind),if_pos (by omega),show n+ (D.basic i-n)=D.basic i by omega,G]
  have:sumTo n (fun k=>if n <= D.off k then D.cell i k*x (D.off k) else 0)=sumTo n (fun k=>D.cell i k*x (D.off k)):=sumTo_congr fun k t=>by
   split
   ·rfl
   ·rw[hz i k F t R (by omega)];grind
  rw[this];grind
 obtain⟨h1,O⟩:=yJ hy;refine⟨⟨fun k t=> ?_,fun k t=>by rw[h1 k t];grind⟩,by rw[O];exact T⟩
 have:0 <= spread n D.off (D.cell i) (n+k):=by
  rcases h.all (n+k) (by omega) with ⟨r,X,e⟩ | ⟨c,E,e⟩
  ·rw[nR _ fun c E=>by rw[<- e];exact fun e'=>h.ne r c X E e'.symm];exact Rat.le_refl
  ·rw[<- e,qF h.oi _ E];exact U c E (by omega)
 split <;> grind
theorem yN(t:D.Ok m n)(Y:∀x g f,D.Sol m n x g f↔(eu.init n A b c).Sol m n x g f){j:Nat}(G:j<n)(s:Rat)(Z:n <= D.off j -> 0 <= s)(F:∀r,r<m -> n <= D.basic r -> s*D.cell r j <= 0)(a1:0< - (s*D.top j)):
  (∀i,i<m -> eB n (A i) (fun k=>(if D.off j=k then s else 0)+spread m D.basic (fun r=> - (s*D.cell r j)) k) <= 0) /\ 0<eB n c (fun k=>(if D.off j=k then s else 0)+spread m D.basic (fun r=> - (s*D.cell r j)) k):=by
 obtain⟨x,hx,O,M⟩:=D.lS t (fun c=>if c=j then s else 0) 0
 have z:∀a:Nat -> Rat,sumTo n (fun c=>a c* (if c=j then s else 0))=a j*s:=fun a=>by
  rw[kU G (fun c _ E=>by rw[if_neg E];grind),if_pos rfl]
 have U:=eu.sw.1 ((Y _ _ _).1 hx)
 have R:∀k,k<n -> x k=(if D.off j=k then s else 0)+spread m D.basic (fun r=> - (s*D.cell r j)) k:=by
  intro k hk
  rcases t.all k (by omega) with ⟨r,F,rfl⟩ | ⟨c,E,rfl⟩
  ·rw[qF t.bi _ F,M r F,z,if_neg fun e=>t.ne r j F G e.symm];grind
  ·rw[O c E,nR _ fun r F=>t.ne r c F E];by_cases e:c=j
   ·rw[if_pos e,if_pos (by rw[e])];grind
   ·rw[if_neg e,if_neg fun e'=>e (t.oi c j E G e'.symm)];grind
 refine⟨fun i X=> ?_,?_⟩
 ·rw[<- qE R];have e:=U.1 i X
  have a0:0 <= x (n+i):=by
   rcases t.all (n+i) (by omega) with ⟨r,T,e⟩ | ⟨c,E,e⟩
   ·rw[<- e,M r T,z];have:=F r T (by omega);grind
   ·rw[<- e,O c E];split
    ·rename_i h;subst h;exact Z (by omega)
    ·exact Rat.le_refl
  grind
 ·rw[<- qE R];have e:=U.2;rw[z] at e;grind
end
def eu.Rel(m n:Nat)(D:eu)(j:Nat):Prop:=(∀c,j <= c -> c<n -> D.off c=c) /\ ∀c r,c<j -> c<n -> r<m -> n <= D.basic r -> D.off c<n -> D.cell r c=0
theorem eu.Rel.zed{m n:Nat}{D:eu}(h:D.Rel m n n):D.Zed m n:=fun r c F t h1 E=>h.2 c r t t F h1 E
theorem eu.yO(m n:Nat)(A:Nat -> Nat -> Rat)(b c:Nat -> Rat):(eu.init n A b c).Rel m n 0:=⟨fun _ _ _=>rfl,fun _ _ h=>absurd h (by omega)⟩
theorem eu.Rel.none_{m n j:Nat}{D:eu}(h:D.Rel m n j)(M:∀r,r<m -> n <= D.basic r -> D.cell r j=0):D.Rel m n (j+1):=
 ⟨fun c h1 t=>h.1 c (by omega) t,fun c r h1 t F E G=>by
  by_cases e:c=j
  ·subst e;exact M r F E
  ·exact h.2 c r (by omega) t F E G⟩
theorem eu.Rel.pivot{m n i j:Nat}{D:eu}(h:D.Rel m n j)(R:j<n)(O:i<m)(M:n <= D.basic i):(D.pivot i j).Rel m n (j+1):=by
 have U:=h.1 j (Nat.le_refl _) R;refine⟨fun c h1 t=> ?_,fun c r h1 t T F E=> ?_⟩
 ·simp only[eu.pivot];rw[eT _ _ (by omega)];exact h.1 c (by omega) t
 ·simp only[eu.pivot] at*;by_cases e:c=j
  ·subst e;rw[upd_same] at E;omega
  ·rw[eT _ _ e] at E;by_cases G:r=i
   ·subst G;rw[upd_same] at F;omega
   ·rw[eT _ _ G] at F;rw[if_neg G,eT _ _ e,eT _ _ e,h.2 c r (by omega) t T F E,h.2 c i (by omega) t O M E];grind
def RL(k:Nat)(q:Rat):Prop:=q.num.natAbs<10^k /\ q.den<10^k
theorem yP{k m:Nat}(h:k <= m):10^k <= 10^m:=Nat.pow_le_pow_right (by decide) h
theorem RL.mono{k m:Nat}{q:Rat}(h:RL k q)(t:k <= m):RL m q:=⟨Nat.lt_of_lt_of_le h.1 (yP t),Nat.lt_of_lt_of_le h.2 (yP t)⟩
theorem uX{p d:Int}{k:Nat}(h:d≠0)(G:p.natAbs<10^k)(t:d.natAbs<10^k):RL k (Rat.divInt p d):=by
 have F:0<d.gcd p:=Int.gcd_pos_of_ne_zero_left p h;constructor
 ·rw[Rat.num_divInt]
  have h1:(d.sign*p / (d.gcd p:Nat)).natAbs <= (d.sign*p).natAbs:=by
   rw[Int.natAbs_ediv_of_dvd]
   ·exact Nat.div_le_self _ _
   ·exact Int.dvd_trans (Int.gcd_dvd_right ..) ⟨d.sign,by rw[Int.mul_comm]⟩
  have E:(d.sign*p).natAbs <= p.natAbs:=by
   rw[Int.natAbs_mul,Int.natAbs_sign_of_ne_zero h,Nat.one_mul];exact Nat.le_refl _
  omega
 ·rw[Rat.den_divInt,if_neg h];exact Nat.lt_of_le_of_lt (Nat.div_le_self _ _) t
theorem yQ{p:Int}{d k:Nat}(E:d≠0)(t:p.natAbs<10^k)(h:d<10^k):RL k (mkRat p d):=by
 rw[<- Rat.divInt_ofNat];exact uX (by omega) t (by simpa using h)
theorem RL.zero:RL 1 0:=by unfold RL;decide
theorem RL.one:RL 1 1:=by unfold RL;decide
theorem RL.neg{k:Nat}{q:Rat}(h:RL k q):RL k (-q):=by unfold RL at*;rw[Rat.neg_num,Rat.neg_den,Int.natAbs_neg];exact h
theorem RL.mul{k m:Nat}{p q:Rat}(h:RL k p)(t:RL m q):RL (k+m) (p*q):=by
 rw[Rat.mul_def'];refine yQ (Nat.mul_ne_zero p.den_nz q.den_nz) ?_ ?_
 ·rw[Int.natAbs_mul,Nat.pow_add];exact Nat.mul_lt_mul'' h.1 t.1
 ·rw[Nat.pow_add];exact Nat.mul_lt_mul'' h.2 t.2
theorem RL.Fq{k:Nat}{q:Rat}(h:RL k q)(t:q≠0):RL k (q⁻¹):=by
 have h0:q.num≠0:=fun e=>t (Rat.num_eq_zero.1 e)
 constructor
 ·rw[Rat.num_inv,Int.natAbs_mul,Int.natAbs_sign_of_ne_zero h0];have:=h.2
  simpa using this
 ·rw[Rat.den_inv,if_neg h0];exact h.1
theorem RL.div{k m:Nat}{p q:Rat}(h:RL k p)(t:RL m q)(E:q≠0):RL (k+m) (p / q):=by
 rw[Rat.div_def];exact h.mul (t.Fq E)
theorem RL.add{k m:Nat}{p q:Rat}(h:RL k p)(t:RL m q):RL (k+m+1) (p+q):=by
 rw[Rat.add_def'];have e:10^ (k+m+1)=10^k*10^m*10:=by rw[Nat.pow_succ,Nat.pow_add]
 refine yQ (Nat.mul_ne_zero p.den_nz q.den_nz) ?_ ?_
 ·have h1:(p.num* (q.den:Int)).natAbs<10^k*10^m:=by rw[Int.natAbs_mul,Int.natAbs_natCast];exact Nat.mul_lt_mul'' h.1 t.2
  have E:(q.num* (p.den:Int)).natAbs<10^k*10^m:=by rw[Int.natAbs_mul,Int.natAbs_natCast,Nat.mul_comm];exact Nat.mul_lt_mul'' h.2 t.1
  have:=Int.natAbs_add_le (p.num* (q.den:Int)) (q.num* (p.den:Int));omega
 ·have:p.den*q.den<10^k*10^m:=Nat.mul_lt_mul'' h.2 t.2;omega
theorem RL.sub{k m:Nat}{p q:Rat}(h:RL k p)(t:RL m q):RL (k+m+1) (p-q):=by
 rw[Rat.sub_eq_add_neg];exact h.add t.neg
structure eu.Lim (m n:Nat) (D:eu) (k:Nat):Prop where
 con:∀r,r<m -> RL k (D.con r)
 cell:∀r c,r<m -> c<n -> RL k (D.cell r c)
 top:∀c,c<n -> RL k (D.top c)
 val:RL k D.val
theorem eu.Lim.pos{m n k:Nat}{D:eu}(h:D.Lim m n k):0<k:=by
 rcases Nat.eq_zero_or_pos k with h0 | h0
 ·subst h0;have:=h.val.2;have:=D.val.den_pos;omega
 ·exact h0
def count(n:Nat)(p:Nat -> Bool):Nat:=match n with
 | 0=>0
 | n+1=>count n p+if p n then 1 else 0
theorem yR{n:Nat}{p q:Nat -> Bool}(h:∀k,k<n -> p k=q k):count n p=count n q:=by
 induction n with
 | zero=>rfl
 | succ n t=>simp only[count];rw[t fun k E=>h k (by omega),h n (by omega)]
theorem count_le(n:Nat)(p:Nat -> Bool):count n p <= n:=by
 induction n with
 | zero=>exact Nat.le_refl _
 | succ n h=>simp only[count];split <;> omega
theorem Fs{n:Nat}{p:Nat -> Bool}(h:count n p=0):∀k,k<n -> p k=false:=by
 induction n with
 | zero=>intro k t;omega
 | succ n E=>
  simp only[count] at h;intro k t;by_cases e:k=n
  ·subst e;cases hp:p k
   ·rfl
   ·rw[hp] at h;simp at h
  ·exact E (by omega) k (by omega)
theorem Fu{n:Nat}{p:Nat -> Bool}(h:count n p≠0):∃k,k<n /\ p k=true:=by
 induction n with
 | zero=>exact absurd rfl h
 | succ n t=>
  simp only[count] at h;cases hp:p n
  ·rw[hp] at h;obtain⟨k,E,e⟩:=t (by simpa using h);exact⟨k,by omega,e⟩
  ·exact⟨n,by omega,hp⟩
theorem yS{n i:Nat}{p q:Nat -> Bool}(O:i<n)(h:∀k,k<n -> k≠i -> p k=q k)(F:p i=true)(G:q i=false):count n p=count n q+1:=by
 induction n with
 | zero=>omega
 | succ n M=>
  simp only[count];by_cases e:i=n
  ·subst e;rw[yR fun k t=>h k (by omega) (by omega),F,G];simp
  ·rw[M (by omega) fun k t E=>h k (by omega) E,h n (by omega) (by omega)];omega
def mV:Nat -> (Nat -> Nat) -> Nat
 | 0,_=>1
 | n+1,f=>mV n f*f n
theorem yT{n c:Nat}{f:Nat -> Nat}(t:c<n):f c ∣ mV n f:=by
 induction n with
 | zero=>omega
 | succ n h=>
  by_cases e:c=n
  ·subst e;exact Nat.dvd_mul_left _ _
  ·exact Nat.dvd_trans (h (by omega)) (Nat.dvd_mul_right _ _)
theorem Fv{n M:Nat}{f:Nat -> Nat}(h:∀c,c<n -> 0<f c /\ f c <= M):0<mV n f /\ mV n f <= M^n:=by
 induction n with
 | zero=>exact⟨Nat.one_pos,Nat.le_refl _⟩
 | succ n E=>
  have h1:=E fun c F=>h c (by omega)
  have t:=h n (by omega);exact⟨Nat.mul_pos h1.1 t.1,by rw[Nat.pow_succ];exact Nat.mul_le_mul h1.2 t.2⟩
theorem Fw(q:Rat):q* (q.den:Rat)=(q.num:Rat):=by
 have h:q=Rat.divInt q.num q.den:=(Rat.num_divInt_den q).symm;rw[Rat.divInt_eq_div] at h
 have E:((q.den:Int):Rat)≠0:=by
  intro e;have:(q.den:Int)=0:=by exact_mod_cast e
  have:=q.den_pos;omega
 have t:=Rat.div_mul_cancel (a:=(q.num:Rat)) E;rw[<- h] at t
 exact_mod_cast t
theorem RL.clear{k s R:Nat}{q:Rat}(h:RL k q)(E:q.den ∣ R)(h0:0<R)(t:R <= 10^s):∃z:Int,z.natAbs<10^ (k+s) /\ q* (R:Rat)=z:=by
 obtain⟨e,rfl⟩:=E;refine⟨q.num* (e:Int),?_,?_⟩
 ·have F:e <= 10^s:=Nat.le_trans (Nat.le_mul_of_pos_left _ q.den_pos) t;rw[Int.natAbs_mul,Int.natAbs_natCast,Nat.pow_add];exact Nat.lt_of_le_of_lt (Nat.mul_le_mul_left _ F) (Nat.mul_lt_mul_of_pos_right h.1 (Nat.pow_pos (by decide)))
 ·have:=Fw q
  push_cast
  grind
structure eu.nS (m n:Nat) (D:eu) (σ:Nat -> Nat) (τ:Nat) (d:Int) (b:Nat):Prop where
 d0:d≠0
 dl:d.natAbs<10^b
 con:∀r,r<m -> ∃z:Int,z.natAbs<10^b /\ D.con r* (σ (D.basic r):Rat)* (d:Rat)=z
 cell:∀r c,r<m -> c<n -> ∃z:Int,z.natAbs<10^b /\ D.cell r c* (σ (D.basic r):Rat)* (d:Rat)=z* (σ (D.off c):Rat)
 top:∀c,c<n -> ∃z:Int,z.natAbs<10^b /\ D.top c* (τ:Rat)* (d:Rat)=z* (σ (D.off c):Rat)
 val:∃z:Int,z.natAbs<10^b /\ D.val* (τ:Rat)* (d:Rat)=z
theorem p8{b:Nat}{x y:Int}(t:x.natAbs<10^b)(E:y.natAbs<10^b):(x*y).natAbs<10^ (2*b+1):=by
 have h:=Nat.mul_lt_mul'' t E;rw[Int.natAbs_mul,show 2*b+1=b+b+1 by omega,Nat.pow_succ,Nat.pow_add];omega
theorem sD{b:Nat}{x y z u:Int}(F:x.natAbs<10^b)(G:y.natAbs<10^b)(M:z.natAbs<10^b)(E:u.natAbs<10^b):(x*y-z*u).natAbs<10^ (2*b+1):=by
 have h:=Nat.mul_lt_mul'' F G;have O:=Nat.mul_lt_mul'' M E;have t:=Int.natAbs_sub_le (x*y) (z*u);rw[Int.natAbs_mul,Int.natAbs_mul] at t;rw[show 2*b+1=b+b+1 by omega,Nat.pow_succ,Nat.pow_add];omega
theorem yU{a:Nat}(h:0<a):(a:Rat)≠0:=by
 intro e;have:a=0:=by exact_mod_cast e
 omega
theorem eu.nS.pivot{m n i j b:Nat}{D:eu}{σ:Nat -> Nat}{τ:Nat}{d:Int}(h:D.nS m n σ τ d b)(hσ:∀v,0<σ v)(Y:i<m)(Z:j<n)(hk:D.cell i j≠0):∃d',(D.pivot i j).nS m n σ τ d' (2*b+1):=by
 obtain⟨p,hp,ep⟩:=h.cell i j Y Z;have hd:(d:Rat)≠0:=fun e=>h.d0 (by exact_mod_cast e)
 have hs:=yU (hσ (D.basic i));have ho:=yU (hσ (D.off j))
 have a0:p≠0:=by
  rintro rfl;have F:D.cell i j* (σ (D.basic i):Rat)* (d:Rat)=0:=by rw[ep];simp
  rcases Rat.mul_eq_zero.1 F with F | F
  ·rcases Rat.mul_eq_zero.1 F with F | F
   ·exact hk F
   ·exact hs F
  ·exact hd F
 have a2:(p:Rat)≠0:=fun e=>a0 (by exact_mod_cast e)
 -- what stands in the pivot row
 have X:∀ (a:Rat) (z y:Rat),a* (σ (D.basic i):Rat)* (d:Rat)=z*y -> a / D.cell i j* (σ (D.off j):Rat)* (p:Rat)=z*y:=by
  intro a z y e;have T:a / D.cell i j*D.cell i j=a:=Rat.div_mul_cancel hk
  have t:a / D.cell i j* (σ (D.off j):Rat)* (p:Rat)=a / D.cell i j*D.cell i j* (σ (D.basic i):Rat)* (d:Rat):=by
   have:(σ (D.off j):Rat)* (p:Rat)=D.cell i j* (σ (D.basic i):Rat)* (d:Rat):=by rw[ep];grind
   grind
  rw[t,T,e]
 have a1:1 / D.cell i j* (σ (D.off j):Rat)* (p:Rat)=(d:Rat)* (σ (D.basic i):Rat):=X 1 d (σ (D.basic i):Rat) (by grind);refine⟨d*p,⟨Int.mul_ne_zero h.d0 a0,p8 h.dl hp,fun r U=> ?_,fun r c U R=> ?_,fun c R=> ?_,?_⟩⟩
 ·obtain⟨z,E,G⟩:=h.con i Y;have T:=X (D.con i) z 1 (by rw[G];grind);simp only[eu.pivot];by_cases e:r=i
  ·subst e;rw[if_pos rfl,upd_same];refine⟨z*d,p8 E h.dl,?_⟩
   push_cast
   grind
  ·rw[if_neg e,eT _ _ e];obtain⟨y,O,ey⟩:=h.con r U;obtain⟨x,M,ex⟩:=h.cell r j U Z;refine⟨y*p-x*z,sD O hp M E,?_⟩
   push_cast
   grind
 ·simp only[eu.pivot];by_cases e:r=i
  ·subst e;rw[if_pos rfl,upd_same];by_cases t:c=j
   ·subst t;rw[upd_same,upd_same];refine⟨d*d,p8 h.dl h.dl,?_⟩
    push_cast
    grind
   ·rw[eT _ _ t,eT _ _ t];obtain⟨z,E,G⟩:=h.cell r c U R;have T:=X (D.cell r c) z (σ (D.off c):Rat) G;refine⟨z*d,p8 E h.dl,?_⟩
    push_cast
    grind
  ·rw[if_neg e,eT _ _ e];obtain⟨x,M,ex⟩:=h.cell r j U Z;by_cases t:c=j
   ·subst t;rw[upd_same,upd_same,upd_same];refine⟨-(x*d),by rw[Int.natAbs_neg];exact p8 M h.dl,?_⟩
    push_cast
    grind
   ·rw[eT _ _ t,eT _ _ t,eT _ _ t];obtain⟨z,E,G⟩:=h.cell i c Y R;have T:=X (D.cell i c) z (σ (D.off c):Rat) G;obtain⟨y,O,ey⟩:=h.cell r c U R;refine⟨y*p-x*z,sD O hp M E,?_⟩
    push_cast
    grind
 ·simp only[eu.pivot];obtain⟨x,M,ex⟩:=h.top j Z;by_cases t:c=j
  ·subst t;rw[upd_same,upd_same,upd_same];refine⟨-(x*d),by rw[Int.natAbs_neg];exact p8 M h.dl,?_⟩
   push_cast
   grind
  ·rw[eT _ _ t,eT _ _ t,eT _ _ t];obtain⟨z,E,G⟩:=h.cell i c Y R;have T:=X (D.cell i c) z (σ (D.off c):Rat) G;obtain⟨y,O,ey⟩:=h.top c R;refine⟨y*p-x*z,sD O hp M E,?_⟩
   push_cast
   grind
 ·simp only[eu.pivot];obtain⟨x,M,ex⟩:=h.top j Z;obtain⟨z,E,G⟩:=h.con i Y;have T:=X (D.con i) z 1 (by rw[G];grind);obtain⟨y,O,ey⟩:=h.val;refine⟨y*p-x*z,sD O hp M E,?_⟩
  push_cast
  grind
theorem sF{b s:Nat}{q:Rat}{z e:Int}{x:Nat}(M:z.natAbs<10^b)(E:e.natAbs<10^ (b+s))(t:e≠0)(G:x <= 10^s)(h:q* (e:Rat)=z* (x:Rat)):RL (b+s) q:=by
 have:q=Rat.divInt (z* (x:Int)) e:=by
  rw[Rat.divInt_eq_div];have F:(e:Rat)≠0:=fun h=>t (by exact_mod_cast h)
  push_cast
  rw[<- h,Rat.mul_div_cancel F]
 rw[this];refine uX t ?_ E;rw[Int.natAbs_mul,Int.natAbs_natCast,Nat.pow_add];exact Nat.lt_of_le_of_lt (Nat.mul_le_mul_left _ G) (Nat.mul_lt_mul_of_pos_right M (Nat.pow_pos (by decide)))
theorem eu.nS.lim{m n b s:Nat}{D:eu}{σ:Nat -> Nat}{τ:Nat}{d:Int}(h:D.nS m n σ τ d b)(F:∀v,0<σ v /\ σ v <= 10^s)(O:0<τ /\ τ <= 10^s):D.Lim m n (b+s):=by
 have G:∀x:Nat,x <= 10^s -> ((x:Int)*d).natAbs<10^ (b+s):=fun x U=>by
  rw[Int.natAbs_mul,Int.natAbs_natCast,Nat.pow_add,Nat.mul_comm];exact Nat.lt_of_le_of_lt (Nat.mul_le_mul_left _ U) (Nat.mul_lt_mul_of_pos_right h.dl (Nat.pow_pos (by decide)))
 have M:∀x:Nat,0<x -> (x:Int)*d≠0:=fun x U=>Int.mul_ne_zero (by omega) h.d0
 have one:(1:Nat) <= 10^s:=Nat.pow_pos (by decide);refine⟨fun r T=> ?_,fun r c T R=> ?_,fun c R=> ?_,?_⟩
 ·obtain⟨z,E,t⟩:=h.con r T;exact sF (x:=1) E (G _ (F (D.basic r)).2) (M _ (F (D.basic r)).1) one (by push_cast;rw[<- t];grind)
 ·obtain⟨z,E,t⟩:=h.cell r c T R;exact sF E (G _ (F (D.basic r)).2) (M _ (F (D.basic r)).1) (F (D.off c)).2 (by push_cast;rw[<- t];grind)
 ·obtain⟨z,E,t⟩:=h.top c R;exact sF E (G _ O.2) (M _ O.1) (F (D.off c)).2 (by push_cast;rw[<- t];grind)
 ·obtain⟨z,E,t⟩:=h.val;exact sF (x:=1) E (G _ O.2) (M _ O.1) one (by push_cast;rw[<- t];grind)
theorem eu.Lim.Fx{m n k:Nat}{D:eu}(hD:D.Ok m n)(h:D.Lim m n k):
  ∃ (σ:Nat -> Nat) (τ:Nat),(∀v,0<σ v /\ σ v <= 10^ (k* (n+1))) /\ (0<τ /\ τ <= 10^ (k* (n+1))) /\ D.nS m n σ τ 1 (k* (n+2)):=by
 have hk:=h.pos;have O:k* (n+2)=k+k* (n+1):=by rw[show n+2=n+1+1 by omega,Nat.mul_succ];omega
 have Z:∀ (f:Nat -> Rat) (q:Rat),(∀c,c<n -> RL k (f c)) -> RL k q -> (0<mV n (fun c=>(f c).den)*q.den /\ mV n (fun c=>(f c).den)*q.den <= 10^ (k* (n+1))):=by
  intro f q hf hq;have h1:=Fv (n:=n) (M:=10^k) (f:=fun c=>(f c).den) (fun c t=>⟨(f c).den_pos,Nat.le_of_lt (hf c t).2⟩);refine⟨Nat.mul_pos h1.1 q.den_pos,?_⟩;rw[Nat.mul_succ,Nat.pow_add,Nat.pow_mul];exact Nat.mul_le_mul h1.2 (Nat.le_of_lt hq.2)
 obtain⟨R,Y⟩:∃R:Nat -> Nat,R=fun r=>mV n (fun c=>(D.cell r c).den)* (D.con r).den:=⟨_,rfl⟩
 have T:∀r,r<m -> 0<R r /\ R r <= 10^ (k* (n+1)):=fun r E=>by rw[Y];exact Z _ _ (fun c t=>h.cell r c E t) (h.con r E)
 have U:=Z D.top D.val h.top h.val
 obtain⟨σ,X⟩:∃σ:Nat -> Nat,(∀v,0<σ v /\ σ v <= 10^ (k* (n+1))) /\ (∀r,r<m -> σ (D.basic r)=R r) /\ ∀c,c<n -> σ (D.off c)=1:=by
  classical
  refine⟨fun v=>if F:∃r,r<m /\ D.basic r=v then R (Classical.choose F) else 1,fun v=> ?_,fun r E=> ?_,fun c t=> ?_⟩
  ·by_cases F:∃r,r<m /\ D.basic r=v
   ·simp only[dif_pos F];exact T _ (Classical.choose_spec F).1
   ·simp only[dif_neg F];exact⟨Nat.one_pos,Nat.pow_pos (by decide)⟩
  ·have F:∃s,s<m /\ D.basic s=D.basic r:=⟨r,E,rfl⟩
   have t:=Classical.choose_spec F;simp only[dif_pos F];rw[hD.bi _ _ t.1 E t.2]
  ·have F:¬ ∃s,s<m /\ D.basic s=D.off c:=fun⟨s,O,e⟩=>hD.ne s c O t e
   simp only[dif_neg F]
 refine⟨σ,mV n (fun c=>(D.top c).den)*D.val.den,X.1,U,⟨by decide,?_,fun r E=> ?_,fun r c E t=> ?_,fun c t=> ?_,?_⟩⟩
 ·exact Nat.one_lt_pow (by have:=Nat.mul_pos hk (show 0<n+2 by omega);omega) (by decide)
 ·obtain⟨z,G,e⟩:=(h.con r E).clear (R:=R r) (by rw[Y];exact Nat.dvd_mul_left _ _) (T r E).1 (T r E).2;refine⟨z,by rw[O];exact G,?_⟩;rw[X.2.1 r E, <- e];push_cast;grind
 ·obtain⟨z,G,e⟩:=(h.cell r c E t).clear (R:=R r) (by rw[Y];exact Nat.dvd_trans (yT (f:=fun c=>(D.cell r c).den) t) (Nat.dvd_mul_right _ _)) (T r E).1 (T r E).2;refine⟨z,by rw[O];exact G,?_⟩;rw[X.2.1 r E,X.2.2 c t, <- e];push_cast;grind
 ·obtain⟨z,G,e⟩:=(h.top c t).clear (Nat.dvd_trans (yT (f:=fun c=>(D.top c).den) t) (Nat.dvd_mul_right _ _)) U.1 U.2;refine⟨z,by rw[O];exact G,?_⟩;rw[X.2.2 c t, <- e];push_cast;grind
 ·obtain⟨z,G,e⟩:=h.val.clear (Nat.dvd_mul_left _ _) U.1 U.2;refine⟨z,by rw[O];exact G,?_⟩;rw[<- e];push_cast;grind
def wb:Nat -> Nat -> Nat
 | 0,b=>b
 | d+1,b=>wb d (2*b+1)
theorem yV{d b c:Nat}(h:b <= c):wb d b <= wb d c:=by
 induction d generalizing b c with
 | zero=>exact h
 | succ d t=>exact t (by omega)
theorem yX{d e b:Nat}(h:d <= e):wb d b <= wb e b:=by
 induction e with
 | zero=>rw[show d=0 by omega];exact Nat.le_refl _
 | succ e E=>
  by_cases t:d=e+1
  ·rw[t];exact Nat.le_refl _
  ·exact Nat.le_trans (E (by omega)) (yV (by omega))
def wide(m n k:Nat):Nat:=wb (min m n) (k* (n+2))+k* (n+1)
theorem yY{m n k p N K:Nat}(t:min m n <= p)(F:n <= N)(h:k <= K):wide m n k <= wb p (K* (N+2))+K* (N+1):=by
 unfold wide;have h1:=Nat.le_trans (yV (d:=min m n) (Nat.mul_le_mul h (show n+2 <= N+2 by omega))) (yX (b:=K* (N+2)) t);have E:=Nat.mul_le_mul h (show n+1 <= N+1 by omega);omega
theorem Fy{m n k:Nat}{D E:eu}(X:D.Ok m n)(T:E.Ok m n)(hs:∀x g f,D.Sol m n x g f↔E.Sol m n x g f)(hl:D.Lim m n k)(a3:∀c,c<n -> ∃d,d<n /\ D.off d=E.off c):E.Lim m n k:=by
 have a0:∀r,r<m -> ∃s,s<m /\ D.basic s=E.basic r:=by
  intro r M
  rcases X.all _ (T.bl r M) with h | ⟨d,G,e⟩
  ·exact h
  ·exfalso
   -- all of D's columns stand outside at E: n of n
   have af:∀ (F:Nat) (f:Nat -> Nat),(∀c,c<F -> f c<F) -> (∀c c',c<F -> c'<F -> f c=f c' -> c=c') -> ∀d,d<F -> ∃c,c<F /\ f c=d:=by
    intro F
    induction F with
    | zero=>intro f _ _ d G;omega
    | succ F ih=>
     intro f U Z d G;by_cases a5:f F=d
     ·exact⟨F,by omega,a5⟩
     -- strike the place of f n'
     have h1:=ih (fun c=>if f c=F then f F else f c) (fun c t=>by
      have:=U c (by omega);have:=U F (by omega);have:f c≠f F:=fun e=>by have:=Z c F (by omega) (by omega) e;omega
      split <;> omega) (fun c c' t Y e=>by
      have a1:f c≠f F:=fun e=>by have:=Z c F (by omega) (by omega) e;omega
      have a2:f c'≠f F:=fun e=>by have:=Z c' F (by omega) (by omega) e;omega
      split at e <;> split at e
      ·exact Z c c' (by omega) (by omega) (by omega)
      ·exact absurd e.symm a2
      ·exact absurd e a1
      ·exact Z c c' (by omega) (by omega) e)
     by_cases ag:d=F
     ·-- f n' is not d = n', so it is below: some c has its place
      have ac:f F<F:=by have:=U F (by omega);omega
      obtain⟨c,t,e⟩:=h1 (f F) ac;split at e
      ·exact⟨c,by omega,by omega⟩
      ·have:=Z c F (by omega) (by omega) e;omega
     ·obtain⟨c,t,e⟩:=h1 d (by omega);split at e
      ·exact absurd e a5
      ·exact⟨c,by omega,e⟩
   have ab:∃f:Nat -> Nat,∀c,c<n -> f c<n /\ D.off (f c)=E.off c:=by
    refine⟨fun c=>if h:c<n then Classical.choose (a3 c h) else 0,fun c t=> ?_⟩;simp only[dif_pos t];exact Classical.choose_spec (a3 c t)
   obtain⟨f,U⟩:=ab;obtain⟨c,t,ec⟩:=af n f (fun c t=>(U c t).1) (fun c c' t Y e=>T.oi c c' t Y (by rw[<- (U c t).2, <- (U c' Y).2,e])) d G;exact T.ne r c M t (by rw[<- (U c t).2,ec,e])
 have z:∀a:Nat -> Rat,sumTo n (fun c=>a c*0)=0:=fun a=>iX fun c _=>by grind
 -- the basic point
 obtain⟨x,hx,ho,hb⟩:=E.lS T (fun _=>0) 1;have a6:=(hs _ _ _).2 hx
 have a7:∀c,c<n -> x (D.off c)=0:=by
  intro c t
  rcases T.all _ (X.ol c t) with ⟨r,M,e⟩ | ⟨d,G,e⟩
  ·obtain⟨s,O,e'⟩:=a0 r M;exact absurd (e'.trans e) (X.ne s c O t)
  ·rw[<- e,ho d G]
 -- the direction of a column
 have a4:∀c,c<n -> ∀d,d<n -> D.off d=E.off c -> (∀r s,r<m -> s<m -> D.basic s=E.basic r -> E.cell r c=D.cell s d) /\ E.top c=D.top d:=by
  intro c t d G e;obtain⟨y,hy,ad,aa⟩:=E.lS T (fun k=>if k=c then 1 else 0) 0
  have one:∀a:Nat -> Rat,sumTo n (fun k=>a k* (if k=c then 1 else 0))=a c:=fun a=>by
   rw[kU t (fun k _ R=>by rw[if_neg R];grind),if_pos rfl];grind
  have a8:=(hs _ _ _).2 hy
  have ae:∀k,k<n -> y (D.off k)=if k=d then 1 else 0:=by
   intro k R
   rcases T.all _ (X.ol k R) with ⟨r,M,e'⟩ | ⟨c',Y,e'⟩
   ·obtain⟨s,O,e2⟩:=a0 r M;exact absurd (e2.trans e') (X.ne s k O R)
   ·rw[<- e',ad c' Y];by_cases h1:c'=c
    ·subst h1;have:k=d:=X.oi k d R G (by rw[e,e']);rw[if_pos rfl,if_pos this]
    ·have:k≠d:=by rintro rfl;exact h1 (T.oi c' c Y t (by rw[e',e]))
     rw[if_neg h1,if_neg this]
  have a9:∀a:Nat -> Rat,sumTo n (fun k=>a k*y (D.off k))=a d:=fun a=>by
   rw[sumTo_congr (g:=fun k=>a k* (if k=d then 1 else 0)) fun k R=>by rw[ae k R],kU G (fun k _ R=>by rw[if_neg R];grind),if_pos rfl];grind
  refine⟨fun r s M O e2=> ?_,?_⟩
  ·have h1:=a8.1 s O;unfold eu.Row at h1;rw[a9,e2,aa r M,one] at h1;grind
  ·have h1:=a8.2;unfold eu.Top at h1;rw[a9,one] at h1;grind
 refine⟨fun r M=> ?_,fun r c M t=> ?_,fun c t=> ?_,?_⟩
 ·obtain⟨s,O,e⟩:=a0 r M;have h1:=a6.1 s O;unfold eu.Row at h1;rw[iX (fun c t=>by rw[a7 c t];grind),e,hb r M,z] at h1;have:E.con r=D.con s:=by grind
  rw[this];exact hl.con s O
 ·obtain⟨d,G,e⟩:=a3 c t;obtain⟨s,O,e'⟩:=a0 r M;rw[(a4 c t d G e).1 r s M O e'];exact hl.cell s d O G
 ·obtain⟨d,G,e⟩:=a3 c t;rw[(a4 c t d G e).2];exact hl.top d G
 ·have h1:=a6.2;unfold eu.Top at h1;rw[z,iX (fun c t=>by rw[a7 c t];grind)] at h1;have:E.val=D.val:=by grind
  rw[this];exact hl.val
def eu.kW(n:Nat)(D:eu)(v:Nat):Bool:=decide (∃c,c<n /\ D.off c=v)
theorem eu.p9{n:Nat}{D:eu}{v:Nat}:D.kW n v=true↔∃c,c<n /\ D.off c=v:=by unfold eu.kW;rw[decide_eq_true_iff]
theorem near{m n s:Nat}{σ:Nat -> Nat}{τ:Nat}(hσ:∀v,0<σ v /\ σ v <= 10^s)(hτ:0<τ /\ τ <= 10^s)(d:Nat):∀ {D E:eu} {z:Int} {b:Nat},D.Ok m n -> E.Ok m n -> (∀x g f,D.Sol m n x g f↔E.Sol m n x g f) -> D.nS m n σ τ z b -> count n (fun c=> !(D.kW n (E.off c)))=d -> E.Lim m n (wb d b+s):=by
 induction d with
 | zero=>
  intro D E z b R M X Z hc;refine Fy R M X (Z.lim hσ hτ) fun c G=> ?_
  have h1:=Fs hc c G;exact eu.p9.1 (by simpa using h1)
 | succ d ih=>
  intro D E z b R M X Z hc
  -- a variable l that stands outside at E and is basic at D
  obtain⟨t,T,h0⟩:=Fu (n:=n) (p:=fun c=> !(D.kW n (E.off c))) (by omega);have a0:¬ ∃c,c<n /\ D.off c=E.off t:=fun h=>by rw[eu.p9.2 h] at h0;exact absurd h0 (by decide)
  obtain⟨i,U,Y⟩:∃i,i<m /\ D.basic i=E.off t:=by
   rcases R.all _ (M.ol t T) with h | h
   ·exact h
   ·exact absurd h a0
  -- a column of D that is basic at E, with a cell in row i
  obtain⟨j,O,a4,hk⟩:∃j,j<n /\ (∀c,c<n -> E.off c≠D.off j) /\ D.cell i j≠0:=by
   apply Classical.byContradiction;intro a5;have a6:∀j,j<n -> (∀c,c<n -> E.off c≠D.off j) -> D.cell i j=0:=fun j O h=>Classical.byContradiction fun h'=>a5 ⟨j,O,h,h'⟩
   -- the direction of E's column c0 contradicts row i
   obtain⟨y,hy,ho,hb⟩:=E.lS M (fun k=>if k=t then 1 else 0) 0;have a1:=((X _ _ _).2 hy).1 i U;unfold eu.Row at a1
   rw[Y,ho t T,if_pos rfl,iX (fun c G=>by
    by_cases h:∃c',c'<n /\ E.off c'=D.off c
    ·obtain⟨c',F,e⟩:=h;rw[<- e,ho c' F,if_neg]
     ·grind
     ·rintro rfl;exact a0 ⟨c,G,e.symm⟩
    ·rw[a6 c G (fun c' F e=>h ⟨c',F,e⟩)];grind)] at a1
   grind
  have a7:=R.pivot U O;have a8:∀x g f,(D.pivot i j).Sol m n x g f↔E.Sol m n x g f:=fun x g f=>(eu.uW U O hk).trans (X x g f)
  obtain⟨z',a2⟩:=Z.pivot (fun v=>(hσ v).1) U O hk;refine ih a7 M a8 a2 ?_;have a9:=yS (n:=n) (i:=t) (p:=fun c=> !(D.kW n (E.off c))) (q:=fun c=> !((D.pivot i j).kW n (E.off c))) T ?_ h0 ?_
  ·omega
  ·intro c G a3;congr 1;rw[Bool.eq_iff_iff,eu.p9,eu.p9];simp only[eu.pivot];constructor
   ·rintro⟨c',F,e⟩;refine⟨c',F,?_⟩;rw[eT]
    ·exact e
    ·rintro rfl;exact a4 c G e.symm
   ·rintro⟨c',F,e⟩;by_cases e':c'=j
    ·subst e';rw[upd_same,Y] at e;exact absurd (M.oi t c T G e).symm a3
    ·rw[eT _ _ e'] at e;exact⟨c',F,e⟩
  ·skip
   rw[Bool.not_eq_false',eu.p9];exact⟨j,O,by simp only[eu.pivot];rw[upd_same,Y]⟩
theorem Fz{m:Nat}{p:Nat -> Bool}{f:Nat -> Nat}:∀ {n:Nat},(∀c,c<n -> p c=true -> f c<m) -> (∀c d,c<n -> d<n -> p c=true -> p d=true -> f c=f d -> c=d) ->
  count n p <= count m (fun r=>decide (∃c,c<n /\ p c=true /\ f c=r)):=by
 intro n
 induction n with
 | zero=>intro _ _;exact Nat.zero_le _
 | succ n M=>
  intro h1 E;have F:=M (fun c t=>h1 c (by omega)) (fun c d t O=>E c d (by omega) (by omega));simp only[count];cases hp:p n
  ·rw[yR (n:=m) (p:=fun r=>decide (∃c,c<n+1 /\ p c=true /\ f c=r)) (q:=fun r=>decide (∃c,c<n /\ p c=true /\ f c=r))]
   ·simpa using F
   ·intro r _;rw[decide_eq_decide];constructor
    ·rintro⟨c,t,h,e⟩;have:c≠n:=by rintro rfl;rw[hp] at h;cases h
     exact⟨c,by omega,h,e⟩
    ·rintro⟨c,t,h,e⟩;exact⟨c,by omega,h,e⟩
  ·rw[yS (n:=m) (i:=f n) (p:=fun r=>decide (∃c,c<n+1 /\ p c=true /\ f c=r)) (q:=fun r=>decide (∃c,c<n /\ p c=true /\ f c=r)) (h1 n (by omega) hp)]
   ·simpa using F
   ·intro r _ G;rw[decide_eq_decide];constructor
    ·rintro⟨c,t,h,e⟩;have:c≠n:=by rintro rfl;exact G e.symm
     exact⟨c,by omega,h,e⟩
    ·rintro⟨c,t,h,e⟩;exact⟨c,by omega,h,e⟩
   ·rw[decide_eq_true_iff];exact⟨n,by omega,hp,rfl⟩
   ·rw[decide_eq_false_iff_not];rintro⟨c,t,h,e⟩;have:=E c n (by omega) (by omega) h hp e;omega
theorem yZ{m n:Nat}{D E:eu}{k:Nat}(M:D.Ok m n)(O:E.Ok m n)(hs:∀x g f,D.Sol m n x g f↔E.Sol m n x g f)(hl:D.Lim m n k):E.Lim m n (wide m n k):=by
 obtain⟨σ,τ,hσ,hτ,Z⟩:=hl.Fx M;have h:=near hσ hτ _ M O hs Z rfl
 have h1:count n (fun c=> !(D.kW n (E.off c))) <= m:=by
  have a0:∃f:Nat -> Nat,∀c,c<n -> (!(D.kW n (E.off c)))=true -> f c<m /\ D.basic (f c)=E.off c:=by
   have Y:∀c,c<n -> (!(D.kW n (E.off c)))=true -> ∃r,r<m /\ D.basic r=E.off c:=by
    intro c t F
    rcases M.all _ (O.ol c t) with h | h
    ·exact h
    ·rw[eu.p9.2 h] at F;cases F
   refine⟨fun c=>if t:c<n /\ (!(D.kW n (E.off c)))=true then Classical.choose (Y c t.1 t.2) else 0,fun c t F=> ?_⟩;simp only[dif_pos (And.intro t F)];exact Classical.choose_spec (Y c t F)
  obtain⟨f,R⟩:=a0;refine Nat.le_trans (Fz (m:=m) (f:=f) (fun c t T=>(R c t T).1) (fun c d t X T a1 e=> ?_)) (count_le _ _);exact O.oi c d t X (by rw[<- (R c t T).2, <- (R d X a1).2,e])
 have G:=Nat.add_le_add_right (yX (b:=k* (n+2)) (Nat.le_min.2 ⟨h1,count_le n (fun c=> !(D.kW n (E.off c)))⟩)) (k* (n+1));exact⟨fun r U=>(h.con r U).mono G,fun r c U t=>(h.cell r c U t).mono G,fun c t=>(h.top c t).mono G,h.val.mono G⟩
end Go.Proofs.YtdefghfjhgmpfaaGreatDoor.Lp
