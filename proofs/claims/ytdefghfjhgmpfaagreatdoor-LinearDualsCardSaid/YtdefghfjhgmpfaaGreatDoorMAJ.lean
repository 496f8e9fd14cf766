/- Parts of this proof: Dict. -/
namespace Go.Proofs.YtdefghfjhgmpfaaGreatDoor.Lp
def sumTo:Nat -> (Nat -> Rat) -> Rat
 | 0,_=>0
 | n+1,f=>sumTo n f+f n
theorem sumTo_congr{n:Nat}{f g:Nat -> Rat}(h:∀c,c<n -> f c=g c):sumTo n f=sumTo n g:=by
 induction n with
 | zero=>rfl
 | succ n r=>rw[sumTo,sumTo,r (fun c t=>h c (by omega)),h n (by omega)]
theorem iX{n:Nat}{f:Nat -> Rat}(h:∀c,c<n -> f c=0):sumTo n f=0:=by
 induction n with
 | zero=>rfl
 | succ n r=>rw[sumTo,r (fun c t=>h c (by omega)),h n (by omega)];grind
theorem yB(n:Nat)(f g:Nat -> Rat):sumTo n (fun c=>f c+g c)=sumTo n f+sumTo n g:=by
 induction n with
 | zero=>simp only[sumTo];grind
 | succ n h=>simp only[sumTo];rw[h];grind
theorem mR(n:Nat)(a:Rat)(f:Nat -> Rat):sumTo n (fun c=>a*f c)=a*sumTo n f:=by
 induction n with
 | zero=>simp only[sumTo];grind
 | succ n h=>simp only[sumTo];rw[h];grind
theorem yC(n:Nat)(f g:Nat -> Rat):sumTo n (fun c=>f c-g c)=sumTo n f-sumTo n g:=by
 induction n with
 | zero=>simp only[sumTo];grind
 | succ n h=>simp only[sumTo];rw[h];grind
theorem rZ{n:Nat}{f:Nat -> Rat}(h:∀c,c<n -> 0 <= f c):0 <= sumTo n f:=by
 induction n with
 | zero=>simp[sumTo]
 | succ n r=>have:=r (fun c t=>h c (by omega));have:=h n (by omega);simp only[sumTo];grind
theorem F8{n j:Nat}{f:Nat -> Rat}(F:j<n)(h:∀c,c<n -> 0 <= f c)(G:0<f j):0<sumTo n f:=by
 induction n with
 | zero=>omega
 | succ n C=>
  simp only[sumTo];have E:=h n (by omega);by_cases t:j=n
  ·subst t;have h1:=rZ (fun c (r:c<j)=>h c (by omega));grind
  ·have:=C (by omega) (fun c r=>h c (by omega));grind
def jg(n j:Nat)(f:Nat -> Rat):Rat:=sumTo n (fun c=>if c=j then 0 else f c)
theorem uV{n j:Nat}{f g:Nat -> Rat}(h:∀c,c<n -> c≠j -> f c=g c):jg n j f=jg n j g:=
 sumTo_congr fun c r=>by by_cases e:c=j <;> simp[e];exact h c r e
theorem oW{n j:Nat}(f:Nat -> Rat)(C:j<n):sumTo n f=jg n j f+f j:=by
 unfold jg
 induction n with
 | zero=>omega
 | succ n r=>
  simp only[sumTo];by_cases h:j=n
  ·subst h;rw[if_pos rfl,sumTo_congr (f:=fun c=>if c=j then 0 else f c) (g:=f) (fun c t=>if_neg (by omega))];grind
  ·rw[r (by omega),if_neg (by omega)];grind
theorem F9(n j:Nat)(f g:Nat -> Rat)(a:Rat):jg n j (fun c=>f c-a*g c)=jg n j f-a*jg n j g:=by
 unfold jg;rw[<- mR, <- yC];refine sumTo_congr fun c _=> ?_
 by_cases e:c=j
 ·simp only[if_pos e];grind
 ·simp only[if_neg e]
theorem Fa(n j:Nat)(f:Nat -> Rat)(a:Rat):jg n j (fun c=>a*f c)=a*jg n j f:=by
 unfold jg;rw[<- mR];refine sumTo_congr fun c _=> ?_
 by_cases e:c=j
 ·simp only[if_pos e];grind
 ·simp only[if_neg e]
theorem kU{n j:Nat}{f:Nat -> Rat}(r:j<n)(h:∀c,c<n -> c≠j -> f c=0):sumTo n f=f j:=by
 rw[oW f r,uV (g:=fun _=>0) h];unfold jg;rw[iX (by intro c _;simp)];grind
theorem yD(n m:Nat)(f:Nat -> Nat -> Rat):sumTo n (fun i=>sumTo m (fun j=>f i j))=sumTo m (fun j=>sumTo n (fun i=>f i j)):=by
 induction n with
 | zero=>simp only[sumTo];exact(iX (fun _ _=>rfl)).symm
 | succ n h=>simp only[sumTo];rw[h,yB]
structure eu where
 basic:Nat -> Nat
 off:Nat -> Nat
 con:Nat -> Rat
 cell:Nat -> Nat -> Rat
 top:Nat -> Rat
 val:Rat
def upd{α:Type}(f:Nat -> α)(i:Nat)(x:α):Nat -> α:=fun k=>if k=i then x else f k
theorem upd_same{α:Type}(f:Nat -> α)(i:Nat)(x:α):upd f i x i=x:=if_pos rfl
theorem eT{α:Type}(f:Nat -> α){i k:Nat}(x:α)(h:k≠i):upd f i x k=f k:=if_neg h
def eu.pivot(D:eu)(i j:Nat):eu where
 basic:=upd D.basic i (D.off j)
 off:=upd D.off j (D.basic i)
 con:=fun r=>if r=i then D.con i / D.cell i j else D.con r-D.cell r j* (D.con i / D.cell i j)
 cell:=fun r c=>if r=i then upd (D.cell i) j 1 c / D.cell i j else upd (D.cell r) j 0 c-D.cell r j* (upd (D.cell i) j 1 c / D.cell i j)
 top:=fun c=>upd D.top j 0 c-D.top j* (upd (D.cell i) j 1 c / D.cell i j)
 val:=D.val-D.top j* (D.con i / D.cell i j)
def eu.Row(n:Nat)(D:eu)(x:Nat -> Rat)(g:Rat)(r:Nat):Prop:=x (D.basic r)=D.con r*g-sumTo n (fun c=>D.cell r c*x (D.off c))
def eu.Top(n:Nat)(D:eu)(x:Nat -> Rat)(g f:Rat):Prop:=f=D.val*g-sumTo n (fun c=>D.top c*x (D.off c))
def eu.Sol(m n:Nat)(D:eu)(x:Nat -> Rat)(g f:Rat):Prop:=(∀r,r<m -> D.Row n x g r) /\ D.Top n x g f
structure eu.Ok (m n:Nat) (D:eu):Prop where
 bi:∀r s,r<m -> s<m -> D.basic r=D.basic s -> r=s
 oi:∀c d,c<n -> d<n -> D.off c=D.off d -> c=d
 ne:∀r c,r<m -> c<n -> D.basic r≠D.off c
 bl:∀r,r<m -> D.basic r<n+m
 ol:∀c,c<n -> D.off c<n+m
 all:∀v,v<n+m -> (∃r,r<m /\ D.basic r=v) \/ (∃c,c<n /\ D.off c=v)
theorem eu.Fb(D:eu)(i j:Nat)(E:D.cell i j≠0):(D.pivot i j).pivot i j=D:=by
 have M:(D.pivot i j).cell i j=1 / D.cell i j:=by simp[eu.pivot,upd]
 have O:(1 / D.cell i j)≠0:=by
  intro h;have:D.cell i j* (1 / D.cell i j)=0:=by rw[h];grind
  grind
 unfold eu.pivot
 rcases D with ⟨b,o,G,F,t,v⟩
 simp only[upd_same];simp only at E;congr 1
 ·funext r;by_cases h:r=i <;> simp[upd,h]
 ·funext r;by_cases h:r=j <;> simp[upd,h]
 ·funext r;by_cases h:r=i
  ·subst h;simp;grind
  ·simp[h];grind
 ·funext r c;by_cases h:r=i
  ·subst h;by_cases C:c=j
   ·subst C;simp[upd];grind
   ·simp[upd,C];grind
  ·by_cases C:c=j
   ·subst C;simp[upd,h];grind
   ·simp[upd,h,C];grind
 ·funext c;by_cases C:c=j
  ·subst C;simp[upd];grind
  ·simp[upd,C];grind
 ·simp;grind
theorem eu.Ok.pivot{m n i j:Nat}{D:eu}(h:D.Ok m n)(E:i<m)(F:j<n):(D.pivot i j).Ok m n:=by
 have U:=h.ne;refine⟨?_,?_,?_,?_,?_,?_⟩
 ·intro r s C R;simp only[eu.pivot,upd];split <;> split
  ·intro _;omega
  ·intro e;exact absurd e.symm (h.ne s j R F)
  ·intro e;exact absurd e (h.ne r j C F)
  ·exact h.bi r s C R
 ·intro c d t M;simp only[eu.pivot,upd];split <;> split
  ·intro _;omega
  ·intro e;exact absurd e (h.ne i d E M)
  ·intro e;exact absurd e.symm (h.ne i c E t)
  ·exact h.oi c d t M
 ·intro r c C t;simp only[eu.pivot,upd];split <;> split
  ·exact fun e=>h.ne i j E F e.symm
  ·intro e;have:=h.oi j c F t e;omega
  ·intro e;have:=h.bi r i C E e;omega
  ·exact h.ne r c C t
 ·intro r C;simp only[eu.pivot,upd];split
  ·exact h.ol j F
  ·exact h.bl r C
 ·intro c t;simp only[eu.pivot,upd];split
  ·exact h.bl i E
  ·exact h.ol c t
 ·intro v T;simp only[eu.pivot,upd]
  rcases h.all v T with ⟨r,C,e⟩ | ⟨c,t,e⟩
  ·by_cases O:r=i
   ·exact .inr ⟨j,F,by rw[if_pos rfl, <- O];exact e⟩
   ·exact .inl ⟨r,C,by rw[if_neg O];exact e⟩
  ·by_cases G:c=j
   ·exact .inl ⟨i,E,by rw[if_pos rfl, <- G];exact e⟩
   ·exact .inr ⟨c,t,by rw[if_neg G];exact e⟩
theorem eu.Sol.pivot{m n i j:Nat}{D:eu}{x:Nat -> Rat}{g f:Rat}(h:D.Sol m n x g f)(V:i<m)(C:j<n)(W:D.cell i j≠0):(D.pivot i j).Sol m n x g f:=by
 obtain⟨R,T⟩:=h;have F:=R i V;unfold eu.Row at F;rw[oW _ C] at F;obtain⟨k,E⟩:∃k,k=D.cell i j:=⟨_,rfl⟩
 obtain⟨S,G⟩:∃S,S=jg n j (fun c=>D.cell i c*x (D.off c)):=⟨_,rfl⟩
 rw[<- G, <- E] at F
 -- the sum of a row less a multiple of the new row
 have U:∀ (a:Rat) (f:Nat -> Rat),sumTo n (fun c=>(upd f j 0 c-a* (upd (D.cell i) j 1 c / k))*x (upd D.off j (D.basic i) c))=jg n j (fun c=>f c*x (D.off c))-a / k*S-a / k*x (D.basic i):=by
  intro a f;rw[oW _ C,G, <- F9]
  have e:jg n j (fun c=>(upd f j 0 c-a* (upd (D.cell i) j 1 c / k))*x (upd D.off j (D.basic i) c))=jg n j (fun c=>f c*x (D.off c)-a / k* (D.cell i c*x (D.off c))):=
   uV fun c _ t=>by rw[eT _ _ t,eT _ _ t,eT _ _ t];grind
  rw[e,upd_same,upd_same,upd_same];grind
 rw[<- E] at W;refine⟨fun r X=> ?_,?_⟩
 ·unfold eu.Row;simp only[eu.pivot];by_cases M:r=i
  ·subst M;simp only[if_true,upd_same];rw[<- E]
   have e:sumTo n (fun c=>upd (D.cell r) j 1 c / k*x (upd D.off j (D.basic r) c))=1 / k*S+1 / k*x (D.basic r):=by
    rw[oW _ C,G, <- Fa]
    have e:jg n j (fun c=>upd (D.cell r) j 1 c / k*x (upd D.off j (D.basic r) c))=jg n j (fun c=>1 / k* (D.cell r c*x (D.off c))):=
     uV fun c _ t=>by rw[eT _ _ t,eT _ _ t];grind
    rw[e,upd_same,upd_same]
   rw[e];grind
  ·rw[eT _ _ M];simp only[if_neg M];rw[<- E,U];have O:=R r X;unfold eu.Row at O;rw[oW _ C] at O;grind
 ·unfold eu.Top;simp only[eu.pivot];rw[<- E,U];unfold eu.Top at T;rw[oW _ C] at T;grind
theorem eu.uW{m n i j:Nat}{D:eu}{x:Nat -> Rat}{g f:Rat}(r:i<m)(t:j<n)(C:D.cell i j≠0):(D.pivot i j).Sol m n x g f↔D.Sol m n x g f:=by
 constructor
 ·intro h
  have e:(D.pivot i j).cell i j≠0:=by
   simp only[eu.pivot,if_true,upd_same];intro h0;have:D.cell i j* (1 / D.cell i j)=0:=by rw[h0];grind
   grind
  have:=h.pivot r t e
  rwa [D.Fb i j C] at this
 ·exact fun h=>h.pivot r t C
def qD(n k:Nat)(D E:eu):Prop:=∀v,v<n \/ k<v -> ((∃c,c<n /\ D.off c=v)↔(∃c,c<n /\ E.off c=v))
def eu.assign(m n:Nat)(D:eu)(a b:Nat -> Rat)(v:Nat):Rat:=sumTo m (fun r=>if D.basic r=v then a r else 0)+sumTo n (fun c=>if D.off c=v then b c else 0)
theorem eu.Fe{m n:Nat}{D:eu}(h:D.Ok m n)(a b:Nat -> Rat){r:Nat}(t:r<m):D.assign m n a b (D.basic r)=a r:=by
 unfold eu.assign;rw[kU t (fun s F E=>if_neg fun e=>E (h.bi s r F t e)),iX (fun c C=>if_neg fun e=>h.ne r c t C e.symm),if_pos rfl];grind
theorem eu.Ff{m n:Nat}{D:eu}(h:D.Ok m n)(a b:Nat -> Rat){c:Nat}(t:c<n):D.assign m n a b (D.off c)=b c:=by
 unfold eu.assign;rw[kU t (fun d C E=>if_neg fun e=>E (h.oi d c C t e)),iX (fun r F=>if_neg fun e=>h.ne r c F t e),if_pos rfl];grind
theorem eu.lS{m n:Nat}{D:eu}(h:D.Ok m n)(b:Nat -> Rat)(g:Rat):
  ∃x,D.Sol m n x g (D.val*g-sumTo n (fun c=>D.top c*b c)) /\ (∀c,c<n -> x (D.off c)=b c) /\ ∀r,r<m -> x (D.basic r)=D.con r*g-sumTo n (fun c=>D.cell r c*b c):=by
 obtain⟨a,G⟩:∃a:Nat -> Rat,a=fun r=>D.con r*g-sumTo n (fun c=>D.cell r c*b c):=⟨_,rfl⟩
 have C:∀c,c<n -> D.assign m n a b (D.off c)=b c:=fun c t=>D.Ff h a b t
 have F:∀r,r<m -> D.assign m n a b (D.basic r)=D.con r*g-sumTo n (fun c=>D.cell r c*b c):=fun r E=>(D.Fe h a b E).trans (by rw[G])
 refine⟨D.assign m n a b,⟨fun r E=> ?_,?_⟩,C,F⟩
 ·unfold eu.Row;rw[F r E,sumTo_congr (f:=fun c=>D.cell r c*D.assign m n a b (D.off c)) fun c t=>by rw[C c t]]
 ·unfold eu.Top;rw[sumTo_congr (f:=fun c=>D.top c*D.assign m n a b (D.off c)) fun c t=>by rw[C c t]]
def eu.kV(m n:Nat)(D:eu)(k:Nat):Prop:=(∀r,r<m -> n <= D.basic r -> D.basic r<k -> 0 <= D.con r) /\ (∀c,c<n -> n <= D.off c -> D.off c<k -> 0 <= D.top c)
inductive eu.kr (m n:Nat) (D:eu) (i j:Nat):Prop
 | row:i<m -> j<n -> n <= D.basic i -> D.con i<0 -> D.kV m n (D.basic i) -> n <= D.off j -> D.cell i j<0 -> (∀c,c<n -> n <= D.off c -> D.off c<D.off j -> 0 <= D.cell i c) -> eu.kr m n D i j
 | col:i<m -> j<n -> n <= D.off j -> D.top j<0 -> D.kV m n (D.off j) -> n <= D.basic i -> 0<D.cell i j -> (∀r,r<m -> n <= D.basic r -> D.basic r<D.basic i -> D.cell r j <= 0) -> eu.kr m n D i j
theorem eu.kr.lt{m n i j:Nat}{D:eu}(h:D.kr m n i j):i<m /\ j<n /\ D.cell i j≠0 /\ n <= D.basic i /\ n <= D.off j:=by
 cases h with
 | row h1 t C F G E r M=>exact⟨h1,t,by intro e;rw[e] at r;exact absurd r (Rat.lt_irrefl),C,E⟩
 | col h1 t C F G E r M=>exact⟨h1,t,by intro e;rw[e] at r;exact absurd r (Rat.lt_irrefl),E,C⟩
theorem yE{n k:Nat}{D E:eu}(R:qD n k D E){a x:Nat -> Rat}(F:∀c,c<n -> n <= D.off c -> D.off c<k -> 0 <= a c)(T:∀v,n <= v -> v<k -> 0 <= x v)
  (h0:∀c,c<n -> E.off c<n \/ k<E.off c -> x (E.off c)=0) {j:Nat} (t:j<n) (C:D.off j=k) (O:0<a j*x k) (M:∀c d,c<n -> d<n -> D.off c=D.off d -> c=d):0<sumTo n (fun c=>a c*x (D.off c)):=by
 refine F8 t (fun c h=> ?_) (by rw[C];exact O);by_cases h1:D.off c<n \/ k<D.off c
 ·obtain⟨d,G,e⟩:=(R _ h1).1 ⟨c,h,rfl⟩;rw[<- e,h0 d G (by rw[e];exact h1)];grind
 ·by_cases r:D.off c=k
  ·have:c=j:=M c j h t (by rw[r,C]);subst this;rw[r];grind
  ·exact Rat.mul_nonneg (F c h (by omega) (by omega)) (T _ (by omega) (by omega))
theorem Fg{n k:Nat}{D E:eu}(F:qD n k D E){a x:Nat -> Rat}(r:∀c,c<n -> n <= D.off c -> D.off c<k -> 0 <= a c)(G:∀v,n <= v -> v<k -> 0 <= x v)
  (h0:∀c,c<n -> E.off c<n \/ k<E.off c -> x (E.off c)=0) (C:∀c,c<n -> D.off c≠k):0 <= sumTo n (fun c=>a c*x (D.off c)):=by
 refine rZ (fun c h=> ?_);by_cases h1:D.off c<n \/ k<D.off c
 ·obtain⟨d,t,e⟩:=(F _ h1).1 ⟨c,h,rfl⟩;rw[<- e,h0 d t (by rw[e];exact h1)];grind
 ·have M:=C c h;exact Rat.mul_nonneg (r c h (by omega) (by omega)) (G _ (by omega) (by omega))
theorem yF{m n k:Nat}{D E:eu}(Z:D.Ok m n)(O:E.Ok m n)(a4:∀x g f,D.Sol m n x g f↔E.Sol m n x g f)(hs:qD n k D E)
  {W j1 R X:Nat} (c1:D.kr m n W j1) (e1:D.off j1=k) (l1:D.basic W<k) (c2:E.kr m n R X) (T:E.basic R=k) (l2:E.off X<k):False:=by
 have a8:qD n k E D:=fun v hv=>(hs v hv).symm
 obtain⟨ad,ae,_,ah,aj⟩:=c1.lt;obtain⟨a3,af,_,ai,ak⟩:=c2.lt;have kE:∀c,c<n -> E.off c≠k:=fun c h e=>O.ne R c a3 h (by rw[T,e])
 -- what stands at the leaving dictionary
 have lhs:∃ (x:Nat -> Rat) (g f:Rat),E.Sol m n x g f /\ (∀v,n <= v -> v<k -> v<n+m -> 0 <= x v) /\ (∀c,c<n -> E.off c<n \/ k<E.off c -> x (E.off c)=0) /\ x k<0 /\
   ((g=1 /\ f=E.val /\ E.kV m n k) \/ (g=0 /\ 0<f)):=by
  cases c2 with
  | row h1 M Y h4 F h6 h7 U=>
   obtain⟨x,V,C,G⟩:=E.lS O (fun _=>0) 1;have z:∀a:Nat -> Rat,sumTo n (fun c=>a c*0)=0:=fun a=>iX fun c _=>by grind
   refine⟨x,1,_,V,fun v a9 aa a1=> ?_,fun c h _=>C c h,?_, .inl ⟨rfl,by rw[z];grind,by rw[<- T];exact F⟩⟩
   ·rcases O.all v a1 with ⟨r,t,e⟩ | ⟨c,h,e⟩
    ·rw[<- e,G r t,z];have:=F.1 r t (by omega) (by omega);grind
    ·rw[<- e,C c h];exact Rat.le_refl
   ·rw[<- T,G R h1,z];grind
  | col h1 M Y h4 F h6 h7 U=>
   obtain⟨x,V,C,G⟩:=E.lS O (fun c=>if c=X then 1 else 0) 0
   have z:∀a:Nat -> Rat,sumTo n (fun c=>a c* (if c=X then 1 else 0))=a X:=fun a=>by
    rw[kU M (fun c _ h=>by rw[if_neg h];grind),if_pos rfl];grind
   refine⟨x,0,_,V,fun v a9 aa a1=> ?_,fun c h ac=> ?_,?_, .inr ⟨rfl,by rw[z];grind⟩⟩
   ·rcases O.all v a1 with ⟨r,t,e⟩ | ⟨c,h,e⟩
    ·rw[<- e,G r t,z];have:=U r t (by omega) (by omega);grind
    ·rw[<- e,C c h];split <;> grind
   ·rw[C c h,if_neg];intro e;subst e;omega
   ·rw[<- T,G R h1,z];grind
 obtain⟨x,g,f,V,a7,hz,hk,a2⟩:=lhs;have ag:k<n+m:=by rw[<- T];exact O.bl R a3
 have a0:∀v,n <= v -> v<k -> 0 <= x v:=fun v a b=>a7 v a b (by omega)
 have a5:=(a4 x g f).2 V;cases c1 with
 | row h1 M Y h4 F h6 h7 U=>
  have:=yE hs (a:=D.cell W) (fun c h a b=>U c h a (by omega)) a0 hz M e1 (by have:=Rat.mul_pos (a:= - D.cell W j1) (b:= - x k) (by grind) (by grind);grind) Z.oi;have t:=a5.1 W h1;unfold eu.Row at t;have:=a0 _ Y l1
  rcases a2 with ⟨rfl,_,_⟩ | ⟨rfl,_⟩ <;> grind
 | col h1 M Y h4 F h6 h7 U=>
  have al:=yE hs (a:=D.top) (fun c h a b=>F.2 c h a (by omega)) a0 hz M e1 (by have:=Rat.mul_pos (a:= - D.top j1) (b:= - x k) (by grind) (by grind);grind) Z.oi;have t:=a5.2;unfold eu.Top at t
  rcases a2 with ⟨rfl,hf,a6⟩ | ⟨rfl,_⟩
  ·-- the basic point of D
   obtain⟨y,hy,C,G⟩:=D.lS Z (fun _=>0) 1;have z:∀a:Nat -> Rat,sumTo n (fun c=>a c*0)=0:=fun a=>iX fun c _=>by grind
   rw[z] at hy;have ab:=((a4 _ _ _).1 hy).2;unfold eu.Top at ab
   have:=Fg a8 (a:=E.top) (x:=y) (fun c h a b=>a6.2 c h a b) (fun v a b=>by
    rcases Z.all v (by omega) with ⟨r,t,e⟩ | ⟨c,h,e⟩
    ·rw[<- e,G r t,z];have:=F.1 r t (by omega) (by omega);grind
    ·rw[<- e,C c h];exact Rat.le_refl) (fun c h _=>C c h) kE
   grind
  ·grind
structure jB (m n:Nat) (s:Nat -> eu) (I J:Nat -> Nat) (N:Nat):Prop where
 ok:(s 0).Ok m n
 step:∀t,t<N -> (s t).kr m n (I t) (J t) /\ s (t+1)=(s t).pivot (I t) (J t)
section
variable {m n N:Nat} {s:Nat -> eu} {I J:Nat -> Nat}
theorem jB.oZ(h:jB m n s I J N):∀t,t <= N -> (s t).Ok m n:=by
 intro t
 induction t with
 | zero=>exact fun _=>h.ok
 | succ t E=>
  intro F;obtain⟨r,C⟩:=h.step t (by omega);rw[C];exact(E (by omega)).pivot r.lt.1 r.lt.2.1
theorem jB.sol(h:jB m n s I J N){x:Nat -> Rat}{g f:Rat}:∀t,t <= N -> ((s t).Sol m n x g f↔(s 0).Sol m n x g f):=by
 intro t
 induction t with
 | zero=>exact fun _=>Iff.rfl
 | succ t E=>
  intro F;obtain⟨r,C⟩:=h.step t (by omega);rw[C,eu.uW r.lt.1 r.lt.2.1 r.lt.2.2.1];exact E (by omega)
theorem jB.tail(h:jB m n s I J N){t:Nat}(r:t <= N):jB m n (fun i=>s (t+i)) (fun i=>I (t+i)) (fun i=>J (t+i)) (N-t):=
 ⟨h.oZ t r,fun i C=>h.step (t+i) (by omega)⟩
theorem jB.front(h:jB m n s I J N){t:Nat}(C:t <= N):jB m n s I J t:=⟨h.ok,fun i r=>h.step i (by omega)⟩
theorem jB.stays(h:jB m n s I J N)(v:Nat):∀t,t <= N -> (∀i,i<t -> (s i).basic (I i)≠v /\ (s i).off (J i)≠v) -> ((∃c,c<n /\ (s 0).off c=v)↔(∃c,c<n /\ (s t).off c=v)):=by
 intro t
 induction t with
 | zero=>exact fun _ _=>Iff.rfl
 | succ t G=>
  intro R C;rw[G (by omega) fun i O=>C i (by omega)];obtain⟨M,F⟩:=h.step t (by omega);obtain⟨h1,E⟩:=C t (by omega);rw[F];simp only[eu.pivot];constructor
  ·rintro⟨c,r,e⟩;refine⟨c,r,?_⟩;rw[eT]
   ·exact e
   ·intro e';subst e';exact E e
  ·rintro⟨c,r,e⟩;refine⟨c,r,?_⟩;by_cases e':c=J t
   ·subst e';rw[upd_same] at e;exact absurd e h1
   ·rwa [eT _ _ e'] at e
theorem Fh(K:Nat):∀ (s:Nat -> eu) (I J:Nat -> Nat) (N:Nat),jB m n s I J N -> (∀t,t<N -> (s t).basic (I t)<n+K /\ (s t).off (J t)<n+K) -> N<2^K:=by
 induction K with
 | zero=>
  intro s I J N h E
  rcases Nat.eq_zero_or_pos N with h0 | h0
  ·subst h0;decide
  ·have h1:=E 0 h0;have h2:=(h.step 0 h0).1.lt;omega
 | succ K ih=>
  intro s I J N h E;have an:2^ (K+1)=2^K+2^K:=by rw[Nat.pow_succ];omega
  -- the first step that moves n + K
  by_cases a4:∃t,t<N /\ ((s t).basic (I t)=n+K \/ (s t).off (J t)=n+K)
  ·obtain⟨r,⟨a9,ad⟩,ac⟩:∃t,(t<N /\ ((s t).basic (I t)=n+K \/ (s t).off (J t)=n+K)) /\ ∀u,u<t -> ¬((s u).basic (I u)=n+K \/ (s u).off (J u)=n+K):=by
    obtain⟨t,C⟩:=a4
    induction t using Nat.strongRecOn with
    | ind t a3=>
     by_cases O:∃u,u<t /\ ((s u).basic (I u)=n+K \/ (s u).off (J u)=n+K)
     ·obtain⟨u,G,M⟩:=O;exact a3 u G ⟨by omega,M⟩
     ·exact⟨t,C,fun u G M=>O ⟨u,G,M⟩⟩
   have h1:r<2^K:=by
    refine ih s I J r (h.front (by omega)) fun t C=> ?_
    have:=E t (by omega);have:=ac t C;omega
   have h2:N-(r+1)<2^K:=by
    refine ih _ _ _ (N-(r+1)) (h.tail (t:=r+1) (by omega)) fun t C=> ?_
    have am:=E (r+1+t) (by omega)
    -- no second step moves n + K
    by_cases a5:∃u,u<N-(r+1) /\ ((s (r+1+u)).basic (I (r+1+u))=n+K \/ (s (r+1+u)).off (J (r+1+u))=n+K)
    ·exfalso
     obtain⟨u,⟨O,a6⟩,aj⟩:∃u,(u<N-(r+1) /\ ((s (r+1+u)).basic (I (r+1+u))=n+K \/ (s (r+1+u)).off (J (r+1+u))=n+K)) /\
       ∀i,i<u -> ¬((s (r+1+i)).basic (I (r+1+i))=n+K \/ (s (r+1+i)).off (J (r+1+i))=n+K):=by
      obtain⟨t,C⟩:=a5
      induction t using Nat.strongRecOn with
      | ind t a3=>
       by_cases O:∃u,u<t /\ ((s (r+1+u)).basic (I (r+1+u))=n+K \/ (s (r+1+u)).off (J (r+1+u))=n+K)
       ·obtain⟨u,G,M⟩:=O;exact a3 u G ⟨by omega,M⟩
       ·exact⟨t,C,fun u G M=>O ⟨u,G,M⟩⟩
     have T:=h.oZ r (by omega);have ai:=h.oZ (r+1) (by omega);have R:=h.oZ (r+1+u) (by omega);obtain⟨U,eA⟩:=h.step r a9;obtain⟨V,_⟩:=h.step (r+1+u) (by omega);have lA:=E r a9;have lC:=E (r+1+u) (by omega);have a8:∀x g f,(s r).Sol m n x g f↔(s (r+1+u)).Sol m n x g f:=fun x g f=>(h.sol r (by omega)).trans (h.sol (r+1+u) (by omega)).symm
     have hT:=h.tail (t:=r) (by omega);have aa:=h.tail (t:=r+1) (by omega)
     have a7:qD n (n+K) (s r) (s (r+1+u)):=by
      intro v hv
      have h3:=hT.stays v (1+u) (by omega) fun i hi=>by
       have al:=E (r+i) (by omega);have ak:=((h.step (r+i) (by omega)).1).lt;omega
      rw[show r+ (1+u)=r+1+u by omega] at h3;exact h3
     have a2:=aa.stays (n+K) u (by omega) fun i hi=>by
      have:=aj i hi;exact⟨fun e=>this (.inl e),fun e=>this (.inr e)⟩
     simp only[Nat.add_zero] at a2;obtain⟨Y,a0,_,_,_⟩:=U.lt;obtain⟨Z,a1,_,_,_⟩:=V.lt
     rcases ad with hb | ho
     ·-- it leaves first
      have ag:∃c,c<n /\ (s (r+1)).off c=n+K:=⟨J r,a0,by rw[eA];simp only[eu.pivot];rw[upd_same,hb]⟩
      obtain⟨c,X,W⟩:=a2.1 ag
      have ah:(s (r+1+u)).off (J (r+1+u))=n+K:=by
       rcases a6 with F | F
       ·exact absurd (F.trans W.symm) (R.ne _ _ Z X)
       ·exact F
      have:=R.ne _ _ Z a1;have:=T.ne _ _ Y a0;exact yF R T (fun x g f=>(a8 x g f).symm) (fun v hv=>(a7 v hv).symm) V ah (by omega) U hb (by omega)
     ·have ae:¬ ∃c,c<n /\ (s (r+1)).off c=n+K:=by
       rintro⟨c,X,W⟩;refine ai.ne (I r) c Y X ?_;rw[W,eA];simp only[eu.pivot];rw[upd_same,ho]
      have af:¬ ∃c,c<n /\ (s (r+1+u)).off c=n+K:=fun e=>ae (a2.2 e)
      have ab:(s (r+1+u)).basic (I (r+1+u))=n+K:=by
       rcases a6 with F | F
       ·exact F
       ·exact absurd ⟨_,a1,F⟩ af
      have:=R.ne _ _ Z a1;have:=T.ne _ _ Y a0;exact yF T R a8 a7 U ho (by omega) V ab (by omega)
    ·have:¬((s (r+1+t)).basic (I (r+1+t))=n+K \/ (s (r+1+t)).off (J (r+1+t))=n+K):=fun e=>a5 ⟨t,C,e⟩
     omega
   omega
  ·have:=ih s I J N h fun t C=>by
    have:=E t C;have:¬((s t).basic (I t)=n+K \/ (s t).off (J t)=n+K):=fun e=>a4 ⟨t,C,e⟩
    omega
   omega
theorem jB.len(h:jB m n s I J N):N<2^m:=by
 refine Fh m s I J N h fun t E=> ?_
 have r:=h.oZ t (by omega);obtain⟨h1,C,_⟩:=(h.step t E).1.lt;exact⟨r.bl _ h1,r.ol _ C⟩
end
def Reach(m n:Nat)(D:eu)(N:Nat)(E:eu):Prop:=∃s I J,jB m n s I J N /\ s 0=D /\ s N=E
theorem Reach.refl{m n:Nat}{D:eu}(h:D.Ok m n):Reach m n D 0 D:=⟨fun _=>D,fun _=>0,fun _=>0,⟨h,fun _ h=>absurd h (by omega)⟩,rfl,rfl⟩
theorem Reach.step{m n N i j:Nat}{D E:eu}(h:Reach m n D N E)(C:E.kr m n i j):Reach m n D (N+1) (E.pivot i j):=by
 obtain⟨s,I,J,r,h0,hN⟩:=h;refine⟨fun t=>if t <= N then s t else E.pivot i j,fun t=>if t<N then I t else i,fun t=>if t<N then J t else j,⟨?_,fun t F=> ?_⟩,?_,?_⟩
 ·simp only[Nat.zero_le,if_true];exact r.ok
 ·by_cases h1:t<N
  ·simp only[h1,if_true,show t <= N by omega,show t+1 <= N by omega];exact r.step t h1
  ·have:t=N:=by omega
   subst this;simp only[Nat.le_refl,if_true,Nat.lt_irrefl,if_false,show ¬(t+1 <= t) by omega,hN];exact⟨C,trivial⟩
 ·simp only[Nat.zero_le,if_true];exact h0
 ·simp only[show ¬(N+1 <= N) by omega,if_false]
theorem Reach.lt{m n N:Nat}{D E:eu}(h:Reach m n D N E):N<2^m:=by obtain⟨s,I,J,r,_,_⟩:=h;exact r.len
theorem Reach.ok{m n N:Nat}{D E:eu}(h:Reach m n D N E):E.Ok m n:=by obtain⟨s,I,J,r,_,rfl⟩:=h;exact r.oZ N (Nat.le_refl _)
theorem Reach.sol{m n N:Nat}{D E:eu}(h:Reach m n D N E){x:Nat -> Rat}{g f:Rat}:E.Sol m n x g f↔D.Sol m n x g f:=by obtain⟨s,I,J,r,rfl,rfl⟩:=h;exact r.sol N (Nat.le_refl _)
def eu.init(n:Nat)(A:Nat -> Nat -> Rat)(b c:Nat -> Rat):eu where
 basic:=fun r=>n+r
 off:=fun j=>j
 con:=b
 cell:=A
 top:=fun j=> - c j
 val:=0
def eB(n:Nat)(a x:Nat -> Rat):Rat:=sumTo n (fun k=>a k*x k)
theorem eu.nQ(m n:Nat)(A:Nat -> Nat -> Rat)(b c:Nat -> Rat):(eu.init n A b c).Ok m n:=by
 refine⟨?_,?_,?_,?_,?_,?_⟩ <;> simp only[eu.init]
 ·intro r s _ _ h;omega
 ·intro c d _ _ h;exact h
 ·intro r c _ t h;omega
 ·intro r C;omega
 ·intro c t;omega
 ·intro v E;by_cases h:v<n
  ·exact .inr ⟨v,h,rfl⟩
  ·exact .inl ⟨v-n,by omega,by omega⟩
theorem eu.sw{m n:Nat}{A:Nat -> Nat -> Rat}{b c:Nat -> Rat}{x:Nat -> Rat}{g f:Rat}:(eu.init n A b c).Sol m n x g f↔(∀r,r<m -> x (n+r)=b r*g-eB n (A r) x) /\ f=eB n c x:=by
 unfold eu.Sol eu.Row eu.Top eB;simp only[eu.init]
 have e:(0:Rat)*g-sumTo n (fun k=> - c k*x k)=sumTo n (fun k=>c k*x k):=by
  have:sumTo n (fun k=> - c k*x k)=(-1)*sumTo n (fun k=>c k*x k):=by rw[<- mR];exact sumTo_congr fun k _=>by grind
  rw[this];grind
 rw[e]
theorem qE{n:Nat}{a x y:Nat -> Rat}(h:∀k,k<n -> x k=y k):eB n a x=eB n a y:=sumTo_congr fun k r=>by rw[h k r]
theorem eu.yG{m n:Nat}(A:Nat -> Nat -> Rat)(b c x:Nat -> Rat)(g:Rat):∃y,(eu.init n A b c).Sol m n y g (eB n c x) /\ (∀k,k<n -> y k=x k) /\ ∀r,r<m -> y (n+r)=b r*g-eB n (A r) x:=by
 have e:∀a:Nat -> Rat,eB n a (fun v=>if v<n then x v else b (v-n)*g-eB n (A (v-n)) x)=eB n a x:=fun a=>qE fun k h=>if_pos h
 refine⟨fun v=>if v<n then x v else b (v-n)*g-eB n (A (v-n)) x,eu.sw.2 ⟨fun r _=> ?_,(e c).symm⟩,fun k h=>if_pos h,fun r _=> ?_⟩
 ·rw[e,if_neg (by omega),show n+r-n=r by omega]
 ·simp only[];rw[if_neg (by omega),show n+r-n=r by omega]
def jC(m n:Nat)(A:Nat -> Nat -> Rat)(b x:Nat -> Rat):Prop:=∀i,i<m -> eB n (A i) x <= b i
structure jc (m n:Nat) (A:Nat -> Nat -> Rat) (y c:Nat -> Rat):Prop where
 pos:∀i,i<m -> 0 <= y i
 sum:∀k,k<n -> eB m y (fun i=>A i k)=c k
structure Opt (m n:Nat) (A:Nat -> Nat -> Rat) (b c:Nat -> Rat) (v:Rat) (x y:Nat -> Rat):Prop where
 du:jc m n A y c
 bound:eB m y b=v
 holds:jC m n A b x
 value:eB n c x=v
structure Inf (m n:Nat) (A:Nat -> Nat -> Rat) (b:Nat -> Rat) (y:Nat -> Rat):Prop where
 du:jc m n A y (fun _=>0)
 bound:eB m y b<0
structure Unb (m n:Nat) (A:Nat -> Nat -> Rat) (b c x d:Nat -> Rat):Prop where
 holds:jC m n A b x
 ray:∀i,i<m -> eB n (A i) d <= 0
 up:0<eB n c d
theorem sumTo_le{n:Nat}{f g:Nat -> Rat}(h:∀c,c<n -> f c <= g c):sumTo n f <= sumTo n g:=by
 have:=rZ (n:=n) (f:=fun c=>g c-f c) (fun c r=>by have:=h c r;grind);rw[yC] at this;grind
theorem yH{m n:Nat}{A:Nat -> Nat -> Rat}{y c x:Nat -> Rat}(h:jc m n A y c):eB n c x=eB m y (fun i=>eB n (A i) x):=by
 have e:eB n c x=sumTo n (fun k=>sumTo m (fun i=>y i*A i k)*x k):=sumTo_congr fun k t=>by rw[<- h.sum k t];rfl
 have r:sumTo n (fun k=>sumTo m (fun i=>y i*A i k)*x k)=sumTo n (fun k=>sumTo m (fun i=>y i*A i k*x k)):=sumTo_congr fun k _=>by
  rw[show sumTo m (fun i=>y i*A i k)*x k=x k*sumTo m (fun i=>y i*A i k) by grind, <- mR];exact sumTo_congr fun i _=>by grind
 rw[e,r,yD];refine sumTo_congr fun i _=> ?_
 rw[show y i*eB n (A i) x=y i*sumTo n (fun k=>A i k*x k) from rfl, <- mR];exact sumTo_congr fun k _=>by grind
theorem yI{m n:Nat}{A:Nat -> Nat -> Rat}{b y c x:Nat -> Rat}(h:jc m n A y c)(t:jC m n A b x):eB n c x <= eB m y b:=by
 rw[yH h];exact sumTo_le fun i r=>Rat.mul_le_mul_of_nonneg_left (t i r) (h.pos i r)
theorem Fj{m n:Nat}{A:Nat -> Nat -> Rat}{y c d:Nat -> Rat}(h:jc m n A y c)(t:∀i,i<m -> eB n (A i) d <= 0):eB n c d <= 0:=by
 rw[yH h];have:=rZ (n:=m) (f:=fun i=>y i* (- eB n (A i) d)) (fun i r=>Rat.mul_nonneg (h.pos i r) (by have:=t i r;grind))
 have e:sumTo m (fun i=>y i* (- eB n (A i) d))=(-1)*eB m y (fun i=>eB n (A i) d):=by
  unfold eB;rw[<- mR];exact sumTo_congr fun i _=>by grind
 rw[e] at this;grind
section
variable {m n:Nat} {A:Nat -> Nat -> Rat} {b c x y d x' y':Nat -> Rat} {v v':Rat}
theorem Opt.le(h:Opt m n A b c v x y)(r:jC m n A b x'):eB n c x' <= v:=by have:=yI h.du r;rw[h.bound] at this;exact this
theorem Opt.eq(h:Opt m n A b c v x y)(r:Opt m n A b c v' x' y'):v=v':=by
 have h1:=h.le r.holds;have t:=r.le h.holds;rw[r.value] at h1;rw[h.value] at t;exact Rat.le_antisymm t h1
theorem Inf.no(h:Inf m n A b y)(r:jC m n A b x):False:=by
 have h1:=yI h.du r;have t:=h.bound;have:eB n (fun _=>0) x=0:=iX fun k _=>by grind
 grind
theorem Unb.no(h:Unb m n A b c x d)(r:Opt m n A b c v x' y'):False:=by
 have:=Fj r.du h.ray;have:=h.up;grind
end
theorem yJ{m n:Nat}{A:Nat -> Nat -> Rat}{b c y:Nat -> Rat}{p q:Rat}(h:∀x g f,(eu.init n A b c).Sol m n x g f -> eB m y (fun i=>x (n+i))=p*g-q*f):
  (∀k,k<n -> eB m y (fun i=>A i k)=q*c k) /\ eB m y b=p:=by
 constructor
 ·intro k F;obtain⟨z,C,_,t⟩:=eu.yG (m:=m) (n:=n) A b c (fun v=>if v=k then 1 else 0) 0
  have one:∀a:Nat -> Rat,eB n a (fun v=>if v=k then 1 else 0)=a k:=fun a=>by
   unfold eB;rw[kU F (fun c _ E=>by simp only[if_neg E];grind)];simp only[if_true];grind
  have h1:=h z 0 _ C;rw[one] at h1
  have e:eB m y (fun i=>z (n+i))=(-1)*eB m y (fun i=>A i k):=by
   unfold eB;rw[<- mR];exact sumTo_congr fun i r=>by simp only[];rw[t i r,one];grind
  rw[e] at h1;grind
 ·obtain⟨z,C,_,t⟩:=eu.yG (m:=m) (n:=n) A b c (fun _=>0) 1;have zero:∀a:Nat -> Rat,eB n a (fun _=>0)=0:=fun a=>iX fun _ _=>by grind
  have h1:=h z 1 _ C;rw[zero] at h1
  have e:eB m y (fun i=>z (n+i))=eB m y b:=by
   unfold eB;exact sumTo_congr fun i r=>by simp only[];rw[t i r,zero];grind
  rw[e] at h1;grind
def spread(n:Nat)(o:Nat -> Nat)(a:Nat -> Rat)(k:Nat):Rat:=sumTo n (fun c=>if o c=k then a c else 0)
theorem qF{n:Nat}{o:Nat -> Nat}(t:∀c d,c<n -> d<n -> o c=o d -> c=d)(a:Nat -> Rat){c:Nat}(h:c<n):spread n o a (o c)=a c:=by
 unfold spread;rw[kU h (fun d r C=>if_neg fun e=>C (t d c r h e)),if_pos rfl]
theorem nR{n:Nat}{o:Nat -> Nat}(a:Nat -> Rat){k:Nat}(h:∀c,c<n -> o c≠k):spread n o a k=0:=iX fun c r=>if_neg (h c r)
theorem yK{m n:Nat}{o:Nat -> Nat}(C:∀c,c<n -> o c<n+m)(a x:Nat -> Rat):eB m (fun i=>spread n o a (n+i)) (fun i=>x (n+i))=sumTo n (fun c=>if n <= o c then a c*x (o c) else 0):=by
 unfold eB spread
 have e:sumTo m (fun i=>sumTo n (fun c=>if o c=n+i then a c else 0)*x (n+i))=sumTo m (fun i=>sumTo n (fun c=>if o c=n+i then a c*x (n+i) else 0)):=sumTo_congr fun i _=>by
  rw[show sumTo n (fun c=>if o c=n+i then a c else 0)*x (n+i)=x (n+i)*sumTo n (fun c=>if o c=n+i then a c else 0) by grind, <- mR];exact sumTo_congr fun c _=>by split <;> grind
 rw[e,yD];refine sumTo_congr fun c r=> ?_
 by_cases h:n <= o c
 ·rw[if_pos h];have:=C c r;rw[kU (j:=o c-n) (by omega) (fun i t E=>if_neg (by omega)),if_pos (by omega),show n+ (o c-n)=o c by omega]
 ·rw[if_neg h];exact iX fun i t=>if_neg (by omega)
def eu.Zed(m n:Nat)(D:eu):Prop:=∀r c,r<m -> c<n -> n <= D.basic r -> D.off c<n -> D.cell r c=0
def eu.mU(n:Nat)(D:eu):Prop:=∀c,c<n -> D.off c<n -> D.top c=0
theorem eu.Zed.pivot{m n i j:Nat}{D:eu}(h:D.Zed m n)(O:D.kr m n i j):(D.pivot i j).Zed m n:=by
 obtain⟨R,T,U,G,V⟩:=O.lt;intro r c M E h1 t;simp only[eu.pivot] at*;have C:c≠j:=by rintro rfl;rw[upd_same] at t;omega
 rw[eT _ _ C] at t;by_cases F:r=i
 ·subst F;rw[if_pos rfl,eT _ _ C,h r c M E G t];grind
 ·rw[eT _ _ F] at h1;rw[if_neg F,eT _ _ C,eT _ _ C,h r c M E h1 t,h i c R E G t];grind
theorem eu.mU.pivot{m n i j:Nat}{D:eu}(h:D.mU n)(M:D.Zed m n)(F:D.kr m n i j):(D.pivot i j).mU n:=by
 obtain⟨G,O,R,E,T⟩:=F.lt;intro c C r;simp only[eu.pivot] at*;have t:c≠j:=by rintro rfl;rw[upd_same] at r;omega
 rw[eT _ _ t] at r;rw[eT _ _ t,eT _ _ t,h c C r,M i c G C E r];grind
theorem Reach.zed{m n N:Nat}{D E:eu}(h:Reach m n D N E)(G:D.Zed m n):E.Zed m n:=by
 obtain⟨s,I,J,C,rfl,rfl⟩:=h
 have:∀t,t <= N -> (s t).Zed m n:=by
  intro t
  induction t with
  | zero=>exact fun _=>G
  | succ t M=>intro O;obtain⟨r,F⟩:=C.step t (by omega);rw[F];exact(M (by omega)).pivot r
 exact this N (Nat.le_refl _)
theorem Reach.Fp{m n N:Nat}{D E:eu}(h:Reach m n D N E)(O:D.Zed m n)(F:D.mU n):E.mU n:=by
 obtain⟨s,I,J,G,rfl,rfl⟩:=h
 have:∀t,t <= N -> (s t).Zed m n /\ (s t).mU n:=by
  intro t
  induction t with
  | zero=>exact fun _=>⟨O,F⟩
  | succ t r=>intro F;obtain⟨C,M⟩:=G.step t (by omega);rw[M];exact⟨(r (by omega)).1.pivot C,(r (by omega)).2.pivot (r (by omega)).1 C⟩
 exact(this N (Nat.le_refl _)).2
section
variable {m n:Nat} {A:Nat -> Nat -> Rat} {b c:Nat -> Rat} {D:eu}
theorem yL(h:D.Ok m n)(U:∀x g f,D.Sol m n x g f↔(eu.init n A b c).Sol m n x g f)(M:D.kV m n (n+m))(Z:D.mU n):
  Opt m n A b c D.val (spread m D.basic D.con) (fun i=>spread n D.off D.top (n+i)):=by
 have Y:∀x g f,(eu.init n A b c).Sol m n x g f -> eB m (fun i=>spread n D.off D.top (n+i)) (fun i=>x (n+i))=D.val*g-1*f:=by
  intro x g f F;have V:=((U x g f).2 F).2;unfold eu.Top at V;rw[yK h.ol,V]
  have:sumTo n (fun k=>if n <= D.off k then D.top k*x (D.off k) else 0)=sumTo n (fun k=>D.top k*x (D.off k)):=sumTo_congr fun k E=>by
   split
   ·rfl
   ·rw[Z k E (by omega)];grind
  rw[this];grind
 obtain⟨h1,X⟩:=yJ Y;obtain⟨x,F,R,G⟩:=D.lS h (fun _=>0) 1;have z:∀a:Nat -> Rat,sumTo n (fun c=>a c*0)=0:=fun a=>iX fun c _=>by grind
 have W:=eu.sw.1 ((U _ _ _).1 F)
 have T:∀k,k<n -> x k=spread m D.basic D.con k:=by
  intro k E
  rcases h.all k (by omega) with ⟨r,C,rfl⟩ | ⟨c,t,rfl⟩
  ·rw[qF h.bi _ C,G r C,z];grind
  ·rw[R c t,nR _ fun r C=>h.ne r c C t]
 refine⟨⟨fun i O=> ?_,fun k E=>by rw[h1 k E];grind⟩,X,fun i O=> ?_,?_⟩
 ·rcases h.all (n+i) (by omega) with ⟨r,C,e⟩ | ⟨c,t,e⟩
  ·rw[nR _ fun c t=>by rw[<- e];exact fun e'=>h.ne r c C t e'.symm];exact Rat.le_refl
  ·rw[<- e,qF h.oi _ t];exact M.2 c t (by omega) (h.ol c t)
 ·rw[<- qE T];have e:=W.1 i O
  have a0:0 <= x (n+i):=by
   rcases h.all (n+i) (by omega) with ⟨r,C,e⟩ | ⟨c,t,e⟩
   ·rw[<- e,G r C,z];have:=M.1 r C (by omega) (h.bl r C);grind
   ·rw[<- e,R c t];exact Rat.le_refl
  grind
 ·rw[<- qE T];have e:=W.2;rw[z] at e;grind
theorem yM(h:D.Ok m n)(V:∀x g f,D.Sol m n x g f↔(eu.init n A b c).Sol m n x g f)(Y:D.Zed m n){i:Nat}(E:i<m)(O:n <= D.basic i)(R:D.con i<0)(T:∀c,c<n -> n <= D.off c -> 0 <= D.cell i c):
  Inf m n A b (fun k=>(if D.basic i=n+k then 1 else 0)+spread n D.off (D.cell i) (n+k)):=by
 have Z:=h.bl i E
 have X:∀x g f,(eu.init n A b c).Sol m n x g f -> eB m (fun k=>(if D.basic i=n+k then 1 else 0)+spread n D.off (D.cell i) (n+k)) (fun i=>x (n+i))=D.con i*g-0*f:=by
  intro x g f W;have F:=((V x g f).2 W).1 i E;unfold eu.Row at F
  have G:eB m (fun k=>(if D.basic i=n+k then 1 else 0)+spread n D.off (D.cell i) (n+k)) (fun i=>x (n+i))=sumTo m (fun k=>(if D.basic i=n+k then 1 else 0)*x (n+k))+eB m (fun k=>spread n D.off (D.cell i) (n+k)) (fun i=>x (n+i)):=by
   unfold eB;rw[<- yB];exact sumTo_congr fun k _=>by grind
  rw[G,yK h.ol,kU (j:=D.basic i-n) (by omega) (fun k t a0=>by rw[if_neg (by omega)];grind),if_pos (by omega),show n+ (D.basic i-n)=D.basic i by omega,F]
  have:sumTo n (fun k=>if n <= D.off k then D.cell i k*x (D.off k) else 0)=sumTo n (fun k=>D.cell i k*x (D.off k)):=sumTo_congr fun k t=>by
   split
   ·rfl
   ·rw[Y i k E t O (by omega)];grind
  rw[this];grind
 obtain⟨h1,M⟩:=yJ X;refine⟨⟨fun k t=> ?_,fun k t=>by rw[h1 k t];grind⟩,by rw[M];exact R⟩
 have:0 <= spread n D.off (D.cell i) (n+k):=by
  rcases h.all (n+k) (by omega) with ⟨r,U,e⟩ | ⟨c,C,e⟩
  ·rw[nR _ fun c C=>by rw[<- e];exact fun e'=>h.ne r c U C e'.symm];exact Rat.le_refl
  ·rw[<- e,qF h.oi _ C];exact T c C (by omega)
 split <;> grind
theorem yN(t:D.Ok m n)(V:∀x g f,D.Sol m n x g f↔(eu.init n A b c).Sol m n x g f){j:Nat}(F:j<n)(s:Rat)(W:n <= D.off j -> 0 <= s)(E:∀r,r<m -> n <= D.basic r -> s*D.cell r j <= 0)(a0:0< - (s*D.top j)):
  (∀i,i<m -> eB n (A i) (fun k=>(if D.off j=k then s else 0)+spread m D.basic (fun r=> - (s*D.cell r j)) k) <= 0) /\ 0<eB n c (fun k=>(if D.off j=k then s else 0)+spread m D.basic (fun r=> - (s*D.cell r j)) k):=by
 obtain⟨x,X,M,G⟩:=D.lS t (fun c=>if c=j then s else 0) 0
 have z:∀a:Nat -> Rat,sumTo n (fun c=>a c* (if c=j then s else 0))=a j*s:=fun a=>by
  rw[kU F (fun c _ C=>by rw[if_neg C];grind),if_pos rfl]
 have T:=eu.sw.1 ((V _ _ _).1 X)
 have O:∀k,k<n -> x k=(if D.off j=k then s else 0)+spread m D.basic (fun r=> - (s*D.cell r j)) k:=by
  intro k Y
  rcases t.all k (by omega) with ⟨r,E,rfl⟩ | ⟨c,C,rfl⟩
  ·rw[qF t.bi _ E,G r E,z,if_neg fun e=>t.ne r j E F e.symm];grind
  ·rw[M c C,nR _ fun r E=>t.ne r c E C];by_cases e:c=j
   ·rw[if_pos e,if_pos (by rw[e])];grind
   ·rw[if_neg e,if_neg fun e'=>e (t.oi c j C F e'.symm)];grind
 refine⟨fun i U=> ?_,?_⟩
 ·rw[<- qE O];have e:=T.1 i U
  have Z:0 <= x (n+i):=by
   rcases t.all (n+i) (by omega) with ⟨r,R,e⟩ | ⟨c,C,e⟩
   ·rw[<- e,G r R,z];have:=E r R (by omega);grind
   ·rw[<- e,M c C];split
    ·rename_i h;subst h;exact W (by omega)
    ·exact Rat.le_refl
  grind
 ·rw[<- qE O];have e:=T.2;rw[z] at e;grind
end
def eu.Rel(m n:Nat)(D:eu)(j:Nat):Prop:=(∀c,j <= c -> c<n -> D.off c=c) /\ ∀c r,c<j -> c<n -> r<m -> n <= D.basic r -> D.off c<n -> D.cell r c=0
theorem eu.Rel.zed{m n:Nat}{D:eu}(h:D.Rel m n n):D.Zed m n:=fun r c E t h1 C=>h.2 c r t t E h1 C
theorem eu.yO(m n:Nat)(A:Nat -> Nat -> Rat)(b c:Nat -> Rat):(eu.init n A b c).Rel m n 0:=⟨fun _ _ _=>rfl,fun _ _ h=>absurd h (by omega)⟩
theorem eu.Rel.none_{m n j:Nat}{D:eu}(h:D.Rel m n j)(G:∀r,r<m -> n <= D.basic r -> D.cell r j=0):D.Rel m n (j+1):=
 ⟨fun c h1 t=>h.1 c (by omega) t,fun c r h1 t E C F=>by
  by_cases e:c=j
  ·subst e;exact G r E C
  ·exact h.2 c r (by omega) t E C F⟩
theorem eu.Rel.pivot{m n i j:Nat}{D:eu}(h:D.Rel m n j)(O:j<n)(M:i<m)(G:n <= D.basic i):(D.pivot i j).Rel m n (j+1):=by
 have T:=h.1 j (Nat.le_refl _) O;refine⟨fun c h1 t=> ?_,fun c r h1 t R E C=> ?_⟩
 ·simp only[eu.pivot];rw[eT _ _ (by omega)];exact h.1 c (by omega) t
 ·simp only[eu.pivot] at*;by_cases e:c=j
  ·subst e;rw[upd_same] at C;omega
  ·rw[eT _ _ e] at C;by_cases F:r=i
   ·subst F;rw[upd_same] at E;omega
   ·rw[eT _ _ F] at E;rw[if_neg F,eT _ _ e,eT _ _ e,h.2 c r (by omega) t R E C,h.2 c i (by omega) t M G C];grind
def RL(k:Nat)(q:Rat):Prop:=q.num.natAbs<10^k /\ q.den<10^k
theorem yP{k m:Nat}(h:k <= m):10^k <= 10^m:=Nat.pow_le_pow_right (by decide) h
theorem RL.mono{k m:Nat}{q:Rat}(h:RL k q)(r:k <= m):RL m q:=⟨Nat.lt_of_lt_of_le h.1 (yP r),Nat.lt_of_lt_of_le h.2 (yP r)⟩
theorem uX{p d:Int}{k:Nat}(h:d≠0)(E:p.natAbs<10^k)(r:d.natAbs<10^k):RL k (Rat.divInt p d):=by
 have C:0<d.gcd p:=Int.gcd_pos_of_ne_zero_left p h;constructor
 ·rw[Rat.num_divInt]
  have h1:(d.sign*p / (d.gcd p:Nat)).natAbs <= (d.sign*p).natAbs:=by
   rw[Int.natAbs_ediv_of_dvd]
   ·exact Nat.div_le_self _ _
   ·exact Int.dvd_trans (Int.gcd_dvd_right ..) ⟨d.sign,by rw[Int.mul_comm]⟩
  have t:(d.sign*p).natAbs <= p.natAbs:=by
   rw[Int.natAbs_mul,Int.natAbs_sign_of_ne_zero h,Nat.one_mul];exact Nat.le_refl _
  omega
 ·rw[Rat.den_divInt,if_neg h];exact Nat.lt_of_le_of_lt (Nat.div_le_self _ _) r
theorem yQ{p:Int}{d k:Nat}(t:d≠0)(r:p.natAbs<10^k)(h:d<10^k):RL k (mkRat p d):=by
 rw[<- Rat.divInt_ofNat];exact uX (by omega) r (by simpa using h)
theorem RL.zero:RL 1 0:=by unfold RL;decide
theorem RL.one:RL 1 1:=by unfold RL;decide
theorem RL.neg{k:Nat}{q:Rat}(h:RL k q):RL k (-q):=by unfold RL at*;rw[Rat.neg_num,Rat.neg_den,Int.natAbs_neg];exact h
theorem RL.mul{k m:Nat}{p q:Rat}(h:RL k p)(r:RL m q):RL (k+m) (p*q):=by
 rw[Rat.mul_def'];refine yQ (Nat.mul_ne_zero p.den_nz q.den_nz) ?_ ?_
 ·rw[Int.natAbs_mul,Nat.pow_add];exact Nat.mul_lt_mul'' h.1 r.1
 ·rw[Nat.pow_add];exact Nat.mul_lt_mul'' h.2 r.2
theorem RL.Fq{k:Nat}{q:Rat}(h:RL k q)(r:q≠0):RL k (q⁻¹):=by
 have h0:q.num≠0:=fun e=>r (Rat.num_eq_zero.1 e)
 constructor
 ·rw[Rat.num_inv,Int.natAbs_mul,Int.natAbs_sign_of_ne_zero h0];have:=h.2
  simpa using this
 ·rw[Rat.den_inv,if_neg h0];exact h.1
theorem RL.div{k m:Nat}{p q:Rat}(h:RL k p)(r:RL m q)(t:q≠0):RL (k+m) (p / q):=by
 rw[Rat.div_def];exact h.mul (r.Fq t)
theorem RL.add{k m:Nat}{p q:Rat}(h:RL k p)(r:RL m q):RL (k+m+1) (p+q):=by
 rw[Rat.add_def'];have e:10^ (k+m+1)=10^k*10^m*10:=by rw[Nat.pow_succ,Nat.pow_add]
 refine yQ (Nat.mul_ne_zero p.den_nz q.den_nz) ?_ ?_
 ·have h1:(p.num* (q.den:Int)).natAbs<10^k*10^m:=by rw[Int.natAbs_mul,Int.natAbs_natCast];exact Nat.mul_lt_mul'' h.1 r.2
  have t:(q.num* (p.den:Int)).natAbs<10^k*10^m:=by rw[Int.natAbs_mul,Int.natAbs_natCast,Nat.mul_comm];exact Nat.mul_lt_mul'' h.2 r.1
  have:=Int.natAbs_add_le (p.num* (q.den:Int)) (q.num* (p.den:Int));omega
 ·have:p.den*q.den<10^k*10^m:=Nat.mul_lt_mul'' h.2 r.2;omega
theorem RL.sub{k m:Nat}{p q:Rat}(h:RL k p)(r:RL m q):RL (k+m+1) (p-q):=by
 rw[Rat.sub_eq_add_neg];exact h.add r.neg
structure eu.Lim (m n:Nat) (D:eu) (k:Nat):Prop where
 con:∀r,r<m -> RL k (D.con r)
 cell:∀r c,r<m -> c<n -> RL k (D.cell r c)
 top:∀c,c<n -> RL k (D.top c)
 val:RL k D.val
theorem eu.Lim.pos{m n k:Nat}{D:eu}(h:D.Lim m n k):0<k:=by
 rcases Nat.eq_zero_or_pos k with h0 | h0
 ·subst h0;have:=h.val.2;have:=D.val.den_pos;omega
 ·exact h0
def count(n:Nat)(p:Nat -> Bool):Nat:=match n with
 | 0=>0
 | n+1=>count n p+if p n then 1 else 0
theorem yR{n:Nat}{p q:Nat -> Bool}(h:∀k,k<n -> p k=q k):count n p=count n q:=by
 induction n with
 | zero=>rfl
 | succ n r=>simp only[count];rw[r fun k t=>h k (by omega),h n (by omega)]
theorem count_le(n:Nat)(p:Nat -> Bool):count n p <= n:=by
 induction n with
 | zero=>exact Nat.le_refl _
 | succ n h=>simp only[count];split <;> omega
theorem Fs{n:Nat}{p:Nat -> Bool}(h:count n p=0):∀k,k<n -> p k=false:=by
 induction n with
 | zero=>intro k r;omega
 | succ n t=>
  simp only[count] at h;intro k r;by_cases e:k=n
  ·subst e;cases hp:p k
   ·rfl
   ·rw[hp] at h;simp at h
  ·exact t (by omega) k (by omega)
theorem Fu{n:Nat}{p:Nat -> Bool}(h:count n p≠0):∃k,k<n /\ p k=true:=by
 induction n with
 | zero=>exact absurd rfl h
 | succ n r=>
  simp only[count] at h;cases hp:p n
  ·rw[hp] at h;obtain⟨k,t,e⟩:=r (by simpa using h);exact⟨k,by omega,e⟩
  ·exact⟨n,by omega,hp⟩
theorem yS{n i:Nat}{p q:Nat -> Bool}(G:i<n)(h:∀k,k<n -> k≠i -> p k=q k)(C:p i=true)(E:q i=false):count n p=count n q+1:=by
 induction n with
 | zero=>omega
 | succ n F=>
  simp only[count];by_cases e:i=n
  ·subst e;rw[yR fun k r=>h k (by omega) (by omega),C,E];simp
  ·rw[F (by omega) fun k r t=>h k (by omega) t,h n (by omega) (by omega)];omega
def mV:Nat -> (Nat -> Nat) -> Nat
 | 0,_=>1
 | n+1,f=>mV n f*f n
theorem yT{n c:Nat}{f:Nat -> Nat}(r:c<n):f c ∣ mV n f:=by
 induction n with
 | zero=>omega
 | succ n h=>
  by_cases e:c=n
  ·subst e;exact Nat.dvd_mul_left _ _
  ·exact Nat.dvd_trans (h (by omega)) (Nat.dvd_mul_right _ _)
theorem Fv{n M:Nat}{f:Nat -> Nat}(h:∀c,c<n -> 0<f c /\ f c <= M):0<mV n f /\ mV n f <= M^n:=by
 induction n with
 | zero=>exact⟨Nat.one_pos,Nat.le_refl _⟩
 | succ n t=>
  have h1:=t fun c C=>h c (by omega)
  have r:=h n (by omega);exact⟨Nat.mul_pos h1.1 r.1,by rw[Nat.pow_succ];exact Nat.mul_le_mul h1.2 r.2⟩
theorem Fw(q:Rat):q* (q.den:Rat)=(q.num:Rat):=by
 have h:q=Rat.divInt q.num q.den:=(Rat.num_divInt_den q).symm;rw[Rat.divInt_eq_div] at h
 have t:((q.den:Int):Rat)≠0:=by
  intro e;have:(q.den:Int)=0:=by exact_mod_cast e
  have:=q.den_pos;omega
 have r:=Rat.div_mul_cancel (a:=(q.num:Rat)) t;rw[<- h] at r
 exact_mod_cast r
theorem RL.clear{k s R:Nat}{q:Rat}(h:RL k q)(t:q.den ∣ R)(h0:0<R)(r:R <= 10^s):∃z:Int,z.natAbs<10^ (k+s) /\ q* (R:Rat)=z:=by
 obtain⟨e,rfl⟩:=t;refine⟨q.num* (e:Int),?_,?_⟩
 ·have C:e <= 10^s:=Nat.le_trans (Nat.le_mul_of_pos_left _ q.den_pos) r;rw[Int.natAbs_mul,Int.natAbs_natCast,Nat.pow_add];exact Nat.lt_of_le_of_lt (Nat.mul_le_mul_left _ C) (Nat.mul_lt_mul_of_pos_right h.1 (Nat.pow_pos (by decide)))
 ·have:=Fw q
  push_cast
  grind
structure eu.nS (m n:Nat) (D:eu) (σ:Nat -> Nat) (τ:Nat) (d:Int) (b:Nat):Prop where
 d0:d≠0
 dl:d.natAbs<10^b
 con:∀r,r<m -> ∃z:Int,z.natAbs<10^b /\ D.con r* (σ (D.basic r):Rat)* (d:Rat)=z
 cell:∀r c,r<m -> c<n -> ∃z:Int,z.natAbs<10^b /\ D.cell r c* (σ (D.basic r):Rat)* (d:Rat)=z* (σ (D.off c):Rat)
 top:∀c,c<n -> ∃z:Int,z.natAbs<10^b /\ D.top c* (τ:Rat)* (d:Rat)=z* (σ (D.off c):Rat)
 val:∃z:Int,z.natAbs<10^b /\ D.val* (τ:Rat)* (d:Rat)=z
theorem p8{b:Nat}{x y:Int}(r:x.natAbs<10^b)(t:y.natAbs<10^b):(x*y).natAbs<10^ (2*b+1):=by
 have h:=Nat.mul_lt_mul'' r t;rw[Int.natAbs_mul,show 2*b+1=b+b+1 by omega,Nat.pow_succ,Nat.pow_add];omega
theorem sD{b:Nat}{x y z u:Int}(C:x.natAbs<10^b)(E:y.natAbs<10^b)(F:z.natAbs<10^b)(t:u.natAbs<10^b):(x*y-z*u).natAbs<10^ (2*b+1):=by
 have h:=Nat.mul_lt_mul'' C E;have G:=Nat.mul_lt_mul'' F t;have r:=Int.natAbs_sub_le (x*y) (z*u);rw[Int.natAbs_mul,Int.natAbs_mul] at r;rw[show 2*b+1=b+b+1 by omega,Nat.pow_succ,Nat.pow_add];omega
theorem yU{a:Nat}(h:0<a):(a:Rat)≠0:=by
 intro e;have:a=0:=by exact_mod_cast e
 omega
theorem eu.nS.pivot{m n i j b:Nat}{D:eu}{σ:Nat -> Nat}{τ:Nat}{d:Int}(h:D.nS m n σ τ d b)(hσ:∀v,0<σ v)(V:i<m)(W:j<n)(hk:D.cell i j≠0):∃d',(D.pivot i j).nS m n σ τ d' (2*b+1):=by
 obtain⟨p,X,ep⟩:=h.cell i j V W;have hd:(d:Rat)≠0:=fun e=>h.d0 (by exact_mod_cast e)
 have hs:=yU (hσ (D.basic i));have ho:=yU (hσ (D.off j))
 have a0:p≠0:=by
  rintro rfl;have E:D.cell i j* (σ (D.basic i):Rat)* (d:Rat)=0:=by rw[ep];simp
  rcases Rat.mul_eq_zero.1 E with E | E
  ·rcases Rat.mul_eq_zero.1 E with E | E
   ·exact hk E
   ·exact hs E
  ·exact hd E
 have a2:(p:Rat)≠0:=fun e=>a0 (by exact_mod_cast e)
 -- what stands in the pivot row
 have U:∀ (a:Rat) (z y:Rat),a* (σ (D.basic i):Rat)* (d:Rat)=z*y -> a / D.cell i j* (σ (D.off j):Rat)* (p:Rat)=z*y:=by
  intro a z y e;have R:a / D.cell i j*D.cell i j=a:=Rat.div_mul_cancel hk
  have t:a / D.cell i j* (σ (D.off j):Rat)* (p:Rat)=a / D.cell i j*D.cell i j* (σ (D.basic i):Rat)* (d:Rat):=by
   have:(σ (D.off j):Rat)* (p:Rat)=D.cell i j* (σ (D.basic i):Rat)* (d:Rat):=by rw[ep];grind
   grind
  rw[t,R,e]
 have a1:1 / D.cell i j* (σ (D.off j):Rat)* (p:Rat)=(d:Rat)* (σ (D.basic i):Rat):=U 1 d (σ (D.basic i):Rat) (by grind);refine⟨d*p,⟨Int.mul_ne_zero h.d0 a0,p8 h.dl X,fun r T=> ?_,fun r c T O=> ?_,fun c O=> ?_,?_⟩⟩
 ·obtain⟨z,C,F⟩:=h.con i V;have R:=U (D.con i) z 1 (by rw[F];grind);simp only[eu.pivot];by_cases e:r=i
  ·subst e;rw[if_pos rfl,upd_same];refine⟨z*d,p8 C h.dl,?_⟩
   push_cast
   grind
  ·rw[if_neg e,eT _ _ e];obtain⟨y,M,Z⟩:=h.con r T;obtain⟨x,G,Y⟩:=h.cell r j T W;refine⟨y*p-x*z,sD M X G C,?_⟩
   push_cast
   grind
 ·simp only[eu.pivot];by_cases e:r=i
  ·subst e;rw[if_pos rfl,upd_same];by_cases t:c=j
   ·subst t;rw[upd_same,upd_same];refine⟨d*d,p8 h.dl h.dl,?_⟩
    push_cast
    grind
   ·rw[eT _ _ t,eT _ _ t];obtain⟨z,C,F⟩:=h.cell r c T O;have R:=U (D.cell r c) z (σ (D.off c):Rat) F;refine⟨z*d,p8 C h.dl,?_⟩
    push_cast
    grind
  ·rw[if_neg e,eT _ _ e];obtain⟨x,G,Y⟩:=h.cell r j T W;by_cases t:c=j
   ·subst t;rw[upd_same,upd_same,upd_same];refine⟨-(x*d),by rw[Int.natAbs_neg];exact p8 G h.dl,?_⟩
    push_cast
    grind
   ·rw[eT _ _ t,eT _ _ t,eT _ _ t];obtain⟨z,C,F⟩:=h.cell i c V O;have R:=U (D.cell i c) z (σ (D.off c):Rat) F;obtain⟨y,M,Z⟩:=h.cell r c T O;refine⟨y*p-x*z,sD M X G C,?_⟩
    push_cast
    grind
 ·simp only[eu.pivot];obtain⟨x,G,Y⟩:=h.top j W;by_cases t:c=j
  ·subst t;rw[upd_same,upd_same,upd_same];refine⟨-(x*d),by rw[Int.natAbs_neg];exact p8 G h.dl,?_⟩
   push_cast
   grind
  ·rw[eT _ _ t,eT _ _ t,eT _ _ t];obtain⟨z,C,F⟩:=h.cell i c V O;have R:=U (D.cell i c) z (σ (D.off c):Rat) F;obtain⟨y,M,Z⟩:=h.top c O;refine⟨y*p-x*z,sD M X G C,?_⟩
   push_cast
   grind
 ·simp only[eu.pivot];obtain⟨x,G,Y⟩:=h.top j W;obtain⟨z,C,F⟩:=h.con i V;have R:=U (D.con i) z 1 (by rw[F];grind);obtain⟨y,M,Z⟩:=h.val;refine⟨y*p-x*z,sD M X G C,?_⟩
  push_cast
  grind
theorem sF{b s:Nat}{q:Rat}{z e:Int}{x:Nat}(F:z.natAbs<10^b)(t:e.natAbs<10^ (b+s))(r:e≠0)(E:x <= 10^s)(h:q* (e:Rat)=z* (x:Rat)):RL (b+s) q:=by
 have:q=Rat.divInt (z* (x:Int)) e:=by
  rw[Rat.divInt_eq_div];have C:(e:Rat)≠0:=fun h=>r (by exact_mod_cast h)
  push_cast
  rw[<- h,Rat.mul_div_cancel C]
 rw[this];refine uX r ?_ t;rw[Int.natAbs_mul,Int.natAbs_natCast,Nat.pow_add];exact Nat.lt_of_le_of_lt (Nat.mul_le_mul_left _ E) (Nat.mul_lt_mul_of_pos_right F (Nat.pow_pos (by decide)))
theorem eu.nS.lim{m n b s:Nat}{D:eu}{σ:Nat -> Nat}{τ:Nat}{d:Int}(h:D.nS m n σ τ d b)(E:∀v,0<σ v /\ σ v <= 10^s)(M:0<τ /\ τ <= 10^s):D.Lim m n (b+s):=by
 have F:∀x:Nat,x <= 10^s -> ((x:Int)*d).natAbs<10^ (b+s):=fun x T=>by
  rw[Int.natAbs_mul,Int.natAbs_natCast,Nat.pow_add,Nat.mul_comm];exact Nat.lt_of_le_of_lt (Nat.mul_le_mul_left _ T) (Nat.mul_lt_mul_of_pos_right h.dl (Nat.pow_pos (by decide)))
 have G:∀x:Nat,0<x -> (x:Int)*d≠0:=fun x T=>Int.mul_ne_zero (by omega) h.d0
 have one:(1:Nat) <= 10^s:=Nat.pow_pos (by decide);refine⟨fun r R=> ?_,fun r c R O=> ?_,fun c O=> ?_,?_⟩
 ·obtain⟨z,C,t⟩:=h.con r R;exact sF (x:=1) C (F _ (E (D.basic r)).2) (G _ (E (D.basic r)).1) one (by push_cast;rw[<- t];grind)
 ·obtain⟨z,C,t⟩:=h.cell r c R O;exact sF C (F _ (E (D.basic r)).2) (G _ (E (D.basic r)).1) (E (D.off c)).2 (by push_cast;rw[<- t];grind)
 ·obtain⟨z,C,t⟩:=h.top c O;exact sF C (F _ M.2) (G _ M.1) (E (D.off c)).2 (by push_cast;rw[<- t];grind)
 ·obtain⟨z,C,t⟩:=h.val;exact sF (x:=1) C (F _ M.2) (G _ M.1) one (by push_cast;rw[<- t];grind)
theorem eu.Lim.Fx{m n k:Nat}{D:eu}(X:D.Ok m n)(h:D.Lim m n k):
  ∃ (σ:Nat -> Nat) (τ:Nat),(∀v,0<σ v /\ σ v <= 10^ (k* (n+1))) /\ (0<τ /\ τ <= 10^ (k* (n+1))) /\ D.nS m n σ τ 1 (k* (n+2)):=by
 have Z:=h.pos;have G:k* (n+2)=k+k* (n+1):=by rw[show n+2=n+1+1 by omega,Nat.mul_succ];omega
 have W:∀ (f:Nat -> Rat) (q:Rat),(∀c,c<n -> RL k (f c)) -> RL k q -> (0<mV n (fun c=>(f c).den)*q.den /\ mV n (fun c=>(f c).den)*q.den <= 10^ (k* (n+1))):=by
  intro f q Y hq;have h1:=Fv (n:=n) (M:=10^k) (f:=fun c=>(f c).den) (fun c t=>⟨(f c).den_pos,Nat.le_of_lt (Y c t).2⟩);refine⟨Nat.mul_pos h1.1 q.den_pos,?_⟩;rw[Nat.mul_succ,Nat.pow_add,Nat.pow_mul];exact Nat.mul_le_mul h1.2 (Nat.le_of_lt hq.2)
 obtain⟨R,V⟩:∃R:Nat -> Nat,R=fun r=>mV n (fun c=>(D.cell r c).den)* (D.con r).den:=⟨_,rfl⟩
 have O:∀r,r<m -> 0<R r /\ R r <= 10^ (k* (n+1)):=fun r C=>by rw[V];exact W _ _ (fun c t=>h.cell r c C t) (h.con r C)
 have T:=W D.top D.val h.top h.val
 obtain⟨σ,U⟩:∃σ:Nat -> Nat,(∀v,0<σ v /\ σ v <= 10^ (k* (n+1))) /\ (∀r,r<m -> σ (D.basic r)=R r) /\ ∀c,c<n -> σ (D.off c)=1:=by
  classical
  refine⟨fun v=>if E:∃r,r<m /\ D.basic r=v then R (Classical.choose E) else 1,fun v=> ?_,fun r C=> ?_,fun c t=> ?_⟩
  ·by_cases E:∃r,r<m /\ D.basic r=v
   ·simp only[dif_pos E];exact O _ (Classical.choose_spec E).1
   ·simp only[dif_neg E];exact⟨Nat.one_pos,Nat.pow_pos (by decide)⟩
  ·have E:∃s,s<m /\ D.basic s=D.basic r:=⟨r,C,rfl⟩
   have t:=Classical.choose_spec E;simp only[dif_pos E];rw[X.bi _ _ t.1 C t.2]
  ·have E:¬ ∃s,s<m /\ D.basic s=D.off c:=fun⟨s,G,e⟩=>X.ne s c G t e
   simp only[dif_neg E]
 refine⟨σ,mV n (fun c=>(D.top c).den)*D.val.den,U.1,T,⟨by decide,?_,fun r C=> ?_,fun r c C t=> ?_,fun c t=> ?_,?_⟩⟩
 ·exact Nat.one_lt_pow (by have:=Nat.mul_pos Z (show 0<n+2 by omega);omega) (by decide)
 ·obtain⟨z,F,e⟩:=(h.con r C).clear (R:=R r) (by rw[V];exact Nat.dvd_mul_left _ _) (O r C).1 (O r C).2;refine⟨z,by rw[G];exact F,?_⟩;rw[U.2.1 r C, <- e];push_cast;grind
 ·obtain⟨z,F,e⟩:=(h.cell r c C t).clear (R:=R r) (by rw[V];exact Nat.dvd_trans (yT (f:=fun c=>(D.cell r c).den) t) (Nat.dvd_mul_right _ _)) (O r C).1 (O r C).2;refine⟨z,by rw[G];exact F,?_⟩;rw[U.2.1 r C,U.2.2 c t, <- e];push_cast;grind
 ·obtain⟨z,F,e⟩:=(h.top c t).clear (Nat.dvd_trans (yT (f:=fun c=>(D.top c).den) t) (Nat.dvd_mul_right _ _)) T.1 T.2;refine⟨z,by rw[G];exact F,?_⟩;rw[U.2.2 c t, <- e];push_cast;grind
 ·obtain⟨z,F,e⟩:=h.val.clear (Nat.dvd_mul_left _ _) T.1 T.2;refine⟨z,by rw[G];exact F,?_⟩;rw[<- e];push_cast;grind
def wb:Nat -> Nat -> Nat
 | 0,b=>b
 | d+1,b=>wb d (2*b+1)
theorem yV{d b c:Nat}(h:b <= c):wb d b <= wb d c:=by
 induction d generalizing b c with
 | zero=>exact h
 | succ d r=>exact r (by omega)
theorem yX{d e b:Nat}(h:d <= e):wb d b <= wb e b:=by
 induction e with
 | zero=>rw[show d=0 by omega];exact Nat.le_refl _
 | succ e t=>
  by_cases r:d=e+1
  ·rw[r];exact Nat.le_refl _
  ·exact Nat.le_trans (t (by omega)) (yV (by omega))
def wide(m n k:Nat):Nat:=wb (min m n) (k* (n+2))+k* (n+1)
theorem yY{m n k p N K:Nat}(r:min m n <= p)(C:n <= N)(h:k <= K):wide m n k <= wb p (K* (N+2))+K* (N+1):=by
 unfold wide;have h1:=Nat.le_trans (yV (d:=min m n) (Nat.mul_le_mul h (show n+2 <= N+2 by omega))) (yX (b:=K* (N+2)) r);have t:=Nat.mul_le_mul h (show n+1 <= N+1 by omega);omega
theorem Fy{m n k:Nat}{D E:eu}(U:D.Ok m n)(R:E.Ok m n)(hs:∀x g f,D.Sol m n x g f↔E.Sol m n x g f)(X:D.Lim m n k)(Z:∀c,c<n -> ∃d,d<n /\ D.off d=E.off c):E.Lim m n k:=by
 have Y:∀r,r<m -> ∃s,s<m /\ D.basic s=E.basic r:=by
  intro r G
  rcases U.all _ (R.bl r G) with h | ⟨d,F,e⟩
  ·exact h
  ·exfalso
   -- all of D's columns stand outside at E: n of n
   have ad:∀ (C:Nat) (f:Nat -> Nat),(∀c,c<C -> f c<C) -> (∀c c',c<C -> c'<C -> f c=f c' -> c=c') -> ∀d,d<C -> ∃c,c<C /\ f c=d:=by
    intro C
    induction C with
    | zero=>intro f _ _ d F;omega
    | succ C ih=>
     intro f T W d F;by_cases a3:f C=d
     ·exact⟨C,by omega,a3⟩
     -- strike the place of f n'
     have h1:=ih (fun c=>if f c=C then f C else f c) (fun c t=>by
      have:=T c (by omega);have:=T C (by omega);have:f c≠f C:=fun e=>by have:=W c C (by omega) (by omega) e;omega
      split <;> omega) (fun c c' t V e=>by
      have a1:f c≠f C:=fun e=>by have:=W c C (by omega) (by omega) e;omega
      have a2:f c'≠f C:=fun e=>by have:=W c' C (by omega) (by omega) e;omega
      split at e <;> split at e
      ·exact W c c' (by omega) (by omega) (by omega)
      ·exact absurd e.symm a2
      ·exact absurd e a1
      ·exact W c c' (by omega) (by omega) e)
     by_cases ae:d=C
     ·-- f n' is not d = n', so it is below: some c has its place
      have aa:f C<C:=by have:=T C (by omega);omega
      obtain⟨c,t,e⟩:=h1 (f C) aa;split at e
      ·exact⟨c,by omega,by omega⟩
      ·have:=W c C (by omega) (by omega) e;omega
     ·obtain⟨c,t,e⟩:=h1 d (by omega);split at e
      ·exact absurd e a3
      ·exact⟨c,by omega,e⟩
   have a9:∃f:Nat -> Nat,∀c,c<n -> f c<n /\ D.off (f c)=E.off c:=by
    refine⟨fun c=>if h:c<n then Classical.choose (Z c h) else 0,fun c t=> ?_⟩;simp only[dif_pos t];exact Classical.choose_spec (Z c t)
   obtain⟨f,T⟩:=a9;obtain⟨c,t,ec⟩:=ad n f (fun c t=>(T c t).1) (fun c c' t V e=>R.oi c c' t V (by rw[<- (T c t).2, <- (T c' V).2,e])) d F;exact R.ne r c G t (by rw[<- (T c t).2,ec,e])
 have z:∀a:Nat -> Rat,sumTo n (fun c=>a c*0)=0:=fun a=>iX fun c _=>by grind
 -- the basic point
 obtain⟨x,hx,ho,hb⟩:=E.lS R (fun _=>0) 1;have a4:=(hs _ _ _).2 hx
 have a5:∀c,c<n -> x (D.off c)=0:=by
  intro c t
  rcases R.all _ (U.ol c t) with ⟨r,G,e⟩ | ⟨d,F,e⟩
  ·obtain⟨s,M,e'⟩:=Y r G;exact absurd (e'.trans e) (U.ne s c M t)
  ·rw[<- e,ho d F]
 -- the direction of a column
 have a0:∀c,c<n -> ∀d,d<n -> D.off d=E.off c -> (∀r s,r<m -> s<m -> D.basic s=E.basic r -> E.cell r c=D.cell s d) /\ E.top c=D.top d:=by
  intro c t d F e;obtain⟨y,hy,ab,a8⟩:=E.lS R (fun k=>if k=c then 1 else 0) 0
  have one:∀a:Nat -> Rat,sumTo n (fun k=>a k* (if k=c then 1 else 0))=a c:=fun a=>by
   rw[kU t (fun k _ O=>by rw[if_neg O];grind),if_pos rfl];grind
  have a6:=(hs _ _ _).2 hy
  have ac:∀k,k<n -> y (D.off k)=if k=d then 1 else 0:=by
   intro k O
   rcases R.all _ (U.ol k O) with ⟨r,G,e'⟩ | ⟨c',V,e'⟩
   ·obtain⟨s,M,e2⟩:=Y r G;exact absurd (e2.trans e') (U.ne s k M O)
   ·rw[<- e',ab c' V];by_cases h1:c'=c
    ·subst h1;have:k=d:=U.oi k d O F (by rw[e,e']);rw[if_pos rfl,if_pos this]
    ·have:k≠d:=by rintro rfl;exact h1 (R.oi c' c V t (by rw[e',e]))
     rw[if_neg h1,if_neg this]
  have a7:∀a:Nat -> Rat,sumTo n (fun k=>a k*y (D.off k))=a d:=fun a=>by
   rw[sumTo_congr (g:=fun k=>a k* (if k=d then 1 else 0)) fun k O=>by rw[ac k O],kU F (fun k _ O=>by rw[if_neg O];grind),if_pos rfl];grind
  refine⟨fun r s G M e2=> ?_,?_⟩
  ·have h1:=a6.1 s M;unfold eu.Row at h1;rw[a7,e2,a8 r G,one] at h1;grind
  ·have h1:=a6.2;unfold eu.Top at h1;rw[a7,one] at h1;grind
 refine⟨fun r G=> ?_,fun r c G t=> ?_,fun c t=> ?_,?_⟩
 ·obtain⟨s,M,e⟩:=Y r G;have h1:=a4.1 s M;unfold eu.Row at h1;rw[iX (fun c t=>by rw[a5 c t];grind),e,hb r G,z] at h1;have:E.con r=D.con s:=by grind
  rw[this];exact X.con s M
 ·obtain⟨d,F,e⟩:=Z c t;obtain⟨s,M,e'⟩:=Y r G;rw[(a0 c t d F e).1 r s G M e'];exact X.cell s d M F
 ·obtain⟨d,F,e⟩:=Z c t;rw[(a0 c t d F e).2];exact X.top d F
 ·have h1:=a4.2;unfold eu.Top at h1;rw[z,iX (fun c t=>by rw[a5 c t];grind)] at h1;have:E.val=D.val:=by grind
  rw[this];exact X.val
def eu.kW(n:Nat)(D:eu)(v:Nat):Bool:=decide (∃c,c<n /\ D.off c=v)
theorem eu.p9{n:Nat}{D:eu}{v:Nat}:D.kW n v=true↔∃c,c<n /\ D.off c=v:=by unfold eu.kW;rw[decide_eq_true_iff]
theorem near{m n s:Nat}{σ:Nat -> Nat}{τ:Nat}(hσ:∀v,0<σ v /\ σ v <= 10^s)(hτ:0<τ /\ τ <= 10^s)(d:Nat):∀ {D E:eu} {z:Int} {b:Nat},D.Ok m n -> E.Ok m n -> (∀x g f,D.Sol m n x g f↔E.Sol m n x g f) -> D.nS m n σ τ z b -> count n (fun c=> !(D.kW n (E.off c)))=d -> E.Lim m n (wb d b+s):=by
 induction d with
 | zero=>
  intro D E z b M F T V X;refine Fy M F T (V.lim hσ hτ) fun c C=> ?_
  have h1:=Fs X c C;exact eu.p9.1 (by simpa using h1)
 | succ d ih=>
  intro D E z b M F T V X
  -- a variable l that stands outside at E and is basic at D
  obtain⟨r,O,h0⟩:=Fu (n:=n) (p:=fun c=> !(D.kW n (E.off c))) (by omega);have W:¬ ∃c,c<n /\ D.off c=E.off r:=fun h=>by rw[eu.p9.2 h] at h0;exact absurd h0 (by decide)
  obtain⟨i,R,U⟩:∃i,i<m /\ D.basic i=E.off r:=by
   rcases M.all _ (F.ol r O) with h | h
   ·exact h
   ·exact absurd h W
  -- a column of D that is basic at E, with a cell in row i
  obtain⟨j,G,a3,Y⟩:∃j,j<n /\ (∀c,c<n -> E.off c≠D.off j) /\ D.cell i j≠0:=by
   apply Classical.byContradiction;intro a4;have a5:∀j,j<n -> (∀c,c<n -> E.off c≠D.off j) -> D.cell i j=0:=fun j G h=>Classical.byContradiction fun h'=>a4 ⟨j,G,h,h'⟩
   -- the direction of E's column c0 contradicts row i
   obtain⟨y,hy,Z,hb⟩:=E.lS F (fun k=>if k=r then 1 else 0) 0;have a0:=((T _ _ _).2 hy).1 i R;unfold eu.Row at a0
   rw[U,Z r O,if_pos rfl,iX (fun c C=>by
    by_cases h:∃c',c'<n /\ E.off c'=D.off c
    ·obtain⟨c',t,e⟩:=h;rw[<- e,Z c' t,if_neg]
     ·grind
     ·rintro rfl;exact W ⟨c,C,e.symm⟩
    ·rw[a5 c C (fun c' t e=>h ⟨c',t,e⟩)];grind)] at a0
   grind
  have a6:=M.pivot R G;have a7:∀x g f,(D.pivot i j).Sol m n x g f↔E.Sol m n x g f:=fun x g f=>(eu.uW R G Y).trans (T x g f)
  obtain⟨z',a1⟩:=V.pivot (fun v=>(hσ v).1) R G Y;refine ih a6 F a7 a1 ?_;have a8:=yS (n:=n) (i:=r) (p:=fun c=> !(D.kW n (E.off c))) (q:=fun c=> !((D.pivot i j).kW n (E.off c))) O ?_ h0 ?_
  ·omega
  ·intro c C a2;congr 1;rw[Bool.eq_iff_iff,eu.p9,eu.p9];simp only[eu.pivot];constructor
   ·rintro⟨c',t,e⟩;refine⟨c',t,?_⟩;rw[eT]
    ·exact e
    ·rintro rfl;exact a3 c C e.symm
   ·rintro⟨c',t,e⟩;by_cases e':c'=j
    ·subst e';rw[upd_same,U] at e;exact absurd (F.oi r c O C e).symm a2
    ·rw[eT _ _ e'] at e;exact⟨c',t,e⟩
  ·skip
   rw[Bool.not_eq_false',eu.p9];exact⟨j,G,by simp only[eu.pivot];rw[upd_same,U]⟩
theorem Fz{m:Nat}{p:Nat -> Bool}{f:Nat -> Nat}:∀ {n:Nat},(∀c,c<n -> p c=true -> f c<m) -> (∀c d,c<n -> d<n -> p c=true -> p d=true -> f c=f d -> c=d) ->
  count n p <= count m (fun r=>decide (∃c,c<n /\ p c=true /\ f c=r)):=by
 intro n
 induction n with
 | zero=>intro _ _;exact Nat.zero_le _
 | succ n G=>
  intro h1 C;have E:=G (fun c t=>h1 c (by omega)) (fun c d t M=>C c d (by omega) (by omega));simp only[count];cases hp:p n
  ·rw[yR (n:=m) (p:=fun r=>decide (∃c,c<n+1 /\ p c=true /\ f c=r)) (q:=fun r=>decide (∃c,c<n /\ p c=true /\ f c=r))]
   ·simpa using E
   ·intro r _;rw[decide_eq_decide];constructor
    ·rintro⟨c,t,h,e⟩;have:c≠n:=by rintro rfl;rw[hp] at h;cases h
     exact⟨c,by omega,h,e⟩
    ·rintro⟨c,t,h,e⟩;exact⟨c,by omega,h,e⟩
  ·rw[yS (n:=m) (i:=f n) (p:=fun r=>decide (∃c,c<n+1 /\ p c=true /\ f c=r)) (q:=fun r=>decide (∃c,c<n /\ p c=true /\ f c=r)) (h1 n (by omega) hp)]
   ·simpa using E
   ·intro r _ F;rw[decide_eq_decide];constructor
    ·rintro⟨c,t,h,e⟩;have:c≠n:=by rintro rfl;exact F e.symm
     exact⟨c,by omega,h,e⟩
    ·rintro⟨c,t,h,e⟩;exact⟨c,by omega,h,e⟩
   ·rw[decide_eq_true_iff];exact⟨n,by omega,hp,rfl⟩
   ·rw[decide_eq_false_iff_not];rintro⟨c,t,h,e⟩;have:=C c n (by omega) (by omega) h hp e;omega
theorem yZ{m n:Nat}{D E:eu}{k:Nat}(G:D.Ok m n)(M:E.Ok m n)(hs:∀x g f,D.Sol m n x g f↔E.Sol m n x g f)(Y:D.Lim m n k):E.Lim m n (wide m n k):=by
 obtain⟨σ,τ,hσ,hτ,W⟩:=Y.Fx G;have h:=near hσ hτ _ G M hs W rfl
 have h1:count n (fun c=> !(D.kW n (E.off c))) <= m:=by
  have X:∃f:Nat -> Nat,∀c,c<n -> (!(D.kW n (E.off c)))=true -> f c<m /\ D.basic (f c)=E.off c:=by
   have V:∀c,c<n -> (!(D.kW n (E.off c)))=true -> ∃r,r<m /\ D.basic r=E.off c:=by
    intro c t C
    rcases G.all _ (M.ol c t) with h | h
    ·exact h
    ·rw[eu.p9.2 h] at C;cases C
   refine⟨fun c=>if t:c<n /\ (!(D.kW n (E.off c)))=true then Classical.choose (V c t.1 t.2) else 0,fun c t C=> ?_⟩;simp only[dif_pos (And.intro t C)];exact Classical.choose_spec (V c t C)
  obtain⟨f,O⟩:=X;refine Nat.le_trans (Fz (m:=m) (f:=f) (fun c t R=>(O c t R).1) (fun c d t U R Z e=> ?_)) (count_le _ _);exact M.oi c d t U (by rw[<- (O c t R).2, <- (O d U Z).2,e])
 have F:=Nat.add_le_add_right (yX (b:=k* (n+2)) (Nat.le_min.2 ⟨h1,count_le n (fun c=> !(D.kW n (E.off c)))⟩)) (k* (n+1));exact⟨fun r T=>(h.con r T).mono F,fun r c T t=>(h.cell r c T t).mono F,fun c t=>(h.top c t).mono F,h.val.mono F⟩
end Go.Proofs.YtdefghfjhgmpfaaGreatDoor.Lp
