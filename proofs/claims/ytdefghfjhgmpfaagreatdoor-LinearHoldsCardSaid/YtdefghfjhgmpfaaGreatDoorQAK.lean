/- Parts of this proof: Dict. -/
namespace Go.Proofs.YtdefghfjhgmpfaaGreatDoor.Lp
def sumTo:Nat -> (Nat -> Rat) -> Rat
 | 0,_=>0
 | n+1,f=>sumTo n f+f n
theorem sumTo_congr{n:Nat}{f g:Nat -> Rat}(h:∀c,c<n -> f c=g c):sumTo n f=sumTo n g:=by
 induction n with
 | zero=>rfl
 | succ n ih=>rw[sumTo,sumTo,ih (fun c hc=>h c (by omega)),h n (by omega)]
theorem sumTo_zero{n:Nat}{f:Nat -> Rat}(h:∀c,c<n -> f c=0):sumTo n f=0:=by
 induction n with
 | zero=>rfl
 | succ n ih=>rw[sumTo,ih (fun c hc=>h c (by omega)),h n (by omega)];grind
theorem sumTo_add(n:Nat)(f g:Nat -> Rat):sumTo n (fun c=>f c+g c)=sumTo n f+sumTo n g:=by
 induction n with
 | zero=>simp only[sumTo];grind
 | succ n ih=>simp only[sumTo];rw[ih];grind
theorem sumTo_mul(n:Nat)(a:Rat)(f:Nat -> Rat):sumTo n (fun c=>a*f c)=a*sumTo n f:=by
 induction n with
 | zero=>simp only[sumTo];grind
 | succ n ih=>simp only[sumTo];rw[ih];grind
theorem sumTo_sub(n:Nat)(f g:Nat -> Rat):sumTo n (fun c=>f c-g c)=sumTo n f-sumTo n g:=by
 induction n with
 | zero=>simp only[sumTo];grind
 | succ n ih=>simp only[sumTo];rw[ih];grind
theorem sumTo_nonneg{n:Nat}{f:Nat -> Rat}(h:∀c,c<n -> 0 <= f c):0 <= sumTo n f:=by
 induction n with
 | zero=>simp[sumTo]
 | succ n ih=>have:=ih (fun c hc=>h c (by omega));have:=h n (by omega);simp only[sumTo];grind
theorem sumTo_pos{n j:Nat}{f:Nat -> Rat}(hj:j<n)(h:∀c,c<n -> 0 <= f c)(hp:0<f j):0<sumTo n f:=by
 induction n with
 | zero=>omega
 | succ n ih=>
  simp only[sumTo];have h2:=h n (by omega);by_cases hjn:j=n
  ·subst hjn;have h1:=sumTo_nonneg (fun c (hc:c<j)=>h c (by omega));grind
  ·have:=ih (by omega) (fun c hc=>h c (by omega));grind
def sumX(n j:Nat)(f:Nat -> Rat):Rat:=sumTo n (fun c=>if c=j then 0 else f c)
theorem sumX_congr{n j:Nat}{f g:Nat -> Rat}(h:∀c,c<n -> c≠j -> f c=g c):sumX n j f=sumX n j g:=
 sumTo_congr fun c hc=>by by_cases e:c=j <;> simp[e];exact h c hc e
theorem sumTo_split{n j:Nat}(f:Nat -> Rat)(hj:j<n):sumTo n f=sumX n j f+f j:=by
 unfold sumX
 induction n with
 | zero=>omega
 | succ n ih=>
  simp only[sumTo];by_cases hjn:j=n
  ·subst hjn;rw[if_pos rfl,sumTo_congr (f:=fun c=>if c=j then 0 else f c) (g:=f) (fun c hc=>if_neg (by omega))];grind
  ·rw[ih (by omega),if_neg (by omega)];grind
theorem sumX_lin(n j:Nat)(f g:Nat -> Rat)(a:Rat):sumX n j (fun c=>f c-a*g c)=sumX n j f-a*sumX n j g:=by
 unfold sumX;rw[<- sumTo_mul, <- sumTo_sub];refine sumTo_congr fun c _=> ?_
 by_cases e:c=j
 ·simp only[if_pos e];grind
 ·simp only[if_neg e]
theorem sumX_mul(n j:Nat)(f:Nat -> Rat)(a:Rat):sumX n j (fun c=>a*f c)=a*sumX n j f:=by
 unfold sumX;rw[<- sumTo_mul];refine sumTo_congr fun c _=> ?_
 by_cases e:c=j
 ·simp only[if_pos e];grind
 ·simp only[if_neg e]
theorem sumTo_one{n j:Nat}{f:Nat -> Rat}(hj:j<n)(h:∀c,c<n -> c≠j -> f c=0):sumTo n f=f j:=by
 rw[sumTo_split f hj,sumX_congr (g:=fun _=>0) h];unfold sumX;rw[sumTo_zero (by intro c _;simp)];grind
theorem sumTo_comm(n m:Nat)(f:Nat -> Nat -> Rat):sumTo n (fun i=>sumTo m (fun j=>f i j))=sumTo m (fun j=>sumTo n (fun i=>f i j)):=by
 induction n with
 | zero=>simp only[sumTo];exact(sumTo_zero (fun _ _=>rfl)).symm
 | succ n ih=>simp only[sumTo];rw[ih,sumTo_add]
structure Dict where
 basic:Nat -> Nat
 off:Nat -> Nat
 con:Nat -> Rat
 cell:Nat -> Nat -> Rat
 top:Nat -> Rat
 val:Rat
def upd{α:Type}(f:Nat -> α)(i:Nat)(x:α):Nat -> α:=fun k=>if k=i then x else f k
theorem upd_same{α:Type}(f:Nat -> α)(i:Nat)(x:α):upd f i x i=x:=if_pos rfl
theorem upd_other{α:Type}(f:Nat -> α){i k:Nat}(x:α)(h:k≠i):upd f i x k=f k:=if_neg h
def Dict.pivot(D:Dict)(i j:Nat):Dict where
 basic:=upd D.basic i (D.off j)
 off:=upd D.off j (D.basic i)
 con:=fun r=>if r=i then D.con i / D.cell i j else D.con r-D.cell r j* (D.con i / D.cell i j)
 cell:=fun r c=>if r=i then upd (D.cell i) j 1 c / D.cell i j else upd (D.cell r) j 0 c-D.cell r j* (upd (D.cell i) j 1 c / D.cell i j)
 top:=fun c=>upd D.top j 0 c-D.top j* (upd (D.cell i) j 1 c / D.cell i j)
 val:=D.val-D.top j* (D.con i / D.cell i j)
def Dict.Row(n:Nat)(D:Dict)(x:Nat -> Rat)(g:Rat)(r:Nat):Prop:=x (D.basic r)=D.con r*g-sumTo n (fun c=>D.cell r c*x (D.off c))
def Dict.Top(n:Nat)(D:Dict)(x:Nat -> Rat)(g f:Rat):Prop:=f=D.val*g-sumTo n (fun c=>D.top c*x (D.off c))
def Dict.Sol(m n:Nat)(D:Dict)(x:Nat -> Rat)(g f:Rat):Prop:=(∀r,r<m -> D.Row n x g r) /\ D.Top n x g f
structure Dict.Ok (m n:Nat) (D:Dict):Prop where
 bi:∀r s,r<m -> s<m -> D.basic r=D.basic s -> r=s
 oi:∀c d,c<n -> d<n -> D.off c=D.off d -> c=d
 ne:∀r c,r<m -> c<n -> D.basic r≠D.off c
 bl:∀r,r<m -> D.basic r<n+m
 ol:∀c,c<n -> D.off c<n+m
 all:∀v,v<n+m -> (∃r,r<m /\ D.basic r=v) \/ (∃c,c<n /\ D.off c=v)
theorem Dict.pivot_pivot(D:Dict)(i j:Nat)(hk:D.cell i j≠0):(D.pivot i j).pivot i j=D:=by
 have e1:(D.pivot i j).cell i j=1 / D.cell i j:=by simp[Dict.pivot,upd]
 have e2:(1 / D.cell i j)≠0:=by
  intro h;have:D.cell i j* (1 / D.cell i j)=0:=by rw[h];grind
  grind
 unfold Dict.pivot
 rcases D with ⟨b,o,cn,ce,t,v⟩
 simp only[upd_same];simp only at hk;congr 1
 ·funext r;by_cases h:r=i <;> simp[upd,h]
 ·funext r;by_cases h:r=j <;> simp[upd,h]
 ·funext r;by_cases h:r=i
  ·subst h;simp;grind
  ·simp[h];grind
 ·funext r c;by_cases h:r=i
  ·subst h;by_cases h2:c=j
   ·subst h2;simp[upd];grind
   ·simp[upd,h2];grind
  ·by_cases h2:c=j
   ·subst h2;simp[upd,h];grind
   ·simp[upd,h,h2];grind
 ·funext c;by_cases h2:c=j
  ·subst h2;simp[upd];grind
  ·simp[upd,h2];grind
 ·simp;grind
theorem Dict.Ok.pivot{m n i j:Nat}{D:Dict}(h:D.Ok m n)(hi:i<m)(hj:j<n):(D.pivot i j).Ok m n:=by
 have hne:=h.ne;refine⟨?_,?_,?_,?_,?_,?_⟩
 ·intro r s hr hs;simp only[Dict.pivot,upd];split <;> split
  ·intro _;omega
  ·intro e;exact absurd e.symm (h.ne s j hs hj)
  ·intro e;exact absurd e (h.ne r j hr hj)
  ·exact h.bi r s hr hs
 ·intro c d hc hd;simp only[Dict.pivot,upd];split <;> split
  ·intro _;omega
  ·intro e;exact absurd e (h.ne i d hi hd)
  ·intro e;exact absurd e.symm (h.ne i c hi hc)
  ·exact h.oi c d hc hd
 ·intro r c hr hc;simp only[Dict.pivot,upd];split <;> split
  ·exact fun e=>h.ne i j hi hj e.symm
  ·intro e;have:=h.oi j c hj hc e;omega
  ·intro e;have:=h.bi r i hr hi e;omega
  ·exact h.ne r c hr hc
 ·intro r hr;simp only[Dict.pivot,upd];split
  ·exact h.ol j hj
  ·exact h.bl r hr
 ·intro c hc;simp only[Dict.pivot,upd];split
  ·exact h.bl i hi
  ·exact h.ol c hc
 ·intro v hv;simp only[Dict.pivot,upd]
  rcases h.all v hv with ⟨r,hr,e⟩ | ⟨c,hc,e⟩
  ·by_cases hri:r=i
   ·exact .inr ⟨j,hj,by rw[if_pos rfl, <- hri];exact e⟩
   ·exact .inl ⟨r,hr,by rw[if_neg hri];exact e⟩
  ·by_cases hcj:c=j
   ·exact .inl ⟨i,hi,by rw[if_pos rfl, <- hcj];exact e⟩
   ·exact .inr ⟨c,hc,by rw[if_neg hcj];exact e⟩
theorem Dict.Sol.pivot{m n i j:Nat}{D:Dict}{x:Nat -> Rat}{g f:Rat}(h:D.Sol m n x g f)(hi:i<m)(hj:j<n)(hk:D.cell i j≠0):(D.pivot i j).Sol m n x g f:=by
 obtain⟨hr,ht⟩:=h;have hI:=hr i hi;unfold Dict.Row at hI;rw[sumTo_split _ hj] at hI;obtain⟨k,hke⟩:∃k,k=D.cell i j:=⟨_,rfl⟩
 obtain⟨S,hS⟩:∃S,S=sumX n j (fun c=>D.cell i c*x (D.off c)):=⟨_,rfl⟩
 rw[<- hS, <- hke] at hI
 -- the sum of a row less a multiple of the new row
 have key:∀ (a:Rat) (f:Nat -> Rat),sumTo n (fun c=>(upd f j 0 c-a* (upd (D.cell i) j 1 c / k))*x (upd D.off j (D.basic i) c))=sumX n j (fun c=>f c*x (D.off c))-a / k*S-a / k*x (D.basic i):=by
  intro a f;rw[sumTo_split _ hj,hS, <- sumX_lin]
  have e:sumX n j (fun c=>(upd f j 0 c-a* (upd (D.cell i) j 1 c / k))*x (upd D.off j (D.basic i) c))=sumX n j (fun c=>f c*x (D.off c)-a / k* (D.cell i c*x (D.off c))):=
   sumX_congr fun c _ hc=>by rw[upd_other _ _ hc,upd_other _ _ hc,upd_other _ _ hc];grind
  rw[e,upd_same,upd_same,upd_same];grind
 rw[<- hke] at hk;refine⟨fun r hr'=> ?_,?_⟩
 ·unfold Dict.Row;simp only[Dict.pivot];by_cases hri:r=i
  ·subst hri;simp only[if_true,upd_same];rw[<- hke]
   have e:sumTo n (fun c=>upd (D.cell r) j 1 c / k*x (upd D.off j (D.basic r) c))=1 / k*S+1 / k*x (D.basic r):=by
    rw[sumTo_split _ hj,hS, <- sumX_mul]
    have e:sumX n j (fun c=>upd (D.cell r) j 1 c / k*x (upd D.off j (D.basic r) c))=sumX n j (fun c=>1 / k* (D.cell r c*x (D.off c))):=
     sumX_congr fun c _ hc=>by rw[upd_other _ _ hc,upd_other _ _ hc];grind
    rw[e,upd_same,upd_same]
   rw[e];grind
  ·rw[upd_other _ _ hri];simp only[if_neg hri];rw[<- hke,key];have h2:=hr r hr';unfold Dict.Row at h2;rw[sumTo_split _ hj] at h2;grind
 ·unfold Dict.Top;simp only[Dict.pivot];rw[<- hke,key];unfold Dict.Top at ht;rw[sumTo_split _ hj] at ht;grind
theorem Dict.sol_pivot{m n i j:Nat}{D:Dict}{x:Nat -> Rat}{g f:Rat}(hi:i<m)(hj:j<n)(hk:D.cell i j≠0):(D.pivot i j).Sol m n x g f↔D.Sol m n x g f:=by
 constructor
 ·intro h
  have e:(D.pivot i j).cell i j≠0:=by
   simp only[Dict.pivot,if_true,upd_same];intro h0;have:D.cell i j* (1 / D.cell i j)=0:=by rw[h0];grind
   grind
  have:=h.pivot hi hj e
  rwa [D.pivot_pivot i j hk] at this
 ·exact fun h=>h.pivot hi hj hk
def SameOff(n k:Nat)(D E:Dict):Prop:=∀v,v<n \/ k<v -> ((∃c,c<n /\ D.off c=v)↔(∃c,c<n /\ E.off c=v))
def Dict.assign(m n:Nat)(D:Dict)(a b:Nat -> Rat)(v:Nat):Rat:=sumTo m (fun r=>if D.basic r=v then a r else 0)+sumTo n (fun c=>if D.off c=v then b c else 0)
theorem Dict.assign_basic{m n:Nat}{D:Dict}(h:D.Ok m n)(a b:Nat -> Rat){r:Nat}(hr:r<m):D.assign m n a b (D.basic r)=a r:=by
 unfold Dict.assign;rw[sumTo_one hr (fun s hs hne=>if_neg fun e=>hne (h.bi s r hs hr e)),sumTo_zero (fun c hc=>if_neg fun e=>h.ne r c hr hc e.symm),if_pos rfl];grind
theorem Dict.assign_off{m n:Nat}{D:Dict}(h:D.Ok m n)(a b:Nat -> Rat){c:Nat}(hc:c<n):D.assign m n a b (D.off c)=b c:=by
 unfold Dict.assign;rw[sumTo_one hc (fun d hd hne=>if_neg fun e=>hne (h.oi d c hd hc e)),sumTo_zero (fun r hr=>if_neg fun e=>h.ne r c hr hc e),if_pos rfl];grind
theorem Dict.exists_sol{m n:Nat}{D:Dict}(h:D.Ok m n)(b:Nat -> Rat)(g:Rat):
  ∃x,D.Sol m n x g (D.val*g-sumTo n (fun c=>D.top c*b c)) /\ (∀c,c<n -> x (D.off c)=b c) /\ ∀r,r<m -> x (D.basic r)=D.con r*g-sumTo n (fun c=>D.cell r c*b c):=by
 obtain⟨a,ha⟩:∃a:Nat -> Rat,a=fun r=>D.con r*g-sumTo n (fun c=>D.cell r c*b c):=⟨_,rfl⟩
 have ho:∀c,c<n -> D.assign m n a b (D.off c)=b c:=fun c hc=>D.assign_off h a b hc
 have hbs:∀r,r<m -> D.assign m n a b (D.basic r)=D.con r*g-sumTo n (fun c=>D.cell r c*b c):=fun r hr=>(D.assign_basic h a b hr).trans (by rw[ha])
 refine⟨D.assign m n a b,⟨fun r hr=> ?_,?_⟩,ho,hbs⟩
 ·unfold Dict.Row;rw[hbs r hr,sumTo_congr (f:=fun c=>D.cell r c*D.assign m n a b (D.off c)) fun c hc=>by rw[ho c hc]]
 ·unfold Dict.Top;rw[sumTo_congr (f:=fun c=>D.top c*D.assign m n a b (D.off c)) fun c hc=>by rw[ho c hc]]
def Dict.Fine(m n:Nat)(D:Dict)(k:Nat):Prop:=(∀r,r<m -> n <= D.basic r -> D.basic r<k -> 0 <= D.con r) /\ (∀c,c<n -> n <= D.off c -> D.off c<k -> 0 <= D.top c)
inductive Dict.Choice (m n:Nat) (D:Dict) (i j:Nat):Prop
 | row:i<m -> j<n -> n <= D.basic i -> D.con i<0 -> D.Fine m n (D.basic i) -> n <= D.off j -> D.cell i j<0 -> (∀c,c<n -> n <= D.off c -> D.off c<D.off j -> 0 <= D.cell i c) -> Dict.Choice m n D i j
 | col:i<m -> j<n -> n <= D.off j -> D.top j<0 -> D.Fine m n (D.off j) -> n <= D.basic i -> 0<D.cell i j -> (∀r,r<m -> n <= D.basic r -> D.basic r<D.basic i -> D.cell r j <= 0) -> Dict.Choice m n D i j
theorem Dict.Choice.lt{m n i j:Nat}{D:Dict}(h:D.Choice m n i j):i<m /\ j<n /\ D.cell i j≠0 /\ n <= D.basic i /\ n <= D.off j:=by
 cases h with
 | row h1 h2 h3 h4 h5 h6 h7 h8=>exact⟨h1,h2,by intro e;rw[e] at h7;exact absurd h7 (Rat.lt_irrefl),h3,h6⟩
 | col h1 h2 h3 h4 h5 h6 h7 h8=>exact⟨h1,h2,by intro e;rw[e] at h7;exact absurd h7 (Rat.lt_irrefl),h6,h3⟩
theorem sum_sign{n k:Nat}{D E:Dict}(hs:SameOff n k D E){a x:Nat -> Rat}(ha:∀c,c<n -> n <= D.off c -> D.off c<k -> 0 <= a c)(hx:∀v,n <= v -> v<k -> 0 <= x v)
  (h0:∀c,c<n -> E.off c<n \/ k<E.off c -> x (E.off c)=0) {j:Nat} (hj:j<n) (hjk:D.off j=k) (hp:0<a j*x k) (hoi:∀c d,c<n -> d<n -> D.off c=D.off d -> c=d):0<sumTo n (fun c=>a c*x (D.off c)):=by
 refine sumTo_pos hj (fun c hc=> ?_) (by rw[hjk];exact hp);by_cases h1:D.off c<n \/ k<D.off c
 ·obtain⟨d,hd,e⟩:=(hs _ h1).1 ⟨c,hc,rfl⟩;rw[<- e,h0 d hd (by rw[e];exact h1)];grind
 ·by_cases h2:D.off c=k
  ·have:c=j:=hoi c j hc hj (by rw[h2,hjk]);subst this;rw[h2];grind
  ·exact Rat.mul_nonneg (ha c hc (by omega) (by omega)) (hx _ (by omega) (by omega))
theorem sum_sign0{n k:Nat}{D E:Dict}(hs:SameOff n k D E){a x:Nat -> Rat}(ha:∀c,c<n -> n <= D.off c -> D.off c<k -> 0 <= a c)(hx:∀v,n <= v -> v<k -> 0 <= x v)
  (h0:∀c,c<n -> E.off c<n \/ k<E.off c -> x (E.off c)=0) (hk:∀c,c<n -> D.off c≠k):0 <= sumTo n (fun c=>a c*x (D.off c)):=by
 refine sumTo_nonneg (fun c hc=> ?_);by_cases h1:D.off c<n \/ k<D.off c
 ·obtain⟨d,hd,e⟩:=(hs _ h1).1 ⟨c,hc,rfl⟩;rw[<- e,h0 d hd (by rw[e];exact h1)];grind
 ·have h2:=hk c hc;exact Rat.mul_nonneg (ha c hc (by omega) (by omega)) (hx _ (by omega) (by omega))
theorem no_both{m n k:Nat}{D E:Dict}(hD:D.Ok m n)(hE:E.Ok m n)(hsol:∀x g f,D.Sol m n x g f↔E.Sol m n x g f)(hs:SameOff n k D E)
  {i1 j1 i2 j2:Nat} (c1:D.Choice m n i1 j1) (e1:D.off j1=k) (l1:D.basic i1<k) (c2:E.Choice m n i2 j2) (e2:E.basic i2=k) (l2:E.off j2<k):False:=by
 have hs':SameOff n k E D:=fun v hv=>(hs v hv).symm
 obtain⟨hi1,hj1,_,hnb1,hno1⟩:=c1.lt;obtain⟨hi2,hj2,_,hnb2,hno2⟩:=c2.lt;have kE:∀c,c<n -> E.off c≠k:=fun c hc e=>hE.ne i2 c hi2 hc (by rw[e2,e])
 -- what stands at the leaving dictionary
 have lhs:∃ (x:Nat -> Rat) (g f:Rat),E.Sol m n x g f /\ (∀v,n <= v -> v<k -> v<n+m -> 0 <= x v) /\ (∀c,c<n -> E.off c<n \/ k<E.off c -> x (E.off c)=0) /\ x k<0 /\
   ((g=1 /\ f=E.val /\ E.Fine m n k) \/ (g=0 /\ 0<f)):=by
  cases c2 with
  | row h1 h2 h3 h4 h5 h6 h7 h8=>
   obtain⟨x,hx,ho,hb⟩:=E.exists_sol hE (fun _=>0) 1;have z:∀a:Nat -> Rat,sumTo n (fun c=>a c*0)=0:=fun a=>sumTo_zero fun c _=>by grind
   refine⟨x,1,_,hx,fun v hv1 hv2 hv3=> ?_,fun c hc _=>ho c hc,?_, .inl ⟨rfl,by rw[z];grind,by rw[<- e2];exact h5⟩⟩
   ·rcases hE.all v hv3 with ⟨r,hr,e⟩ | ⟨c,hc,e⟩
    ·rw[<- e,hb r hr,z];have:=h5.1 r hr (by omega) (by omega);grind
    ·rw[<- e,ho c hc];exact Rat.le_refl
   ·rw[<- e2,hb i2 h1,z];grind
  | col h1 h2 h3 h4 h5 h6 h7 h8=>
   obtain⟨x,hx,ho,hb⟩:=E.exists_sol hE (fun c=>if c=j2 then 1 else 0) 0
   have z:∀a:Nat -> Rat,sumTo n (fun c=>a c* (if c=j2 then 1 else 0))=a j2:=fun a=>by
    rw[sumTo_one h2 (fun c _ hc=>by rw[if_neg hc];grind),if_pos rfl];grind
   refine⟨x,0,_,hx,fun v hv1 hv2 hv3=> ?_,fun c hc hcc=> ?_,?_, .inr ⟨rfl,by rw[z];grind⟩⟩
   ·rcases hE.all v hv3 with ⟨r,hr,e⟩ | ⟨c,hc,e⟩
    ·rw[<- e,hb r hr,z];have:=h8 r hr (by omega) (by omega);grind
    ·rw[<- e,ho c hc];split <;> grind
   ·rw[ho c hc,if_neg];intro e;subst e;omega
   ·rw[<- e2,hb i2 h1,z];grind
 obtain⟨x,g,f,hx,hpos,hz,hk,hgf⟩:=lhs;have hkl:k<n+m:=by rw[<- e2];exact hE.bl i2 hi2
 have hpos':∀v,n <= v -> v<k -> 0 <= x v:=fun v a b=>hpos v a b (by omega)
 have hxD:=(hsol x g f).2 hx;cases c1 with
 | row h1 h2 h3 h4 h5 h6 h7 h8=>
  have:=sum_sign hs (a:=D.cell i1) (fun c hc a b=>h8 c hc a (by omega)) hpos' hz h2 e1 (by have:=Rat.mul_pos (a:= - D.cell i1 j1) (b:= - x k) (by grind) (by grind);grind) hD.oi;have hr:=hxD.1 i1 h1;unfold Dict.Row at hr;have:=hpos' _ h3 l1
  rcases hgf with ⟨rfl,_,_⟩ | ⟨rfl,_⟩ <;> grind
 | col h1 h2 h3 h4 h5 h6 h7 h8=>
  have hsg:=sum_sign hs (a:=D.top) (fun c hc a b=>h5.2 c hc a (by omega)) hpos' hz h2 e1 (by have:=Rat.mul_pos (a:= - D.top j1) (b:= - x k) (by grind) (by grind);grind) hD.oi;have hr:=hxD.2;unfold Dict.Top at hr
  rcases hgf with ⟨rfl,hf,hfine⟩ | ⟨rfl,_⟩
  ·-- the basic point of D
   obtain⟨y,hy,ho,hb⟩:=D.exists_sol hD (fun _=>0) 1;have z:∀a:Nat -> Rat,sumTo n (fun c=>a c*0)=0:=fun a=>sumTo_zero fun c _=>by grind
   rw[z] at hy;have hyE:=((hsol _ _ _).1 hy).2;unfold Dict.Top at hyE
   have:=sum_sign0 hs' (a:=E.top) (x:=y) (fun c hc a b=>hfine.2 c hc a b) (fun v a b=>by
    rcases hD.all v (by omega) with ⟨r,hr,e⟩ | ⟨c,hc,e⟩
    ·rw[<- e,hb r hr,z];have:=h5.1 r hr (by omega) (by omega);grind
    ·rw[<- e,ho c hc];exact Rat.le_refl) (fun c hc _=>ho c hc) kE
   grind
  ·grind
structure Chain (m n:Nat) (s:Nat -> Dict) (I J:Nat -> Nat) (N:Nat):Prop where
 ok:(s 0).Ok m n
 step:∀t,t<N -> (s t).Choice m n (I t) (J t) /\ s (t+1)=(s t).pivot (I t) (J t)
section
variable {m n N:Nat} {s:Nat -> Dict} {I J:Nat -> Nat}
theorem Chain.okAt(h:Chain m n s I J N):∀t,t <= N -> (s t).Ok m n:=by
 intro t
 induction t with
 | zero=>exact fun _=>h.ok
 | succ t ih=>
  intro ht;obtain⟨hc,he⟩:=h.step t (by omega);rw[he];exact(ih (by omega)).pivot hc.lt.1 hc.lt.2.1
theorem Chain.sol(h:Chain m n s I J N){x:Nat -> Rat}{g f:Rat}:∀t,t <= N -> ((s t).Sol m n x g f↔(s 0).Sol m n x g f):=by
 intro t
 induction t with
 | zero=>exact fun _=>Iff.rfl
 | succ t ih=>
  intro ht;obtain⟨hc,he⟩:=h.step t (by omega);rw[he,Dict.sol_pivot hc.lt.1 hc.lt.2.1 hc.lt.2.2.1];exact ih (by omega)
theorem Chain.tail(h:Chain m n s I J N){t:Nat}(ht:t <= N):Chain m n (fun i=>s (t+i)) (fun i=>I (t+i)) (fun i=>J (t+i)) (N-t):=
 ⟨h.okAt t ht,fun i hi=>h.step (t+i) (by omega)⟩
theorem Chain.front(h:Chain m n s I J N){t:Nat}(ht:t <= N):Chain m n s I J t:=⟨h.ok,fun i hi=>h.step i (by omega)⟩
theorem Chain.stays(h:Chain m n s I J N)(v:Nat):∀t,t <= N -> (∀i,i<t -> (s i).basic (I i)≠v /\ (s i).off (J i)≠v) -> ((∃c,c<n /\ (s 0).off c=v)↔(∃c,c<n /\ (s t).off c=v)):=by
 intro t
 induction t with
 | zero=>exact fun _ _=>Iff.rfl
 | succ t ih=>
  intro ht hn;rw[ih (by omega) fun i hi=>hn i (by omega)];obtain⟨hc,he⟩:=h.step t (by omega);obtain⟨h1,h2⟩:=hn t (by omega);rw[he];simp only[Dict.pivot];constructor
  ·rintro⟨c,hcn,e⟩;refine⟨c,hcn,?_⟩;rw[upd_other]
   ·exact e
   ·intro e';subst e';exact h2 e
  ·rintro⟨c,hcn,e⟩;refine⟨c,hcn,?_⟩;by_cases e':c=J t
   ·subst e';rw[upd_same] at e;exact absurd e h1
   ·rwa [upd_other _ _ e'] at e
theorem chain_len(K:Nat):∀ (s:Nat -> Dict) (I J:Nat -> Nat) (N:Nat),Chain m n s I J N -> (∀t,t<N -> (s t).basic (I t)<n+K /\ (s t).off (J t)<n+K) -> N<2^K:=by
 induction K with
 | zero=>
  intro s I J N h hk
  rcases Nat.eq_zero_or_pos N with h0 | h0
  ·subst h0;decide
  ·have h1:=hk 0 h0;have h2:=(h.step 0 h0).1.lt;omega
 | succ K ih=>
  intro s I J N h hk;have hpow:2^ (K+1)=2^K+2^K:=by rw[Nat.pow_succ];omega
  -- the first step that moves n + K
  by_cases hex:∃t,t<N /\ ((s t).basic (I t)=n+K \/ (s t).off (J t)=n+K)
  ·obtain⟨t0,⟨ht0,hm0⟩,hfirst⟩:∃t,(t<N /\ ((s t).basic (I t)=n+K \/ (s t).off (J t)=n+K)) /\ ∀u,u<t -> ¬((s u).basic (I u)=n+K \/ (s u).off (J u)=n+K):=by
    obtain⟨t,ht⟩:=hex
    induction t using Nat.strongRecOn with
    | ind t iht=>
     by_cases hu:∃u,u<t /\ ((s u).basic (I u)=n+K \/ (s u).off (J u)=n+K)
     ·obtain⟨u,hu1,hu2⟩:=hu;exact iht u hu1 ⟨by omega,hu2⟩
     ·exact⟨t,ht,fun u hu1 hu2=>hu ⟨u,hu1,hu2⟩⟩
   have h1:t0<2^K:=by
    refine ih s I J t0 (h.front (by omega)) fun t ht=> ?_
    have:=hk t (by omega);have:=hfirst t ht;omega
   have h2:N-(t0+1)<2^K:=by
    refine ih _ _ _ (N-(t0+1)) (h.tail (t:=t0+1) (by omega)) fun t ht=> ?_
    have hkt:=hk (t0+1+t) (by omega)
    -- no second step moves n + K
    by_cases hex2:∃u,u<N-(t0+1) /\ ((s (t0+1+u)).basic (I (t0+1+u))=n+K \/ (s (t0+1+u)).off (J (t0+1+u))=n+K)
    ·exfalso
     obtain⟨u,⟨hu,hm1⟩,hsec⟩:∃u,(u<N-(t0+1) /\ ((s (t0+1+u)).basic (I (t0+1+u))=n+K \/ (s (t0+1+u)).off (J (t0+1+u))=n+K)) /\
       ∀i,i<u -> ¬((s (t0+1+i)).basic (I (t0+1+i))=n+K \/ (s (t0+1+i)).off (J (t0+1+i))=n+K):=by
      obtain⟨t,ht⟩:=hex2
      induction t using Nat.strongRecOn with
      | ind t iht=>
       by_cases hu:∃u,u<t /\ ((s (t0+1+u)).basic (I (t0+1+u))=n+K \/ (s (t0+1+u)).off (J (t0+1+u))=n+K)
       ·obtain⟨u,hu1,hu2⟩:=hu;exact iht u hu1 ⟨by omega,hu2⟩
       ·exact⟨t,ht,fun u hu1 hu2=>hu ⟨u,hu1,hu2⟩⟩
     have hokA:=h.okAt t0 (by omega);have hokB:=h.okAt (t0+1) (by omega);have hokC:=h.okAt (t0+1+u) (by omega);obtain⟨cA,eA⟩:=h.step t0 ht0;obtain⟨cC,_⟩:=h.step (t0+1+u) (by omega);have lA:=hk t0 ht0;have lC:=hk (t0+1+u) (by omega);have hsol:∀x g f,(s t0).Sol m n x g f↔(s (t0+1+u)).Sol m n x g f:=fun x g f=>(h.sol t0 (by omega)).trans (h.sol (t0+1+u) (by omega)).symm
     have hT:=h.tail (t:=t0) (by omega);have hT1:=h.tail (t:=t0+1) (by omega)
     have hsame:SameOff n (n+K) (s t0) (s (t0+1+u)):=by
      intro v hv
      have h3:=hT.stays v (1+u) (by omega) fun i hi=>by
       have hki:=hk (t0+i) (by omega);have hci:=((h.step (t0+i) (by omega)).1).lt;omega
      rw[show t0+ (1+u)=t0+1+u by omega] at h3;exact h3
     have hk1:=hT1.stays (n+K) u (by omega) fun i hi=>by
      have:=hsec i hi;exact⟨fun e=>this (.inl e),fun e=>this (.inr e)⟩
     simp only[Nat.add_zero] at hk1;obtain⟨hiA,hjA,_,_,_⟩:=cA.lt;obtain⟨hiC,hjC,_,_,_⟩:=cC.lt
     rcases hm0 with hb | ho
     ·-- it leaves first
      have hoB:∃c,c<n /\ (s (t0+1)).off c=n+K:=⟨J t0,hjA,by rw[eA];simp only[Dict.pivot];rw[upd_same,hb]⟩
      obtain⟨c,hc,ec⟩:=hk1.1 hoB
      have hoC:(s (t0+1+u)).off (J (t0+1+u))=n+K:=by
       rcases hm1 with h5 | h5
       ·exact absurd (h5.trans ec.symm) (hokC.ne _ _ hiC hc)
       ·exact h5
      have:=hokC.ne _ _ hiC hjC;have:=hokA.ne _ _ hiA hjA;exact no_both hokC hokA (fun x g f=>(hsol x g f).symm) (fun v hv=>(hsame v hv).symm) cC hoC (by omega) cA hb (by omega)
     ·have hnB:¬ ∃c,c<n /\ (s (t0+1)).off c=n+K:=by
       rintro⟨c,hc,ec⟩;refine hokB.ne (I t0) c hiA hc ?_;rw[ec,eA];simp only[Dict.pivot];rw[upd_same,ho]
      have hnC:¬ ∃c,c<n /\ (s (t0+1+u)).off c=n+K:=fun e=>hnB (hk1.2 e)
      have hbC:(s (t0+1+u)).basic (I (t0+1+u))=n+K:=by
       rcases hm1 with h5 | h5
       ·exact h5
       ·exact absurd ⟨_,hjC,h5⟩ hnC
      have:=hokC.ne _ _ hiC hjC;have:=hokA.ne _ _ hiA hjA;exact no_both hokA hokC hsol hsame cA ho (by omega) cC hbC (by omega)
    ·have:¬((s (t0+1+t)).basic (I (t0+1+t))=n+K \/ (s (t0+1+t)).off (J (t0+1+t))=n+K):=fun e=>hex2 ⟨t,ht,e⟩
     omega
   omega
  ·have:=ih s I J N h fun t ht=>by
    have:=hk t ht;have:¬((s t).basic (I t)=n+K \/ (s t).off (J t)=n+K):=fun e=>hex ⟨t,ht,e⟩
    omega
   omega
theorem Chain.len(h:Chain m n s I J N):N<2^m:=by
 refine chain_len m s I J N h fun t ht=> ?_
 have hok:=h.okAt t (by omega);obtain⟨h1,h2,_⟩:=(h.step t ht).1.lt;exact⟨hok.bl _ h1,hok.ol _ h2⟩
end
def Reach(m n:Nat)(D:Dict)(N:Nat)(E:Dict):Prop:=∃s I J,Chain m n s I J N /\ s 0=D /\ s N=E
theorem Reach.refl{m n:Nat}{D:Dict}(h:D.Ok m n):Reach m n D 0 D:=⟨fun _=>D,fun _=>0,fun _=>0,⟨h,fun _ h=>absurd h (by omega)⟩,rfl,rfl⟩
theorem Reach.step{m n N i j:Nat}{D E:Dict}(h:Reach m n D N E)(hc:E.Choice m n i j):Reach m n D (N+1) (E.pivot i j):=by
 obtain⟨s,I,J,hch,h0,hN⟩:=h;refine⟨fun t=>if t <= N then s t else E.pivot i j,fun t=>if t<N then I t else i,fun t=>if t<N then J t else j,⟨?_,fun t ht=> ?_⟩,?_,?_⟩
 ·simp only[Nat.zero_le,if_true];exact hch.ok
 ·by_cases h1:t<N
  ·simp only[h1,if_true,show t <= N by omega,show t+1 <= N by omega];exact hch.step t h1
  ·have:t=N:=by omega
   subst this;simp only[Nat.le_refl,if_true,Nat.lt_irrefl,if_false,show ¬(t+1 <= t) by omega,hN];exact⟨hc,trivial⟩
 ·simp only[Nat.zero_le,if_true];exact h0
 ·simp only[show ¬(N+1 <= N) by omega,if_false]
theorem Reach.lt{m n N:Nat}{D E:Dict}(h:Reach m n D N E):N<2^m:=by obtain⟨s,I,J,hch,_,_⟩:=h;exact hch.len
theorem Reach.ok{m n N:Nat}{D E:Dict}(h:Reach m n D N E):E.Ok m n:=by obtain⟨s,I,J,hch,_,rfl⟩:=h;exact hch.okAt N (Nat.le_refl _)
theorem Reach.sol{m n N:Nat}{D E:Dict}(h:Reach m n D N E){x:Nat -> Rat}{g f:Rat}:E.Sol m n x g f↔D.Sol m n x g f:=by obtain⟨s,I,J,hch,rfl,rfl⟩:=h;exact hch.sol N (Nat.le_refl _)
def Dict.init(n:Nat)(A:Nat -> Nat -> Rat)(b c:Nat -> Rat):Dict where
 basic:=fun r=>n+r
 off:=fun j=>j
 con:=b
 cell:=A
 top:=fun j=> - c j
 val:=0
def dotN(n:Nat)(a x:Nat -> Rat):Rat:=sumTo n (fun k=>a k*x k)
theorem Dict.init_ok(m n:Nat)(A:Nat -> Nat -> Rat)(b c:Nat -> Rat):(Dict.init n A b c).Ok m n:=by
 refine⟨?_,?_,?_,?_,?_,?_⟩ <;> simp only[Dict.init]
 ·intro r s _ _ h;omega
 ·intro c d _ _ h;exact h
 ·intro r c _ hc h;omega
 ·intro r hr;omega
 ·intro c hc;omega
 ·intro v hv;by_cases h:v<n
  ·exact .inr ⟨v,h,rfl⟩
  ·exact .inl ⟨v-n,by omega,by omega⟩
theorem Dict.init_sol{m n:Nat}{A:Nat -> Nat -> Rat}{b c:Nat -> Rat}{x:Nat -> Rat}{g f:Rat}:(Dict.init n A b c).Sol m n x g f↔(∀r,r<m -> x (n+r)=b r*g-dotN n (A r) x) /\ f=dotN n c x:=by
 unfold Dict.Sol Dict.Row Dict.Top dotN;simp only[Dict.init]
 have e:(0:Rat)*g-sumTo n (fun k=> - c k*x k)=sumTo n (fun k=>c k*x k):=by
  have:sumTo n (fun k=> - c k*x k)=(-1)*sumTo n (fun k=>c k*x k):=by rw[<- sumTo_mul];exact sumTo_congr fun k _=>by grind
  rw[this];grind
 rw[e]
theorem dotN_congr{n:Nat}{a x y:Nat -> Rat}(h:∀k,k<n -> x k=y k):dotN n a x=dotN n a y:=sumTo_congr fun k hk=>by rw[h k hk]
theorem Dict.init_ext{m n:Nat}(A:Nat -> Nat -> Rat)(b c x:Nat -> Rat)(g:Rat):∃y,(Dict.init n A b c).Sol m n y g (dotN n c x) /\ (∀k,k<n -> y k=x k) /\ ∀r,r<m -> y (n+r)=b r*g-dotN n (A r) x:=by
 have e:∀a:Nat -> Rat,dotN n a (fun v=>if v<n then x v else b (v-n)*g-dotN n (A (v-n)) x)=dotN n a x:=fun a=>dotN_congr fun k hk=>if_pos hk
 refine⟨fun v=>if v<n then x v else b (v-n)*g-dotN n (A (v-n)) x,Dict.init_sol.2 ⟨fun r _=> ?_,(e c).symm⟩,fun k hk=>if_pos hk,fun r _=> ?_⟩
 ·rw[e,if_neg (by omega),show n+r-n=r by omega]
 ·simp only[];rw[if_neg (by omega),show n+r-n=r by omega]
def HoldsN(m n:Nat)(A:Nat -> Nat -> Rat)(b x:Nat -> Rat):Prop:=∀i,i<m -> dotN n (A i) x <= b i
structure Duals (m n:Nat) (A:Nat -> Nat -> Rat) (y c:Nat -> Rat):Prop where
 pos:∀i,i<m -> 0 <= y i
 sum:∀k,k<n -> dotN m y (fun i=>A i k)=c k
structure Opt (m n:Nat) (A:Nat -> Nat -> Rat) (b c:Nat -> Rat) (v:Rat) (x y:Nat -> Rat):Prop where
 du:Duals m n A y c
 bound:dotN m y b=v
 holds:HoldsN m n A b x
 value:dotN n c x=v
structure Inf (m n:Nat) (A:Nat -> Nat -> Rat) (b:Nat -> Rat) (y:Nat -> Rat):Prop where
 du:Duals m n A y (fun _=>0)
 bound:dotN m y b<0
structure Unb (m n:Nat) (A:Nat -> Nat -> Rat) (b c x d:Nat -> Rat):Prop where
 holds:HoldsN m n A b x
 ray:∀i,i<m -> dotN n (A i) d <= 0
 up:0<dotN n c d
theorem sumTo_le{n:Nat}{f g:Nat -> Rat}(h:∀c,c<n -> f c <= g c):sumTo n f <= sumTo n g:=by
 have:=sumTo_nonneg (n:=n) (f:=fun c=>g c-f c) (fun c hc=>by have:=h c hc;grind);rw[sumTo_sub] at this;grind
theorem duals_at{m n:Nat}{A:Nat -> Nat -> Rat}{y c x:Nat -> Rat}(h:Duals m n A y c):dotN n c x=dotN m y (fun i=>dotN n (A i) x):=by
 have e:dotN n c x=sumTo n (fun k=>sumTo m (fun i=>y i*A i k)*x k):=sumTo_congr fun k hk=>by rw[<- h.sum k hk];rfl
 have e2:sumTo n (fun k=>sumTo m (fun i=>y i*A i k)*x k)=sumTo n (fun k=>sumTo m (fun i=>y i*A i k*x k)):=sumTo_congr fun k _=>by
  rw[show sumTo m (fun i=>y i*A i k)*x k=x k*sumTo m (fun i=>y i*A i k) by grind, <- sumTo_mul];exact sumTo_congr fun i _=>by grind
 rw[e,e2,sumTo_comm];refine sumTo_congr fun i _=> ?_
 rw[show y i*dotN n (A i) x=y i*sumTo n (fun k=>A i k*x k) from rfl, <- sumTo_mul];exact sumTo_congr fun k _=>by grind
theorem duals_le{m n:Nat}{A:Nat -> Nat -> Rat}{b y c x:Nat -> Rat}(h:Duals m n A y c)(hx:HoldsN m n A b x):dotN n c x <= dotN m y b:=by
 rw[duals_at h];exact sumTo_le fun i hi=>Rat.mul_le_mul_of_nonneg_left (hx i hi) (h.pos i hi)
theorem duals_ray{m n:Nat}{A:Nat -> Nat -> Rat}{y c d:Nat -> Rat}(h:Duals m n A y c)(hx:∀i,i<m -> dotN n (A i) d <= 0):dotN n c d <= 0:=by
 rw[duals_at h];have:=sumTo_nonneg (n:=m) (f:=fun i=>y i* (- dotN n (A i) d)) (fun i hi=>Rat.mul_nonneg (h.pos i hi) (by have:=hx i hi;grind))
 have e:sumTo m (fun i=>y i* (- dotN n (A i) d))=(-1)*dotN m y (fun i=>dotN n (A i) d):=by
  unfold dotN;rw[<- sumTo_mul];exact sumTo_congr fun i _=>by grind
 rw[e] at this;grind
section
variable {m n:Nat} {A:Nat -> Nat -> Rat} {b c x y d x' y':Nat -> Rat} {v v':Rat}
theorem Opt.le(h:Opt m n A b c v x y)(hx:HoldsN m n A b x'):dotN n c x' <= v:=by have:=duals_le h.du hx;rw[h.bound] at this;exact this
theorem Opt.eq(h:Opt m n A b c v x y)(h':Opt m n A b c v' x' y'):v=v':=by
 have h1:=h.le h'.holds;have h2:=h'.le h.holds;rw[h'.value] at h1;rw[h.value] at h2;exact Rat.le_antisymm h2 h1
theorem Inf.no(h:Inf m n A b y)(hx:HoldsN m n A b x):False:=by
 have h1:=duals_le h.du hx;have h2:=h.bound;have:dotN n (fun _=>0) x=0:=sumTo_zero fun k _=>by grind
 grind
theorem Unb.no(h:Unb m n A b c x d)(h':Opt m n A b c v x' y'):False:=by
 have:=duals_ray h'.du h.ray;have:=h.up;grind
end
theorem duals_of{m n:Nat}{A:Nat -> Nat -> Rat}{b c y:Nat -> Rat}{p q:Rat}(h:∀x g f,(Dict.init n A b c).Sol m n x g f -> dotN m y (fun i=>x (n+i))=p*g-q*f):
  (∀k,k<n -> dotN m y (fun i=>A i k)=q*c k) /\ dotN m y b=p:=by
 constructor
 ·intro k hk;obtain⟨z,hz,_,hs⟩:=Dict.init_ext (m:=m) (n:=n) A b c (fun v=>if v=k then 1 else 0) 0
  have one:∀a:Nat -> Rat,dotN n a (fun v=>if v=k then 1 else 0)=a k:=fun a=>by
   unfold dotN;rw[sumTo_one hk (fun c _ hc=>by simp only[if_neg hc];grind)];simp only[if_true];grind
  have h1:=h z 0 _ hz;rw[one] at h1
  have e:dotN m y (fun i=>z (n+i))=(-1)*dotN m y (fun i=>A i k):=by
   unfold dotN;rw[<- sumTo_mul];exact sumTo_congr fun i hi=>by simp only[];rw[hs i hi,one];grind
  rw[e] at h1;grind
 ·obtain⟨z,hz,_,hs⟩:=Dict.init_ext (m:=m) (n:=n) A b c (fun _=>0) 1;have zero:∀a:Nat -> Rat,dotN n a (fun _=>0)=0:=fun a=>sumTo_zero fun _ _=>by grind
  have h1:=h z 1 _ hz;rw[zero] at h1
  have e:dotN m y (fun i=>z (n+i))=dotN m y b:=by
   unfold dotN;exact sumTo_congr fun i hi=>by simp only[];rw[hs i hi,zero];grind
  rw[e] at h1;grind
def spread(n:Nat)(o:Nat -> Nat)(a:Nat -> Rat)(k:Nat):Rat:=sumTo n (fun c=>if o c=k then a c else 0)
theorem spread_at{n:Nat}{o:Nat -> Nat}(hi:∀c d,c<n -> d<n -> o c=o d -> c=d)(a:Nat -> Rat){c:Nat}(hc:c<n):spread n o a (o c)=a c:=by
 unfold spread;rw[sumTo_one hc (fun d hd hne=>if_neg fun e=>hne (hi d c hd hc e)),if_pos rfl]
theorem spread_none{n:Nat}{o:Nat -> Nat}(a:Nat -> Rat){k:Nat}(h:∀c,c<n -> o c≠k):spread n o a k=0:=sumTo_zero fun c hc=>if_neg (h c hc)
theorem spread_sum{m n:Nat}{o:Nat -> Nat}(hl:∀c,c<n -> o c<n+m)(a x:Nat -> Rat):dotN m (fun i=>spread n o a (n+i)) (fun i=>x (n+i))=sumTo n (fun c=>if n <= o c then a c*x (o c) else 0):=by
 unfold dotN spread
 have e:sumTo m (fun i=>sumTo n (fun c=>if o c=n+i then a c else 0)*x (n+i))=sumTo m (fun i=>sumTo n (fun c=>if o c=n+i then a c*x (n+i) else 0)):=sumTo_congr fun i _=>by
  rw[show sumTo n (fun c=>if o c=n+i then a c else 0)*x (n+i)=x (n+i)*sumTo n (fun c=>if o c=n+i then a c else 0) by grind, <- sumTo_mul];exact sumTo_congr fun c _=>by split <;> grind
 rw[e,sumTo_comm];refine sumTo_congr fun c hc=> ?_
 by_cases h:n <= o c
 ·rw[if_pos h];have:=hl c hc;rw[sumTo_one (j:=o c-n) (by omega) (fun i hi hne=>if_neg (by omega)),if_pos (by omega),show n+ (o c-n)=o c by omega]
 ·rw[if_neg h];exact sumTo_zero fun i hi=>if_neg (by omega)
def Dict.Zed(m n:Nat)(D:Dict):Prop:=∀r c,r<m -> c<n -> n <= D.basic r -> D.off c<n -> D.cell r c=0
def Dict.TopZ(n:Nat)(D:Dict):Prop:=∀c,c<n -> D.off c<n -> D.top c=0
theorem Dict.Zed.pivot{m n i j:Nat}{D:Dict}(h:D.Zed m n)(hc:D.Choice m n i j):(D.pivot i j).Zed m n:=by
 obtain⟨hi,hj,hk,hb,ho⟩:=hc.lt;intro r c hr hcn h1 h2;simp only[Dict.pivot] at*;have hcj:c≠j:=by rintro rfl;rw[upd_same] at h2;omega
 rw[upd_other _ _ hcj] at h2;by_cases hri:r=i
 ·subst hri;rw[if_pos rfl,upd_other _ _ hcj,h r c hr hcn hb h2];grind
 ·rw[upd_other _ _ hri] at h1;rw[if_neg hri,upd_other _ _ hcj,upd_other _ _ hcj,h r c hr hcn h1 h2,h i c hi hcn hb h2];grind
theorem Dict.TopZ.pivot{m n i j:Nat}{D:Dict}(h:D.TopZ n)(hz:D.Zed m n)(hc:D.Choice m n i j):(D.pivot i j).TopZ n:=by
 obtain⟨hi,hj,hk,hb,ho⟩:=hc.lt;intro c hcn h2;simp only[Dict.pivot] at*;have hcj:c≠j:=by rintro rfl;rw[upd_same] at h2;omega
 rw[upd_other _ _ hcj] at h2;rw[upd_other _ _ hcj,upd_other _ _ hcj,h c hcn h2,hz i c hi hcn hb h2];grind
theorem Reach.zed{m n N:Nat}{D E:Dict}(h:Reach m n D N E)(hz:D.Zed m n):E.Zed m n:=by
 obtain⟨s,I,J,hch,rfl,rfl⟩:=h
 have:∀t,t <= N -> (s t).Zed m n:=by
  intro t
  induction t with
  | zero=>exact fun _=>hz
  | succ t ih=>intro ht;obtain⟨hc,he⟩:=hch.step t (by omega);rw[he];exact(ih (by omega)).pivot hc
 exact this N (Nat.le_refl _)
theorem Reach.topz{m n N:Nat}{D E:Dict}(h:Reach m n D N E)(hz:D.Zed m n)(ht:D.TopZ n):E.TopZ n:=by
 obtain⟨s,I,J,hch,rfl,rfl⟩:=h
 have:∀t,t <= N -> (s t).Zed m n /\ (s t).TopZ n:=by
  intro t
  induction t with
  | zero=>exact fun _=>⟨hz,ht⟩
  | succ t ih=>intro ht;obtain⟨hc,he⟩:=hch.step t (by omega);rw[he];exact⟨(ih (by omega)).1.pivot hc,(ih (by omega)).2.pivot (ih (by omega)).1 hc⟩
 exact(this N (Nat.le_refl _)).2
section
variable {m n:Nat} {A:Nat -> Nat -> Rat} {b c:Nat -> Rat} {D:Dict}
theorem opt_of(hD:D.Ok m n)(hs:∀x g f,D.Sol m n x g f↔(Dict.init n A b c).Sol m n x g f)(hf:D.Fine m n (n+m))(hz:D.TopZ n):
  Opt m n A b c D.val (spread m D.basic D.con) (fun i=>spread n D.off D.top (n+i)):=by
 have hy:∀x g f,(Dict.init n A b c).Sol m n x g f -> dotN m (fun i=>spread n D.off D.top (n+i)) (fun i=>x (n+i))=D.val*g-1*f:=by
  intro x g f hx;have ht:=((hs x g f).2 hx).2;unfold Dict.Top at ht;rw[spread_sum hD.ol,ht]
  have:sumTo n (fun k=>if n <= D.off k then D.top k*x (D.off k) else 0)=sumTo n (fun k=>D.top k*x (D.off k)):=sumTo_congr fun k hk=>by
   split
   ·rfl
   ·rw[hz k hk (by omega)];grind
  rw[this];grind
 obtain⟨h1,h2⟩:=duals_of hy;obtain⟨x,hx,ho,hb⟩:=D.exists_sol hD (fun _=>0) 1;have z:∀a:Nat -> Rat,sumTo n (fun c=>a c*0)=0:=fun a=>sumTo_zero fun c _=>by grind
 have hxi:=Dict.init_sol.1 ((hs _ _ _).1 hx)
 have hpt:∀k,k<n -> x k=spread m D.basic D.con k:=by
  intro k hk
  rcases hD.all k (by omega) with ⟨r,hr,rfl⟩ | ⟨c,hc,rfl⟩
  ·rw[spread_at hD.bi _ hr,hb r hr,z];grind
  ·rw[ho c hc,spread_none _ fun r hr=>hD.ne r c hr hc]
 refine⟨⟨fun i hi=> ?_,fun k hk=>by rw[h1 k hk];grind⟩,h2,fun i hi=> ?_,?_⟩
 ·rcases hD.all (n+i) (by omega) with ⟨r,hr,e⟩ | ⟨c,hc,e⟩
  ·rw[spread_none _ fun c hc=>by rw[<- e];exact fun e'=>hD.ne r c hr hc e'.symm];exact Rat.le_refl
  ·rw[<- e,spread_at hD.oi _ hc];exact hf.2 c hc (by omega) (hD.ol c hc)
 ·rw[<- dotN_congr hpt];have e:=hxi.1 i hi
  have hpos:0 <= x (n+i):=by
   rcases hD.all (n+i) (by omega) with ⟨r,hr,e⟩ | ⟨c,hc,e⟩
   ·rw[<- e,hb r hr,z];have:=hf.1 r hr (by omega) (hD.bl r hr);grind
   ·rw[<- e,ho c hc];exact Rat.le_refl
  grind
 ·rw[<- dotN_congr hpt];have e:=hxi.2;rw[z] at e;grind
theorem inf_of(hD:D.Ok m n)(hs:∀x g f,D.Sol m n x g f↔(Dict.init n A b c).Sol m n x g f)(hz:D.Zed m n){i:Nat}(hi:i<m)(hb:n <= D.basic i)(hneg:D.con i<0)(hno:∀c,c<n -> n <= D.off c -> 0 <= D.cell i c):
  Inf m n A b (fun k=>(if D.basic i=n+k then 1 else 0)+spread n D.off (D.cell i) (n+k)):=by
 have hbl:=hD.bl i hi
 have hy:∀x g f,(Dict.init n A b c).Sol m n x g f -> dotN m (fun k=>(if D.basic i=n+k then 1 else 0)+spread n D.off (D.cell i) (n+k)) (fun i=>x (n+i))=D.con i*g-0*f:=by
  intro x g f hx;have ht:=((hs x g f).2 hx).1 i hi;unfold Dict.Row at ht
  have e1:dotN m (fun k=>(if D.basic i=n+k then 1 else 0)+spread n D.off (D.cell i) (n+k)) (fun i=>x (n+i))=sumTo m (fun k=>(if D.basic i=n+k then 1 else 0)*x (n+k))+dotN m (fun k=>spread n D.off (D.cell i) (n+k)) (fun i=>x (n+i)):=by
   unfold dotN;rw[<- sumTo_add];exact sumTo_congr fun k _=>by grind
  rw[e1,spread_sum hD.ol,sumTo_one (j:=D.basic i-n) (by omega) (fun k hk hne=>by rw[if_neg (by omega)];grind),if_pos (by omega),show n+ (D.basic i-n)=D.basic i by omega,ht]
  have:sumTo n (fun k=>if n <= D.off k then D.cell i k*x (D.off k) else 0)=sumTo n (fun k=>D.cell i k*x (D.off k)):=sumTo_congr fun k hk=>by
   split
   ·rfl
   ·rw[hz i k hi hk hb (by omega)];grind
  rw[this];grind
 obtain⟨h1,h2⟩:=duals_of hy;refine⟨⟨fun k hk=> ?_,fun k hk=>by rw[h1 k hk];grind⟩,by rw[h2];exact hneg⟩
 have:0 <= spread n D.off (D.cell i) (n+k):=by
  rcases hD.all (n+k) (by omega) with ⟨r,hr,e⟩ | ⟨c,hc,e⟩
  ·rw[spread_none _ fun c hc=>by rw[<- e];exact fun e'=>hD.ne r c hr hc e'.symm];exact Rat.le_refl
  ·rw[<- e,spread_at hD.oi _ hc];exact hno c hc (by omega)
 split <;> grind
theorem ray_of(hD:D.Ok m n)(hs:∀x g f,D.Sol m n x g f↔(Dict.init n A b c).Sol m n x g f){j:Nat}(hj:j<n)(s:Rat)(hs0:n <= D.off j -> 0 <= s)(hr:∀r,r<m -> n <= D.basic r -> s*D.cell r j <= 0)(hup:0< - (s*D.top j)):
  (∀i,i<m -> dotN n (A i) (fun k=>(if D.off j=k then s else 0)+spread m D.basic (fun r=> - (s*D.cell r j)) k) <= 0) /\ 0<dotN n c (fun k=>(if D.off j=k then s else 0)+spread m D.basic (fun r=> - (s*D.cell r j)) k):=by
 obtain⟨x,hx,ho,hb⟩:=D.exists_sol hD (fun c=>if c=j then s else 0) 0
 have z:∀a:Nat -> Rat,sumTo n (fun c=>a c* (if c=j then s else 0))=a j*s:=fun a=>by
  rw[sumTo_one hj (fun c _ hc=>by rw[if_neg hc];grind),if_pos rfl]
 have hxi:=Dict.init_sol.1 ((hs _ _ _).1 hx)
 have hpt:∀k,k<n -> x k=(if D.off j=k then s else 0)+spread m D.basic (fun r=> - (s*D.cell r j)) k:=by
  intro k hk
  rcases hD.all k (by omega) with ⟨r,hr,rfl⟩ | ⟨c,hc,rfl⟩
  ·rw[spread_at hD.bi _ hr,hb r hr,z,if_neg fun e=>hD.ne r j hr hj e.symm];grind
  ·rw[ho c hc,spread_none _ fun r hr=>hD.ne r c hr hc];by_cases e:c=j
   ·rw[if_pos e,if_pos (by rw[e])];grind
   ·rw[if_neg e,if_neg fun e'=>e (hD.oi c j hc hj e'.symm)];grind
 refine⟨fun i hi=> ?_,?_⟩
 ·rw[<- dotN_congr hpt];have e:=hxi.1 i hi
  have hpos:0 <= x (n+i):=by
   rcases hD.all (n+i) (by omega) with ⟨r,hr',e⟩ | ⟨c,hc,e⟩
   ·rw[<- e,hb r hr',z];have:=hr r hr' (by omega);grind
   ·rw[<- e,ho c hc];split
    ·rename_i h;subst h;exact hs0 (by omega)
    ·exact Rat.le_refl
  grind
 ·rw[<- dotN_congr hpt];have e:=hxi.2;rw[z] at e;grind
end
def Dict.Rel(m n:Nat)(D:Dict)(j:Nat):Prop:=(∀c,j <= c -> c<n -> D.off c=c) /\ ∀c r,c<j -> c<n -> r<m -> n <= D.basic r -> D.off c<n -> D.cell r c=0
theorem Dict.Rel.zed{m n:Nat}{D:Dict}(h:D.Rel m n n):D.Zed m n:=fun r c hr hc h1 h2=>h.2 c r hc hc hr h1 h2
theorem Dict.rel_init(m n:Nat)(A:Nat -> Nat -> Rat)(b c:Nat -> Rat):(Dict.init n A b c).Rel m n 0:=⟨fun _ _ _=>rfl,fun _ _ h=>absurd h (by omega)⟩
theorem Dict.Rel.none_{m n j:Nat}{D:Dict}(h:D.Rel m n j)(hz:∀r,r<m -> n <= D.basic r -> D.cell r j=0):D.Rel m n (j+1):=
 ⟨fun c h1 h2=>h.1 c (by omega) h2,fun c r h1 h2 hr hb ho=>by
  by_cases e:c=j
  ·subst e;exact hz r hr hb
  ·exact h.2 c r (by omega) h2 hr hb ho⟩
theorem Dict.Rel.pivot{m n i j:Nat}{D:Dict}(h:D.Rel m n j)(hj:j<n)(hi:i<m)(hb:n <= D.basic i):(D.pivot i j).Rel m n (j+1):=by
 have hoj:=h.1 j (Nat.le_refl _) hj;refine⟨fun c h1 h2=> ?_,fun c r h1 h2 hr hbr ho=> ?_⟩
 ·simp only[Dict.pivot];rw[upd_other _ _ (by omega)];exact h.1 c (by omega) h2
 ·simp only[Dict.pivot] at*;by_cases e:c=j
  ·subst e;rw[upd_same] at ho;omega
  ·rw[upd_other _ _ e] at ho;by_cases hri:r=i
   ·subst hri;rw[upd_same] at hbr;omega
   ·rw[upd_other _ _ hri] at hbr;rw[if_neg hri,upd_other _ _ e,upd_other _ _ e,h.2 c r (by omega) h2 hr hbr ho,h.2 c i (by omega) h2 hi hb ho];grind
def RL(k:Nat)(q:Rat):Prop:=q.num.natAbs<10^k /\ q.den<10^k
theorem ten_le{k m:Nat}(h:k <= m):10^k <= 10^m:=Nat.pow_le_pow_right (by decide) h
theorem RL.mono{k m:Nat}{q:Rat}(h:RL k q)(hm:k <= m):RL m q:=⟨Nat.lt_of_lt_of_le h.1 (ten_le hm),Nat.lt_of_lt_of_le h.2 (ten_le hm)⟩
theorem rl_divInt{p d:Int}{k:Nat}(hd:d≠0)(hp:p.natAbs<10^k)(hdk:d.natAbs<10^k):RL k (Rat.divInt p d):=by
 have hg:0<d.gcd p:=Int.gcd_pos_of_ne_zero_left p hd;constructor
 ·rw[Rat.num_divInt]
  have h1:(d.sign*p / (d.gcd p:Nat)).natAbs <= (d.sign*p).natAbs:=by
   rw[Int.natAbs_ediv_of_dvd]
   ·exact Nat.div_le_self _ _
   ·exact Int.dvd_trans (Int.gcd_dvd_right ..) ⟨d.sign,by rw[Int.mul_comm]⟩
  have h2:(d.sign*p).natAbs <= p.natAbs:=by
   rw[Int.natAbs_mul,Int.natAbs_sign_of_ne_zero hd,Nat.one_mul];exact Nat.le_refl _
  omega
 ·rw[Rat.den_divInt,if_neg hd];exact Nat.lt_of_le_of_lt (Nat.div_le_self _ _) hdk
theorem rl_mkRat{p:Int}{d k:Nat}(hd:d≠0)(hp:p.natAbs<10^k)(hdk:d<10^k):RL k (mkRat p d):=by
 rw[<- Rat.divInt_ofNat];exact rl_divInt (by omega) hp (by simpa using hdk)
theorem RL.zero:RL 1 0:=by unfold RL;decide
theorem RL.one:RL 1 1:=by unfold RL;decide
theorem RL.neg{k:Nat}{q:Rat}(h:RL k q):RL k (-q):=by unfold RL at*;rw[Rat.neg_num,Rat.neg_den,Int.natAbs_neg];exact h
theorem RL.mul{k m:Nat}{p q:Rat}(h:RL k p)(h':RL m q):RL (k+m) (p*q):=by
 rw[Rat.mul_def'];refine rl_mkRat (Nat.mul_ne_zero p.den_nz q.den_nz) ?_ ?_
 ·rw[Int.natAbs_mul,Nat.pow_add];exact Nat.mul_lt_mul'' h.1 h'.1
 ·rw[Nat.pow_add];exact Nat.mul_lt_mul'' h.2 h'.2
theorem RL.inv'{k:Nat}{q:Rat}(h:RL k q)(hq:q≠0):RL k (q⁻¹):=by
 have h0:q.num≠0:=fun e=>hq (Rat.num_eq_zero.1 e)
 constructor
 ·rw[Rat.num_inv,Int.natAbs_mul,Int.natAbs_sign_of_ne_zero h0];have:=h.2
  simpa using this
 ·rw[Rat.den_inv,if_neg h0];exact h.1
theorem RL.div{k m:Nat}{p q:Rat}(h:RL k p)(h':RL m q)(hq:q≠0):RL (k+m) (p / q):=by
 rw[Rat.div_def];exact h.mul (h'.inv' hq)
theorem RL.add{k m:Nat}{p q:Rat}(h:RL k p)(h':RL m q):RL (k+m+1) (p+q):=by
 rw[Rat.add_def'];have e:10^ (k+m+1)=10^k*10^m*10:=by rw[Nat.pow_succ,Nat.pow_add]
 refine rl_mkRat (Nat.mul_ne_zero p.den_nz q.den_nz) ?_ ?_
 ·have h1:(p.num* (q.den:Int)).natAbs<10^k*10^m:=by rw[Int.natAbs_mul,Int.natAbs_natCast];exact Nat.mul_lt_mul'' h.1 h'.2
  have h2:(q.num* (p.den:Int)).natAbs<10^k*10^m:=by rw[Int.natAbs_mul,Int.natAbs_natCast,Nat.mul_comm];exact Nat.mul_lt_mul'' h.2 h'.1
  have:=Int.natAbs_add_le (p.num* (q.den:Int)) (q.num* (p.den:Int));omega
 ·have:p.den*q.den<10^k*10^m:=Nat.mul_lt_mul'' h.2 h'.2;omega
structure Dict.Lim (m n:Nat) (D:Dict) (k:Nat):Prop where
 con:∀r,r<m -> RL k (D.con r)
 cell:∀r c,r<m -> c<n -> RL k (D.cell r c)
 top:∀c,c<n -> RL k (D.top c)
 val:RL k D.val
theorem Dict.Lim.pos{m n k:Nat}{D:Dict}(h:D.Lim m n k):0<k:=by
 rcases Nat.eq_zero_or_pos k with h0 | h0
 ·subst h0;have:=h.val.2;have:=D.val.den_pos;omega
 ·exact h0
def count(n:Nat)(p:Nat -> Bool):Nat:=match n with
 | 0=>0
 | n+1=>count n p+if p n then 1 else 0
theorem count_congr{n:Nat}{p q:Nat -> Bool}(h:∀k,k<n -> p k=q k):count n p=count n q:=by
 induction n with
 | zero=>rfl
 | succ n ih=>simp only[count];rw[ih fun k hk=>h k (by omega),h n (by omega)]
theorem count_le(n:Nat)(p:Nat -> Bool):count n p <= n:=by
 induction n with
 | zero=>exact Nat.le_refl _
 | succ n ih=>simp only[count];split <;> omega
theorem count_zero{n:Nat}{p:Nat -> Bool}(h:count n p=0):∀k,k<n -> p k=false:=by
 induction n with
 | zero=>intro k hk;omega
 | succ n ih=>
  simp only[count] at h;intro k hk;by_cases e:k=n
  ·subst e;cases hp:p k
   ·rfl
   ·rw[hp] at h;simp at h
  ·exact ih (by omega) k (by omega)
theorem count_pos{n:Nat}{p:Nat -> Bool}(h:count n p≠0):∃k,k<n /\ p k=true:=by
 induction n with
 | zero=>exact absurd rfl h
 | succ n ih=>
  simp only[count] at h;cases hp:p n
  ·rw[hp] at h;obtain⟨k,hk,e⟩:=ih (by simpa using h);exact⟨k,by omega,e⟩
  ·exact⟨n,by omega,hp⟩
theorem count_upd{n i:Nat}{p q:Nat -> Bool}(hi:i<n)(h:∀k,k<n -> k≠i -> p k=q k)(hp:p i=true)(hq:q i=false):count n p=count n q+1:=by
 induction n with
 | zero=>omega
 | succ n ih=>
  simp only[count];by_cases e:i=n
  ·subst e;rw[count_congr fun k hk=>h k (by omega) (by omega),hp,hq];simp
  ·rw[ih (by omega) fun k hk hne=>h k (by omega) hne,h n (by omega) (by omega)];omega
def prodTo:Nat -> (Nat -> Nat) -> Nat
 | 0,_=>1
 | n+1,f=>prodTo n f*f n
theorem prodTo_dvd{n c:Nat}{f:Nat -> Nat}(hc:c<n):f c ∣ prodTo n f:=by
 induction n with
 | zero=>omega
 | succ n ih=>
  by_cases e:c=n
  ·subst e;exact Nat.dvd_mul_left _ _
  ·exact Nat.dvd_trans (ih (by omega)) (Nat.dvd_mul_right _ _)
theorem prodTo_le{n M:Nat}{f:Nat -> Nat}(h:∀c,c<n -> 0<f c /\ f c <= M):0<prodTo n f /\ prodTo n f <= M^n:=by
 induction n with
 | zero=>exact⟨Nat.one_pos,Nat.le_refl _⟩
 | succ n ih=>
  have h1:=ih fun c hc=>h c (by omega)
  have h2:=h n (by omega);exact⟨Nat.mul_pos h1.1 h2.1,by rw[Nat.pow_succ];exact Nat.mul_le_mul h1.2 h2.2⟩
theorem num_of(q:Rat):q* (q.den:Rat)=(q.num:Rat):=by
 have h:q=Rat.divInt q.num q.den:=(Rat.num_divInt_den q).symm;rw[Rat.divInt_eq_div] at h
 have hd:((q.den:Int):Rat)≠0:=by
  intro e;have:(q.den:Int)=0:=by exact_mod_cast e
  have:=q.den_pos;omega
 have h2:=Rat.div_mul_cancel (a:=(q.num:Rat)) hd;rw[<- h] at h2
 exact_mod_cast h2
theorem RL.clear{k s R:Nat}{q:Rat}(h:RL k q)(hd:q.den ∣ R)(h0:0<R)(hR:R <= 10^s):∃z:Int,z.natAbs<10^ (k+s) /\ q* (R:Rat)=z:=by
 obtain⟨e,rfl⟩:=hd;refine⟨q.num* (e:Int),?_,?_⟩
 ·have he:e <= 10^s:=Nat.le_trans (Nat.le_mul_of_pos_left _ q.den_pos) hR;rw[Int.natAbs_mul,Int.natAbs_natCast,Nat.pow_add];exact Nat.lt_of_le_of_lt (Nat.mul_le_mul_left _ he) (Nat.mul_lt_mul_of_pos_right h.1 (Nat.pow_pos (by decide)))
 ·have:=num_of q
  push_cast
  grind
structure Dict.Scal (m n:Nat) (D:Dict) (σ:Nat -> Nat) (τ:Nat) (d:Int) (b:Nat):Prop where
 d0:d≠0
 dl:d.natAbs<10^b
 con:∀r,r<m -> ∃z:Int,z.natAbs<10^b /\ D.con r* (σ (D.basic r):Rat)* (d:Rat)=z
 cell:∀r c,r<m -> c<n -> ∃z:Int,z.natAbs<10^b /\ D.cell r c* (σ (D.basic r):Rat)* (d:Rat)=z* (σ (D.off c):Rat)
 top:∀c,c<n -> ∃z:Int,z.natAbs<10^b /\ D.top c* (τ:Rat)* (d:Rat)=z* (σ (D.off c):Rat)
 val:∃z:Int,z.natAbs<10^b /\ D.val* (τ:Rat)* (d:Rat)=z
theorem dbl_mul{b:Nat}{x y:Int}(hx:x.natAbs<10^b)(hy:y.natAbs<10^b):(x*y).natAbs<10^ (2*b+1):=by
 have h:=Nat.mul_lt_mul'' hx hy;rw[Int.natAbs_mul,show 2*b+1=b+b+1 by omega,Nat.pow_succ,Nat.pow_add];omega
theorem dbl_sub{b:Nat}{x y z u:Int}(hx:x.natAbs<10^b)(hy:y.natAbs<10^b)(hz:z.natAbs<10^b)(hu:u.natAbs<10^b):(x*y-z*u).natAbs<10^ (2*b+1):=by
 have h:=Nat.mul_lt_mul'' hx hy;have h':=Nat.mul_lt_mul'' hz hu;have h2:=Int.natAbs_sub_le (x*y) (z*u);rw[Int.natAbs_mul,Int.natAbs_mul] at h2;rw[show 2*b+1=b+b+1 by omega,Nat.pow_succ,Nat.pow_add];omega
theorem cast_pos{a:Nat}(h:0<a):(a:Rat)≠0:=by
 intro e;have:a=0:=by exact_mod_cast e
 omega
theorem Dict.Scal.pivot{m n i j b:Nat}{D:Dict}{σ:Nat -> Nat}{τ:Nat}{d:Int}(h:D.Scal m n σ τ d b)(hσ:∀v,0<σ v)(hi:i<m)(hj:j<n)(hk:D.cell i j≠0):∃d',(D.pivot i j).Scal m n σ τ d' (2*b+1):=by
 obtain⟨p,hp,ep⟩:=h.cell i j hi hj;have hd:(d:Rat)≠0:=fun e=>h.d0 (by exact_mod_cast e)
 have hs:=cast_pos (hσ (D.basic i));have ho:=cast_pos (hσ (D.off j))
 have hp0:p≠0:=by
  rintro rfl;have e1:D.cell i j* (σ (D.basic i):Rat)* (d:Rat)=0:=by rw[ep];simp
  rcases Rat.mul_eq_zero.1 e1 with e1 | e1
  ·rcases Rat.mul_eq_zero.1 e1 with e1 | e1
   ·exact hk e1
   ·exact hs e1
  ·exact hd e1
 have hpr:(p:Rat)≠0:=fun e=>hp0 (by exact_mod_cast e)
 -- what stands in the pivot row
 have hrow:∀ (a:Rat) (z y:Rat),a* (σ (D.basic i):Rat)* (d:Rat)=z*y -> a / D.cell i j* (σ (D.off j):Rat)* (p:Rat)=z*y:=by
  intro a z y e;have hq:a / D.cell i j*D.cell i j=a:=Rat.div_mul_cancel hk
  have e2:a / D.cell i j* (σ (D.off j):Rat)* (p:Rat)=a / D.cell i j*D.cell i j* (σ (D.basic i):Rat)* (d:Rat):=by
   have:(σ (D.off j):Rat)* (p:Rat)=D.cell i j* (σ (D.basic i):Rat)* (d:Rat):=by rw[ep];grind
   grind
  rw[e2,hq,e]
 have hone:1 / D.cell i j* (σ (D.off j):Rat)* (p:Rat)=(d:Rat)* (σ (D.basic i):Rat):=hrow 1 d (σ (D.basic i):Rat) (by grind);refine⟨d*p,⟨Int.mul_ne_zero h.d0 hp0,dbl_mul h.dl hp,fun r hr=> ?_,fun r c hr hc=> ?_,fun c hc=> ?_,?_⟩⟩
 ·obtain⟨z,hz,ez⟩:=h.con i hi;have hq:=hrow (D.con i) z 1 (by rw[ez];grind);simp only[Dict.pivot];by_cases e:r=i
  ·subst e;rw[if_pos rfl,upd_same];refine⟨z*d,dbl_mul hz h.dl,?_⟩
   push_cast
   grind
  ·rw[if_neg e,upd_other _ _ e];obtain⟨y,hy,ey⟩:=h.con r hr;obtain⟨x,hx,ex⟩:=h.cell r j hr hj;refine⟨y*p-x*z,dbl_sub hy hp hx hz,?_⟩
   push_cast
   grind
 ·simp only[Dict.pivot];by_cases e:r=i
  ·subst e;rw[if_pos rfl,upd_same];by_cases e2:c=j
   ·subst e2;rw[upd_same,upd_same];refine⟨d*d,dbl_mul h.dl h.dl,?_⟩
    push_cast
    grind
   ·rw[upd_other _ _ e2,upd_other _ _ e2];obtain⟨z,hz,ez⟩:=h.cell r c hr hc;have hq:=hrow (D.cell r c) z (σ (D.off c):Rat) ez;refine⟨z*d,dbl_mul hz h.dl,?_⟩
    push_cast
    grind
  ·rw[if_neg e,upd_other _ _ e];obtain⟨x,hx,ex⟩:=h.cell r j hr hj;by_cases e2:c=j
   ·subst e2;rw[upd_same,upd_same,upd_same];refine⟨-(x*d),by rw[Int.natAbs_neg];exact dbl_mul hx h.dl,?_⟩
    push_cast
    grind
   ·rw[upd_other _ _ e2,upd_other _ _ e2,upd_other _ _ e2];obtain⟨z,hz,ez⟩:=h.cell i c hi hc;have hq:=hrow (D.cell i c) z (σ (D.off c):Rat) ez;obtain⟨y,hy,ey⟩:=h.cell r c hr hc;refine⟨y*p-x*z,dbl_sub hy hp hx hz,?_⟩
    push_cast
    grind
 ·simp only[Dict.pivot];obtain⟨x,hx,ex⟩:=h.top j hj;by_cases e2:c=j
  ·subst e2;rw[upd_same,upd_same,upd_same];refine⟨-(x*d),by rw[Int.natAbs_neg];exact dbl_mul hx h.dl,?_⟩
   push_cast
   grind
  ·rw[upd_other _ _ e2,upd_other _ _ e2,upd_other _ _ e2];obtain⟨z,hz,ez⟩:=h.cell i c hi hc;have hq:=hrow (D.cell i c) z (σ (D.off c):Rat) ez;obtain⟨y,hy,ey⟩:=h.top c hc;refine⟨y*p-x*z,dbl_sub hy hp hx hz,?_⟩
   push_cast
   grind
 ·simp only[Dict.pivot];obtain⟨x,hx,ex⟩:=h.top j hj;obtain⟨z,hz,ez⟩:=h.con i hi;have hq:=hrow (D.con i) z 1 (by rw[ez];grind);obtain⟨y,hy,ey⟩:=h.val;refine⟨y*p-x*z,dbl_sub hy hp hx hz,?_⟩
  push_cast
  grind
theorem rl_quot{b s:Nat}{q:Rat}{z e:Int}{x:Nat}(hz:z.natAbs<10^b)(he:e.natAbs<10^ (b+s))(he0:e≠0)(hx:x <= 10^s)(h:q* (e:Rat)=z* (x:Rat)):RL (b+s) q:=by
 have:q=Rat.divInt (z* (x:Int)) e:=by
  rw[Rat.divInt_eq_div];have he1:(e:Rat)≠0:=fun h=>he0 (by exact_mod_cast h)
  push_cast
  rw[<- h,Rat.mul_div_cancel he1]
 rw[this];refine rl_divInt he0 ?_ he;rw[Int.natAbs_mul,Int.natAbs_natCast,Nat.pow_add];exact Nat.lt_of_le_of_lt (Nat.mul_le_mul_left _ hx) (Nat.mul_lt_mul_of_pos_right hz (Nat.pow_pos (by decide)))
theorem Dict.Scal.lim{m n b s:Nat}{D:Dict}{σ:Nat -> Nat}{τ:Nat}{d:Int}(h:D.Scal m n σ τ d b)(hσ:∀v,0<σ v /\ σ v <= 10^s)(hτ:0<τ /\ τ <= 10^s):D.Lim m n (b+s):=by
 have hden:∀x:Nat,x <= 10^s -> ((x:Int)*d).natAbs<10^ (b+s):=fun x hx=>by
  rw[Int.natAbs_mul,Int.natAbs_natCast,Nat.pow_add,Nat.mul_comm];exact Nat.lt_of_le_of_lt (Nat.mul_le_mul_left _ hx) (Nat.mul_lt_mul_of_pos_right h.dl (Nat.pow_pos (by decide)))
 have hne:∀x:Nat,0<x -> (x:Int)*d≠0:=fun x hx=>Int.mul_ne_zero (by omega) h.d0
 have one:(1:Nat) <= 10^s:=Nat.pow_pos (by decide);refine⟨fun r hr=> ?_,fun r c hr hc=> ?_,fun c hc=> ?_,?_⟩
 ·obtain⟨z,hz,ez⟩:=h.con r hr;exact rl_quot (x:=1) hz (hden _ (hσ (D.basic r)).2) (hne _ (hσ (D.basic r)).1) one (by push_cast;rw[<- ez];grind)
 ·obtain⟨z,hz,ez⟩:=h.cell r c hr hc;exact rl_quot hz (hden _ (hσ (D.basic r)).2) (hne _ (hσ (D.basic r)).1) (hσ (D.off c)).2 (by push_cast;rw[<- ez];grind)
 ·obtain⟨z,hz,ez⟩:=h.top c hc;exact rl_quot hz (hden _ hτ.2) (hne _ hτ.1) (hσ (D.off c)).2 (by push_cast;rw[<- ez];grind)
 ·obtain⟨z,hz,ez⟩:=h.val;exact rl_quot (x:=1) hz (hden _ hτ.2) (hne _ hτ.1) one (by push_cast;rw[<- ez];grind)
theorem Dict.Lim.scal{m n k:Nat}{D:Dict}(hD:D.Ok m n)(h:D.Lim m n k):
  ∃ (σ:Nat -> Nat) (τ:Nat),(∀v,0<σ v /\ σ v <= 10^ (k* (n+1))) /\ (0<τ /\ τ <= 10^ (k* (n+1))) /\ D.Scal m n σ τ 1 (k* (n+2)):=by
 have hk:=h.pos;have hs:k* (n+2)=k+k* (n+1):=by rw[show n+2=n+1+1 by omega,Nat.mul_succ];omega
 have both:∀ (f:Nat -> Rat) (q:Rat),(∀c,c<n -> RL k (f c)) -> RL k q -> (0<prodTo n (fun c=>(f c).den)*q.den /\ prodTo n (fun c=>(f c).den)*q.den <= 10^ (k* (n+1))):=by
  intro f q hf hq;have h1:=prodTo_le (n:=n) (M:=10^k) (f:=fun c=>(f c).den) (fun c hc=>⟨(f c).den_pos,Nat.le_of_lt (hf c hc).2⟩);refine⟨Nat.mul_pos h1.1 q.den_pos,?_⟩;rw[Nat.mul_succ,Nat.pow_add,Nat.pow_mul];exact Nat.mul_le_mul h1.2 (Nat.le_of_lt hq.2)
 obtain⟨R,hR⟩:∃R:Nat -> Nat,R=fun r=>prodTo n (fun c=>(D.cell r c).den)* (D.con r).den:=⟨_,rfl⟩
 have hRb:∀r,r<m -> 0<R r /\ R r <= 10^ (k* (n+1)):=fun r hr=>by rw[hR];exact both _ _ (fun c hc=>h.cell r c hr hc) (h.con r hr)
 have hT:=both D.top D.val h.top h.val
 obtain⟨σ,hσ⟩:∃σ:Nat -> Nat,(∀v,0<σ v /\ σ v <= 10^ (k* (n+1))) /\ (∀r,r<m -> σ (D.basic r)=R r) /\ ∀c,c<n -> σ (D.off c)=1:=by
  classical
  refine⟨fun v=>if hv:∃r,r<m /\ D.basic r=v then R (Classical.choose hv) else 1,fun v=> ?_,fun r hr=> ?_,fun c hc=> ?_⟩
  ·by_cases hv:∃r,r<m /\ D.basic r=v
   ·simp only[dif_pos hv];exact hRb _ (Classical.choose_spec hv).1
   ·simp only[dif_neg hv];exact⟨Nat.one_pos,Nat.pow_pos (by decide)⟩
  ·have hv:∃s,s<m /\ D.basic s=D.basic r:=⟨r,hr,rfl⟩
   have hc:=Classical.choose_spec hv;simp only[dif_pos hv];rw[hD.bi _ _ hc.1 hr hc.2]
  ·have hv:¬ ∃s,s<m /\ D.basic s=D.off c:=fun⟨s,hs,e⟩=>hD.ne s c hs hc e
   simp only[dif_neg hv]
 refine⟨σ,prodTo n (fun c=>(D.top c).den)*D.val.den,hσ.1,hT,⟨by decide,?_,fun r hr=> ?_,fun r c hr hc=> ?_,fun c hc=> ?_,?_⟩⟩
 ·exact Nat.one_lt_pow (by have:=Nat.mul_pos hk (show 0<n+2 by omega);omega) (by decide)
 ·obtain⟨z,hz,e⟩:=(h.con r hr).clear (R:=R r) (by rw[hR];exact Nat.dvd_mul_left _ _) (hRb r hr).1 (hRb r hr).2;refine⟨z,by rw[hs];exact hz,?_⟩;rw[hσ.2.1 r hr, <- e];push_cast;grind
 ·obtain⟨z,hz,e⟩:=(h.cell r c hr hc).clear (R:=R r) (by rw[hR];exact Nat.dvd_trans (prodTo_dvd (f:=fun c=>(D.cell r c).den) hc) (Nat.dvd_mul_right _ _)) (hRb r hr).1 (hRb r hr).2;refine⟨z,by rw[hs];exact hz,?_⟩;rw[hσ.2.1 r hr,hσ.2.2 c hc, <- e];push_cast;grind
 ·obtain⟨z,hz,e⟩:=(h.top c hc).clear (Nat.dvd_trans (prodTo_dvd (f:=fun c=>(D.top c).den) hc) (Nat.dvd_mul_right _ _)) hT.1 hT.2;refine⟨z,by rw[hs];exact hz,?_⟩;rw[hσ.2.2 c hc, <- e];push_cast;grind
 ·obtain⟨z,hz,e⟩:=h.val.clear (Nat.dvd_mul_left _ _) hT.1 hT.2;refine⟨z,by rw[hs];exact hz,?_⟩;rw[<- e];push_cast;grind
def wb:Nat -> Nat -> Nat
 | 0,b=>b
 | d+1,b=>wb d (2*b+1)
theorem wb_mono{d b c:Nat}(h:b <= c):wb d b <= wb d c:=by
 induction d generalizing b c with
 | zero=>exact h
 | succ d ih=>exact ih (by omega)
theorem wb_le{d e b:Nat}(h:d <= e):wb d b <= wb e b:=by
 induction e with
 | zero=>rw[show d=0 by omega];exact Nat.le_refl _
 | succ e ih=>
  by_cases h':d=e+1
  ·rw[h'];exact Nat.le_refl _
  ·exact Nat.le_trans (ih (by omega)) (wb_mono (by omega))
def wide(m n k:Nat):Nat:=wb (min m n) (k* (n+2))+k* (n+1)
theorem wide_le{m n k p N K:Nat}(hp:min m n <= p)(hn:n <= N)(hk:k <= K):wide m n k <= wb p (K* (N+2))+K* (N+1):=by
 unfold wide;have h1:=Nat.le_trans (wb_mono (d:=min m n) (Nat.mul_le_mul hk (show n+2 <= N+2 by omega))) (wb_le (b:=K* (N+2)) hp);have h2:=Nat.mul_le_mul hk (show n+1 <= N+1 by omega);omega
theorem same_lim{m n k:Nat}{D E:Dict}(hD:D.Ok m n)(hE:E.Ok m n)(hs:∀x g f,D.Sol m n x g f↔E.Sol m n x g f)(hl:D.Lim m n k)(hsame:∀c,c<n -> ∃d,d<n /\ D.off d=E.off c):E.Lim m n k:=by
 have hrow:∀r,r<m -> ∃s,s<m /\ D.basic s=E.basic r:=by
  intro r hr
  rcases hD.all _ (hE.bl r hr) with h | ⟨d,hd,e⟩
  ·exact h
  ·exfalso
   -- all of D's columns stand outside at E: n of n
   have inj:∀ (n':Nat) (f:Nat -> Nat),(∀c,c<n' -> f c<n') -> (∀c c',c<n' -> c'<n' -> f c=f c' -> c=c') -> ∀d,d<n' -> ∃c,c<n' /\ f c=d:=by
    intro n'
    induction n' with
    | zero=>intro f _ _ d hd;omega
    | succ n' ih=>
     intro f hf hinj d hd;by_cases hdl:f n'=d
     ·exact⟨n',by omega,hdl⟩
     -- strike the place of f n'
     have h1:=ih (fun c=>if f c=n' then f n' else f c) (fun c hc=>by
      have:=hf c (by omega);have:=hf n' (by omega);have:f c≠f n':=fun e=>by have:=hinj c n' (by omega) (by omega) e;omega
      split <;> omega) (fun c c' hc hc' e=>by
      have a1:f c≠f n':=fun e=>by have:=hinj c n' (by omega) (by omega) e;omega
      have a2:f c'≠f n':=fun e=>by have:=hinj c' n' (by omega) (by omega) e;omega
      split at e <;> split at e
      ·exact hinj c c' (by omega) (by omega) (by omega)
      ·exact absurd e.symm a2
      ·exact absurd e a1
      ·exact hinj c c' (by omega) (by omega) e)
     by_cases hd2:d=n'
     ·-- f n' is not d = n', so it is below: some c has its place
      have hlt:f n'<n':=by have:=hf n' (by omega);omega
      obtain⟨c,hc,e⟩:=h1 (f n') hlt;split at e
      ·exact⟨c,by omega,by omega⟩
      ·have:=hinj c n' (by omega) (by omega) e;omega
     ·obtain⟨c,hc,e⟩:=h1 d (by omega);split at e
      ·exact absurd e hdl
      ·exact⟨c,by omega,e⟩
   have hch:∃f:Nat -> Nat,∀c,c<n -> f c<n /\ D.off (f c)=E.off c:=by
    refine⟨fun c=>if h:c<n then Classical.choose (hsame c h) else 0,fun c hc=> ?_⟩;simp only[dif_pos hc];exact Classical.choose_spec (hsame c hc)
   obtain⟨f,hf⟩:=hch;obtain⟨c,hc,ec⟩:=inj n f (fun c hc=>(hf c hc).1) (fun c c' hc hc' e=>hE.oi c c' hc hc' (by rw[<- (hf c hc).2, <- (hf c' hc').2,e])) d hd;exact hE.ne r c hr hc (by rw[<- (hf c hc).2,ec,e])
 have z:∀a:Nat -> Rat,sumTo n (fun c=>a c*0)=0:=fun a=>sumTo_zero fun c _=>by grind
 -- the basic point
 obtain⟨x,hx,ho,hb⟩:=E.exists_sol hE (fun _=>0) 1;have hxD:=(hs _ _ _).2 hx
 have hxz:∀c,c<n -> x (D.off c)=0:=by
  intro c hc
  rcases hE.all _ (hD.ol c hc) with ⟨r,hr,e⟩ | ⟨d,hd,e⟩
  ·obtain⟨s,hs',e'⟩:=hrow r hr;exact absurd (e'.trans e) (hD.ne s c hs' hc)
  ·rw[<- e,ho d hd]
 -- the direction of a column
 have hcol:∀c,c<n -> ∀d,d<n -> D.off d=E.off c -> (∀r s,r<m -> s<m -> D.basic s=E.basic r -> E.cell r c=D.cell s d) /\ E.top c=D.top d:=by
  intro c hc d hd e;obtain⟨y,hy,ho',hb'⟩:=E.exists_sol hE (fun k=>if k=c then 1 else 0) 0
  have one:∀a:Nat -> Rat,sumTo n (fun k=>a k* (if k=c then 1 else 0))=a c:=fun a=>by
   rw[sumTo_one hc (fun k _ hk=>by rw[if_neg hk];grind),if_pos rfl];grind
  have hyD:=(hs _ _ _).2 hy
  have hyz:∀k,k<n -> y (D.off k)=if k=d then 1 else 0:=by
   intro k hk
   rcases hE.all _ (hD.ol k hk) with ⟨r,hr,e'⟩ | ⟨c',hc',e'⟩
   ·obtain⟨s,hs',e2⟩:=hrow r hr;exact absurd (e2.trans e') (hD.ne s k hs' hk)
   ·rw[<- e',ho' c' hc'];by_cases h1:c'=c
    ·subst h1;have:k=d:=hD.oi k d hk hd (by rw[e,e']);rw[if_pos rfl,if_pos this]
    ·have:k≠d:=by rintro rfl;exact h1 (hE.oi c' c hc' hc (by rw[e',e]))
     rw[if_neg h1,if_neg this]
  have one':∀a:Nat -> Rat,sumTo n (fun k=>a k*y (D.off k))=a d:=fun a=>by
   rw[sumTo_congr (g:=fun k=>a k* (if k=d then 1 else 0)) fun k hk=>by rw[hyz k hk],sumTo_one hd (fun k _ hk=>by rw[if_neg hk];grind),if_pos rfl];grind
  refine⟨fun r s hr hs' e2=> ?_,?_⟩
  ·have h1:=hyD.1 s hs';unfold Dict.Row at h1;rw[one',e2,hb' r hr,one] at h1;grind
  ·have h1:=hyD.2;unfold Dict.Top at h1;rw[one',one] at h1;grind
 refine⟨fun r hr=> ?_,fun r c hr hc=> ?_,fun c hc=> ?_,?_⟩
 ·obtain⟨s,hs',e⟩:=hrow r hr;have h1:=hxD.1 s hs';unfold Dict.Row at h1;rw[sumTo_zero (fun c hc=>by rw[hxz c hc];grind),e,hb r hr,z] at h1;have:E.con r=D.con s:=by grind
  rw[this];exact hl.con s hs'
 ·obtain⟨d,hd,e⟩:=hsame c hc;obtain⟨s,hs',e'⟩:=hrow r hr;rw[(hcol c hc d hd e).1 r s hr hs' e'];exact hl.cell s d hs' hd
 ·obtain⟨d,hd,e⟩:=hsame c hc;rw[(hcol c hc d hd e).2];exact hl.top d hd
 ·have h1:=hxD.2;unfold Dict.Top at h1;rw[z,sumTo_zero (fun c hc=>by rw[hxz c hc];grind)] at h1;have:E.val=D.val:=by grind
  rw[this];exact hl.val
def Dict.isOff(n:Nat)(D:Dict)(v:Nat):Bool:=decide (∃c,c<n /\ D.off c=v)
theorem Dict.isOff_iff{n:Nat}{D:Dict}{v:Nat}:D.isOff n v=true↔∃c,c<n /\ D.off c=v:=by unfold Dict.isOff;rw[decide_eq_true_iff]
theorem near{m n s:Nat}{σ:Nat -> Nat}{τ:Nat}(hσ:∀v,0<σ v /\ σ v <= 10^s)(hτ:0<τ /\ τ <= 10^s)(d:Nat):∀ {D E:Dict} {z:Int} {b:Nat},D.Ok m n -> E.Ok m n -> (∀x g f,D.Sol m n x g f↔E.Sol m n x g f) -> D.Scal m n σ τ z b -> count n (fun c=> !(D.isOff n (E.off c)))=d -> E.Lim m n (wb d b+s):=by
 induction d with
 | zero=>
  intro D E z b hD hE hs hl hc;refine same_lim hD hE hs (hl.lim hσ hτ) fun c hcn=> ?_
  have h1:=count_zero hc c hcn;exact Dict.isOff_iff.1 (by simpa using h1)
 | succ d ih=>
  intro D E z b hD hE hs hl hc
  -- a variable l that stands outside at E and is basic at D
  obtain⟨c0,hc0,h0⟩:=count_pos (n:=n) (p:=fun c=> !(D.isOff n (E.off c))) (by omega);have h0':¬ ∃c,c<n /\ D.off c=E.off c0:=fun h=>by rw[Dict.isOff_iff.2 h] at h0;exact absurd h0 (by decide)
  obtain⟨i,hi,ei⟩:∃i,i<m /\ D.basic i=E.off c0:=by
   rcases hD.all _ (hE.ol c0 hc0) with h | h
   ·exact h
   ·exact absurd h h0'
  -- a column of D that is basic at E, with a cell in row i
  obtain⟨j,hj,hnj,hk⟩:∃j,j<n /\ (∀c,c<n -> E.off c≠D.off j) /\ D.cell i j≠0:=by
   apply Classical.byContradiction;intro hno;have hno':∀j,j<n -> (∀c,c<n -> E.off c≠D.off j) -> D.cell i j=0:=fun j hj h=>Classical.byContradiction fun h'=>hno ⟨j,hj,h,h'⟩
   -- the direction of E's column c0 contradicts row i
   obtain⟨y,hy,ho,hb⟩:=E.exists_sol hE (fun k=>if k=c0 then 1 else 0) 0;have hyD:=((hs _ _ _).2 hy).1 i hi;unfold Dict.Row at hyD
   rw[ei,ho c0 hc0,if_pos rfl,sumTo_zero (fun c hcn=>by
    by_cases h:∃c',c'<n /\ E.off c'=D.off c
    ·obtain⟨c',hc',e⟩:=h;rw[<- e,ho c' hc',if_neg]
     ·grind
     ·rintro rfl;exact h0' ⟨c,hcn,e.symm⟩
    ·rw[hno' c hcn (fun c' hc' e=>h ⟨c',hc',e⟩)];grind)] at hyD
   grind
  have hok:=hD.pivot hi hj;have hs':∀x g f,(D.pivot i j).Sol m n x g f↔E.Sol m n x g f:=fun x g f=>(Dict.sol_pivot hi hj hk).trans (hs x g f)
  obtain⟨z',hl'⟩:=hl.pivot (fun v=>(hσ v).1) hi hj hk;refine ih hok hE hs' hl' ?_;have hup:=count_upd (n:=n) (i:=c0) (p:=fun c=> !(D.isOff n (E.off c))) (q:=fun c=> !((D.pivot i j).isOff n (E.off c))) hc0 ?_ h0 ?_
  ·omega
  ·intro c hcn hne;congr 1;rw[Bool.eq_iff_iff,Dict.isOff_iff,Dict.isOff_iff];simp only[Dict.pivot];constructor
   ·rintro⟨c',hc',e⟩;refine⟨c',hc',?_⟩;rw[upd_other]
    ·exact e
    ·rintro rfl;exact hnj c hcn e.symm
   ·rintro⟨c',hc',e⟩;by_cases e':c'=j
    ·subst e';rw[upd_same,ei] at e;exact absurd (hE.oi c0 c hc0 hcn e).symm hne
    ·rw[upd_other _ _ e'] at e;exact⟨c',hc',e⟩
  ·skip
   rw[Bool.not_eq_false',Dict.isOff_iff];exact⟨j,hj,by simp only[Dict.pivot];rw[upd_same,ei]⟩
theorem count_inj{m:Nat}{p:Nat -> Bool}{f:Nat -> Nat}:∀ {n:Nat},(∀c,c<n -> p c=true -> f c<m) -> (∀c d,c<n -> d<n -> p c=true -> p d=true -> f c=f d -> c=d) ->
  count n p <= count m (fun r=>decide (∃c,c<n /\ p c=true /\ f c=r)):=by
 intro n
 induction n with
 | zero=>intro _ _;exact Nat.zero_le _
 | succ n ih=>
  intro h1 h2;have hi:=ih (fun c hc=>h1 c (by omega)) (fun c d hc hd=>h2 c d (by omega) (by omega));simp only[count];cases hp:p n
  ·rw[count_congr (n:=m) (p:=fun r=>decide (∃c,c<n+1 /\ p c=true /\ f c=r)) (q:=fun r=>decide (∃c,c<n /\ p c=true /\ f c=r))]
   ·simpa using hi
   ·intro r _;rw[decide_eq_decide];constructor
    ·rintro⟨c,hc,hpc,e⟩;have:c≠n:=by rintro rfl;rw[hp] at hpc;cases hpc
     exact⟨c,by omega,hpc,e⟩
    ·rintro⟨c,hc,hpc,e⟩;exact⟨c,by omega,hpc,e⟩
  ·rw[count_upd (n:=m) (i:=f n) (p:=fun r=>decide (∃c,c<n+1 /\ p c=true /\ f c=r)) (q:=fun r=>decide (∃c,c<n /\ p c=true /\ f c=r)) (h1 n (by omega) hp)]
   ·simpa using hi
   ·intro r _ hne;rw[decide_eq_decide];constructor
    ·rintro⟨c,hc,hpc,e⟩;have:c≠n:=by rintro rfl;exact hne e.symm
     exact⟨c,by omega,hpc,e⟩
    ·rintro⟨c,hc,hpc,e⟩;exact⟨c,by omega,hpc,e⟩
   ·rw[decide_eq_true_iff];exact⟨n,by omega,hp,rfl⟩
   ·rw[decide_eq_false_iff_not];rintro⟨c,hc,hpc,e⟩;have:=h2 c n (by omega) (by omega) hpc hp e;omega
theorem near_lim{m n:Nat}{D E:Dict}{k:Nat}(hD:D.Ok m n)(hE:E.Ok m n)(hs:∀x g f,D.Sol m n x g f↔E.Sol m n x g f)(hl:D.Lim m n k):E.Lim m n (wide m n k):=by
 obtain⟨σ,τ,hσ,hτ,hS⟩:=hl.scal hD;have h:=near hσ hτ _ hD hE hs hS rfl
 have h1:count n (fun c=> !(D.isOff n (E.off c))) <= m:=by
  have hch:∃f:Nat -> Nat,∀c,c<n -> (!(D.isOff n (E.off c)))=true -> f c<m /\ D.basic (f c)=E.off c:=by
   have key:∀c,c<n -> (!(D.isOff n (E.off c)))=true -> ∃r,r<m /\ D.basic r=E.off c:=by
    intro c hc hn
    rcases hD.all _ (hE.ol c hc) with h | h
    ·exact h
    ·rw[Dict.isOff_iff.2 h] at hn;cases hn
   refine⟨fun c=>if hc:c<n /\ (!(D.isOff n (E.off c)))=true then Classical.choose (key c hc.1 hc.2) else 0,fun c hc hn=> ?_⟩;simp only[dif_pos (And.intro hc hn)];exact Classical.choose_spec (key c hc hn)
  obtain⟨f,hf⟩:=hch;refine Nat.le_trans (count_inj (m:=m) (f:=f) (fun c hc hp=>(hf c hc hp).1) (fun c d hc hd hp hp' e=> ?_)) (count_le _ _);exact hE.oi c d hc hd (by rw[<- (hf c hc hp).2, <- (hf d hd hp').2,e])
 have hg:=Nat.add_le_add_right (wb_le (b:=k* (n+2)) (Nat.le_min.2 ⟨h1,count_le n (fun c=> !(D.isOff n (E.off c)))⟩)) (k* (n+1));exact⟨fun r hr=>(h.con r hr).mono hg,fun r c hr hc=>(h.cell r c hr hc).mono hg,fun c hc=>(h.top c hc).mono hg,h.val.mono hg⟩
end Go.Proofs.YtdefghfjhgmpfaaGreatDoor.Lp
