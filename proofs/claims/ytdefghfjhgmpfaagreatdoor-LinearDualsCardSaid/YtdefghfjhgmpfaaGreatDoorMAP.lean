/- Parts of this proof: Tab Make App Strs. -/
import Derived.Test.YtdefghfjhgmpfaaGreatDoorMAO
import Derived.ArgAppend
import Derived.Test.YtdefghfjhgmpfaaGreatDoorMAE
namespace Go.Proofs.YtdefghfjhgmpfaaGreatDoor
open Tryz
section
open Go.RowKit
open Lp (RL upd eu)
def IB(w:World)(g n:Nat)(f:Nat -> Nat):Prop:=∃cs:List Value,Row w g 3 cs /\ n <= cs.length /\ ∀j,j<n -> cs[j]? =some (.int .i64 (f j:Nat))
def SB(w:World)(g m n:Nat)(gr cr:Nat -> Nat):Prop:=∃cs:List Value,Row w g 95 cs /\ m <= cs.length /\ ∀j,j<m -> ∃A,cs[j]? =some (.slice A n (cr j)) /\ (0<n -> A=some ⟨gr j,0,none⟩)
section
variable {S:Nat -> Prop} {w w':World} {g n m:Nat} {f:Nat -> Nat} {gr cr:Nat -> Nat}
theorem IB.lt(h:IB w g n f):g<w.heap.size:=by obtain⟨cs,r,_⟩:=h;exact r.lt
theorem IB.below(h:IB w g n f)(t:Below w.heap.size w w'):IB w' g n f:=by obtain⟨cs,r,h⟩:=h;exact⟨cs,r.below t r.lt,h⟩
theorem IB.chg(h:IB w g n f)(r:Chg S w w')(C:¬S g):IB w' g n f:=by obtain⟨cs,t,h⟩:=h;exact⟨cs,t.chg r C,h⟩
theorem IB.other{g':Nat}(h:IB w g n f)(r:w.grownBy w' (some g'))(t:g≠g'):IB w' g n f:=by obtain⟨cs,C,h⟩:=h;exact⟨cs,C.other r t,h⟩
theorem IB.at_(h:IB w g n f){j:Nat}(r:j<n): w.cell? ⟨g,j,none⟩=some (.int .i64 (f j:Nat)):=by obtain⟨cs,t,_,h⟩:=h;exact t.at_ _ (h j r)
theorem IB.free(h:IB w g n f)(j:Nat): w.frozen? ⟨g,j,none⟩=false:=by obtain⟨cs,r,_⟩:=h;exact r.free j
theorem IB.congr{f':Nat -> Nat}(h:IB w g n f)(t:∀j,j<n -> f j=f' j):IB w g n f':=by
 obtain⟨cs,E,C,h⟩:=h;exact⟨cs,E,C,fun j r=>by rw[<- t j r];exact h j r⟩
theorem IB.set(h:IB w g n f){j x:Nat}(E:j<n):IB (w.setCell ⟨g,j,none⟩ (.int .i64 (x:Nat))) g n (upd f j x):=by
 obtain⟨cs,C,t,h⟩:=h;refine⟨_,C.set j _,by simpa using t,fun k r=> ?_⟩;by_cases e:k=j
 ·subst e;rw[Lp.upd_same];simp[List.getElem?_set];omega
 ·rw[List.getElem?_set_ne oM,Lp.eT _ _ e];exact h k r
theorem IB.row(h:IB w g n f):∃cs,Row w g 3 cs:=by obtain⟨cs,r,_⟩:=h;exact⟨cs,r⟩
theorem SB.lt(h:SB w g m n gr cr):g<w.heap.size:=by obtain⟨cs,r,_⟩:=h;exact r.lt
theorem SB.below(h:SB w g m n gr cr)(t:Below w.heap.size w w'):SB w' g m n gr cr:=by obtain⟨cs,r,h⟩:=h;exact⟨cs,r.below t r.lt,h⟩
theorem SB.chg(h:SB w g m n gr cr)(r:Chg S w w')(C:¬S g):SB w' g m n gr cr:=by obtain⟨cs,t,h⟩:=h;exact⟨cs,t.chg r C,h⟩
theorem SB.at_(h:SB w g m n gr cr)(C:0<n){j:Nat}(t:j<m): w.cell? ⟨g,j,none⟩=some (.slice (some ⟨gr j,0,none⟩) n (cr j)):=by
 obtain⟨cs,E,_,h⟩:=h;obtain⟨A,h1,r⟩:=h j t;rw[r C] at h1;exact E.at_ _ h1
theorem SB.row(h:SB w g m n gr cr):∃cs,Row w g 95 cs:=by obtain⟨cs,r,_⟩:=h;exact⟨cs,r⟩
theorem Row.ty{e e':TypeId}{cs t:List Value}(h:Row w g e cs)(r:Row w g e' t):e=e':=by
 unfold Row at h r;rw[h] at r
 injection r with r
 injection r with _ r _
end
structure Lay where
 gt:Nat
 gb:Nat
 go:Nat
 gk:Nat
 gc:Nat
 gp:Nat
 gr:Nat -> Nat
 cr:Nat -> Nat
 cb:Nat
 co:Nat
 ck:Nat
 cc:Nat
 cp:Nat
 Ab:Option Addr
 Ao:Option Addr
 Ak:Option Addr
 Ac:Option Addr
 Ap:Option Addr
def Lay.blocks(L:Lay)(m:Nat)(k:Nat):Prop:=k=L.gt \/ k=L.gb \/ k=L.go \/ k=L.gk \/ k=L.gc \/ k=L.gp \/ ∃r,r<m /\ k=L.gr r
def Lay.cells(L:Lay)(m n:Nat)(x y z u:Value):List Value:=
 [.int .i64 (n:Nat), .slice L.Ab m L.cb, .slice L.Ao n L.co, .slice L.Ak m L.ck, .slice L.Ac m L.cc, .slice L.Ap n L.cp,x,y,z,u]
structure fq (w:World) (L:Lay) (m n:Nat) (D:eu):Prop where
 st:∃s A l c t B d e,Row w L.gt 148 (L.cells m n (.bool s) (.slice A l c) (.bool t) (.slice B d e)) /\ eO w (.agg #[.bool s, .slice A l c, .bool t, .slice B d e]) D.val
 ab:0<m -> L.Ab=some ⟨L.gb,0,none⟩ /\ L.Ak=some ⟨L.gk,0,none⟩ /\ L.Ac=some ⟨L.gc,0,none⟩
 ao:0<n -> L.Ao=some ⟨L.go,0,none⟩ /\ L.Ap=some ⟨L.gp,0,none⟩
 bas:0<m -> IB w L.gb m D.basic
 off:0<n -> IB w L.go n D.off
 con:0<m -> RB w L.gk m D.con
 top:0<n -> RB w L.gp n D.top
 out:0<m -> SB w L.gc m n L.gr L.cr
 rows:0<n -> ∀r,r<m -> RB w (L.gr r) n (D.cell r)
 bo:0<m -> 0<n -> L.gb≠L.go
 kp:0<m -> 0<n -> L.gk≠L.gp
 rk:0<n -> ∀r,r<m -> L.gr r≠L.gk /\ L.gr r≠L.gp
 rr:0<n -> ∀r s,r<m -> s<m -> L.gr r=L.gr s -> r=s
theorem fq.below{w w':World}{L:Lay}{m n:Nat}{D:eu}(h:fq w L m n D)(E:Below w.heap.size w w'):fq w' L m n D:=by
 obtain⟨⟨s,A,l,c,t,B,d,e,F,hv⟩,T,U,V,W,X,Y,Z,h9,G,M,O,R⟩:=h;exact⟨⟨s,A,l,c,t,B,d,e,F.below E F.lt,hv.below E⟩,T,U,fun C=>(V C).below E,fun C=>(W C).below E,fun C=>(X C).below E,fun C=>(Y C).below E,fun C=>(Z C).below E,fun hn r F=>(h9 hn r F).below E,G,M,O,R⟩
theorem fV{w:World}{g g':Nat}{e e':TypeId}{cs r:List Value}(h:Row w g e cs)(t:Row w g' e' r)(C:e≠e'):g≠g':=by
 rintro rfl;exact C (h.ty t)
theorem RB.ne{w:World}{g g' n:Nat}{f:Nat -> Rat}{e:TypeId}{cs:List Value}(h:RB w g n f)(r:Row w g' e cs)(t:e≠105):g'≠g:=by
 obtain⟨_,C⟩:=h.row;exact fV r C t
def Lay.full(L:Lay)(m n:Nat)(x y z u:Value):List Value:=
 [.int .i64 (n:Nat), .slice (some ⟨L.gb,0,none⟩) m L.cb, .slice (some ⟨L.go,0,none⟩) n L.co, .slice (some ⟨L.gk,0,none⟩) m L.ck, .slice (some ⟨L.gc,0,none⟩) m L.cc, .slice (some ⟨L.gp,0,none⟩) n L.cp,x,y,z,u]
section
variable {S:Nat -> Prop} {w w':World} {L:Lay} {m n i j:Nat} {D:eu}
theorem fq.get(h:fq w L m n D)(M:0<m)(O:0<n):∃s A l c t B d e,Row w L.gt 148 (L.full m n (.bool s) (.slice A l c) (.bool t) (.slice B d e)) /\ eO w (.agg #[.bool s, .slice A l c, .bool t, .slice B d e]) D.val:=by
 obtain⟨s,A,l,c,t,B,d,e,r,R⟩:=h.st;obtain⟨h1,C,E⟩:=h.ab M;obtain⟨F,G⟩:=h.ao O;unfold Lay.cells at r;rw[h1,C,E,F,G] at r;exact⟨s,A,l,c,t,B,d,e,r,R⟩
theorem fq.nV(h:fq w L m n D):∃cs,Row w L.gt 148 cs:=by obtain⟨s,A,l,c,t,B,d,e,r,C⟩:=h.st;exact⟨_,r⟩
theorem fq.mW(h:fq w L m n D)(t:0<m)(G:0<n){g k:Nat}{f:Nat -> Rat}(r:RB w g k f):L.gt≠g /\ L.gb≠g /\ L.go≠g /\ L.gc≠g:=by
 obtain⟨_,h1⟩:=h.nV;obtain⟨_,C⟩:=(h.bas t).row;obtain⟨_,E⟩:=(h.off G).row;obtain⟨_,F⟩:=(h.out t).row;exact⟨r.ne h1 dC,r.ne C dC,r.ne E dC,r.ne F dC⟩
theorem fq.ky(h:fq w L m n D)(E:0<m)(M:0<n)(F:Chg S w w')(W:∀k,S k -> k=L.gk \/ k=L.gp \/ ∃r,r<m /\ k=L.gr r){T V:Nat -> Rat}{cell:Nat -> Nat -> Rat}
  (X:RB w' L.gk m T) (Z:RB w' L.gp n V) (Y:∀r,r<m -> RB w' (L.gr r) n (cell r)):fq w' L m n ⟨D.basic,D.off,T,cell,V,D.val⟩:=by
 have U:∀k,S k -> ∃j f,RB w k j f:=by
  intro k G
  rcases W k G with rfl | rfl | ⟨r,O,rfl⟩
  ·exact⟨_,_,h.con E⟩
  ·exact⟨_,_,h.top M⟩
  ·exact⟨_,_,h.rows M r O⟩
 have hN:jd S w:=fun k G=>by
  obtain⟨j,f,R⟩:=U k G;obtain⟨cs,O⟩:=R.row;exact⟨_,_,O,ic⟩
 have no:∀k,S k -> L.gt≠k /\ L.gb≠k /\ L.go≠k /\ L.gc≠k:=fun k G=>by
  obtain⟨j,f,R⟩:=U k G;exact h.mW E M R
 obtain⟨s,A,l,c,t,B,d,e,O,hv⟩:=h.st
 exact⟨⟨s,A,l,c,t,B,d,e,O.chg F (fun C=>(no _ C).1 rfl),hv.chg F hN⟩,h.ab,h.ao,fun E=>(h.bas E).chg F (fun C=>(no _ C).2.1 rfl),fun M=>(h.off M).chg F (fun C=>(no _ C).2.2.1 rfl),fun _=>X,fun _=>Z,
  fun E=>(h.out E).chg F (fun C=>(no _ C).2.2.2 rfl),fun _=>Y,h.bo,h.kp,h.rk,h.rr⟩
theorem fq.congr{C:eu}(h:fq w L m n D)(h1:∀r,r<m -> D.basic r=C.basic r)(h2:∀c,c<n -> D.off c=C.off c)(h3:∀r,r<m -> D.con r=C.con r)(h4:∀r c,r<m -> c<n -> D.cell r c=C.cell r c)(h5:∀c,c<n -> D.top c=C.top c)(h6:D.val=C.val):fq w L m n C:=by
 obtain⟨⟨s,A,l,c,t,B,d,e,F,hv⟩,U,V,W,X,Y,Z,a8,a9,M,O,R,T⟩:=h;exact⟨⟨s,A,l,c,t,B,d,e,F,by rw[<- h6];exact hv⟩,U,V,fun G=>(W G).congr h1,fun E=>(X E).congr h2,fun G=>(Y G).congr h3,fun E=>(Z E).congr h5,a8,fun E r F=>(a9 E r F).congr (fun c hc=>h4 r c F hc),M,O,R,T⟩
theorem fq.setRow(h:fq w L m n D)(F:0<m)(t:0<n)(C:i<m)(E:Chg (fun b=>b=L.gr i) w w'){f:Nat -> Rat}(O:RB w' (L.gr i) n f):fq w' L m n ⟨D.basic,D.off,D.con,upd D.cell i f,D.top,D.val⟩:=by
 have hN:jd (fun b=>b=L.gr i) w:=jd.rb (h.rows t i C);refine h.ky F t E (fun k M=> .inr (.inr ⟨i,C,M⟩)) ((h.con F).chg E hN (fun e=>(h.rk t i C).1 e.symm)) ((h.top t).chg E hN (fun e=>(h.rk t i C).2 e.symm)) (fun r G=> ?_);by_cases e:r=i
 ·subst e;rw[Lp.upd_same];exact O
 ·rw[Lp.eT _ _ e];exact(h.rows t r G).chg E hN (fun e'=>e (h.rr t r i G C e'))
theorem fq.zh(h:fq w L m n D)(E:0<m)(t:0<n)(C:Chg (fun b=>b=L.gk) w w'){f:Nat -> Rat}(M:RB w' L.gk m f):fq w' L m n ⟨D.basic,D.off,f,D.cell,D.top,D.val⟩:=by
 have hN:jd (fun b=>b=L.gk) w:=jd.rb (h.con E);exact h.ky E t C (fun k G=> .inl G) M ((h.top t).chg C hN (fun e=>h.kp E t e.symm)) (fun r F=>(h.rows t r F).chg C hN (h.rk t r F).1)
theorem fq.zi(h:fq w L m n D)(E:0<m)(t:0<n)(C:Chg (fun b=>b=L.gp) w w'){f:Nat -> Rat}(M:RB w' L.gp n f):fq w' L m n ⟨D.basic,D.off,D.con,D.cell,f,D.val⟩:=by
 have hN:jd (fun b=>b=L.gp) w:=jd.rb (h.top t);exact h.ky E t C (fun k G=> .inr (.inl G)) ((h.con E).chg C hN (h.kp E t)) M (fun r F=>(h.rows t r F).chg C hN (h.rk t r F).2)
theorem fq.FJ(h:fq w L m n D)(C:0<m)(E:0<n){x y z u:Value}{q:Rat}(G:Row w' L.gt 148 (L.full m n x y z u))(M:eO w' (.agg #[x,y,z,u]) q)(F:Chg (fun b=>b=L.gt) w w'):fq w' L m n ⟨D.basic,D.off,D.con,D.cell,D.top,q⟩:=by
 have hN:jd (fun b=>b=L.gt) w:=fun k hk=>by
  subst hk;obtain⟨cs,G⟩:=h.nV;exact⟨_,_,G,by decide⟩
 obtain⟨_,h0⟩:=h.nV;obtain⟨_,Y⟩:=(h.bas C).row;obtain⟨_,Z⟩:=(h.off E).row;obtain⟨_,h4⟩:=(h.out C).row;obtain⟨s,A,l,c,t,B,d,e,R⟩:=M.shape;simp only[Value.agg.injEq] at R;obtain⟨rfl,rfl,rfl,rfl⟩:x= .bool s /\ y= .slice A l c /\ z= .bool t /\ u= .slice B d e:=by simpa using R
 refine⟨⟨s,A,l,c,t,B,d,e,?_,M⟩,h.ab,h.ao,fun C=>(h.bas C).chg F (fV Y h0 dC),fun E=>(h.off E).chg F (fV Z h0 dC),fun C=>(h.con C).chg F hN (fun e=>(h.mW ‹0<m› E (h.con C)).1 e.symm),fun E=>(h.top E).chg F hN (fun e=>(h.mW C ‹0<n› (h.top E)).1 e.symm),
  fun C=>(h.out C).chg F (fV h4 h0 dC),fun E r G=>(h.rows E r G).chg F hN (fun e=>(h.mW C E (h.rows E r G)).1 e.symm),h.bo,h.kp,h.rk,h.rr⟩
 have O:=G;unfold Lay.cells;unfold Lay.full at O;obtain⟨T,U,V⟩:=h.ab C;obtain⟨W,X⟩:=h.ao E;rw[T,U,V,W,X];exact O
theorem Row.FK{g:Nat}{e:TypeId}{t C E F G M p q r s x y z u:Value}(h:Row w g e [t,C,E,F,G,M,p,q,r,s]):
  Row ((((w.setCell ⟨g,6,none⟩ x).setCell ⟨g,7,none⟩ y).setCell ⟨g,8,none⟩ z).setCell ⟨g,9,none⟩ u) g e [t,C,E,F,G,M,x,y,z,u]:=(((h.set 6 x).set 7 y).set 8 z).set 9 u
theorem fq.zk(h:fq w L m n D)(C:0<m)(E:0<n){b o:Nat -> Nat}(F:Chg (fun k=>k=L.gb \/ k=L.go) w w')(T:IB w' L.gb m b)(W:IB w' L.go n o):fq w' L m n ⟨b,o,D.con,D.cell,D.top,D.val⟩:=by
 obtain⟨_,h0⟩:=h.nV;obtain⟨_,M⟩:=(h.bas C).row;obtain⟨_,O⟩:=(h.off E).row;obtain⟨_,R⟩:=(h.out C).row
 have hN:jd (fun k=>k=L.gb \/ k=L.go) w:=fun k V=>by
  rcases V with rfl | rfl
  ·exact⟨_,_,M,by decide⟩
  ·exact⟨_,_,O,by decide⟩
 have no:∀ {g k:Nat} {f:Nat -> Rat},RB w g k f -> ¬(g=L.gb \/ g=L.go):=fun U e=>by
  have:=h.mW C E U
  rcases e with e | e
  ·exact this.2.1 e.symm
  ·exact this.2.2.1 e.symm
 obtain⟨s,A,l,c,t,B,d,e,G,X⟩:=h.st;refine⟨⟨s,A,l,c,t,B,d,e,G.chg F (fun e=> ?_),X.chg F hN⟩,h.ab,h.ao,fun _=>T,fun _=>W,fun C=>(h.con C).chg F hN (no (h.con C)),fun E=>(h.top E).chg F hN (no (h.top E)),fun C=>(h.out C).chg F (fun e=> ?_),fun E r G=>(h.rows E r G).chg F hN (no (h.rows E r G)),h.bo,h.kp,h.rk,h.rr⟩
 ·rcases e with e | e
  ·exact fV h0 M dC e
  ·exact fV h0 O dC e
 ·rcases e with e | e
  ·exact fV R M dC e
  ·exact fV R O dC e
def part(D:eu)(i j k:Nat):eu:=
 ⟨D.basic,D.off,fun r=>if r<k \/ r=i then(D.pivot i j).con r else D.con r,fun r c=>if r<k \/ r=i then(D.pivot i j).cell r c else D.cell r c,D.top,D.val⟩
theorem nW(D:eu)(i j r:Nat):(D.pivot i j).con r=if r=i then D.con i / D.cell i j else D.con r-D.cell r j* (D.con i / D.cell i j):=rfl
theorem qL(D:eu)(i j r c:Nat):(D.pivot i j).cell r c=if r=i then upd (D.cell i) j 1 c / D.cell i j else upd (D.cell r) j 0 c-D.cell r j* (upd (D.cell i) j 1 c / D.cell i j):=rfl
theorem FL(h:fq w L m n ⟨D.basic,D.off,upd D.con i (D.con i / D.cell i j),upd D.cell i (fun c=>upd (D.cell i) j 1 c / D.cell i j),D.top,D.val⟩):fq w L m n (part D i j 0):=by
 refine h.congr (fun _ _=>rfl) (fun _ _=>rfl) (fun r _=> ?_) (fun r c _ _=> ?_) (fun _ _=>rfl) rfl
 ·simp only[part,nW];by_cases e:r=i
  ·subst e;simp[Lp.upd_same]
  ·simp[Lp.eT _ _ e,e]
 ·simp only[part,qL];by_cases e:r=i
  ·subst e;simp[Lp.upd_same]
  ·simp[Lp.eT _ _ e,e]
theorem FM(h:fq w L m n (part D i j i)):fq w L m n (part D i j (i+1)):=by
 refine h.congr (fun _ _=>rfl) (fun _ _=>rfl) (fun r _=> ?_) (fun r c _ _=> ?_) (fun _ _=>rfl) rfl
 ·simp only[part];by_cases e:r<i \/ r=i
  ·rw[if_pos e,if_pos oM]
  ·rw[if_neg e,if_neg oM]
 ·simp only[part];by_cases e:r<i \/ r=i
  ·rw[if_pos e,if_pos oM]
  ·rw[if_neg e,if_neg oM]
theorem FN{k:Nat}(F:k≠i)(C:D.cell k j=0)(h:fq w L m n (part D i j k)):fq w L m n (part D i j (k+1)):=by
 refine h.congr (fun _ _=>rfl) (fun _ _=>rfl) (fun r _=> ?_) (fun r c _ _=> ?_) (fun _ _=>rfl) rfl
 ·simp only[part];by_cases e:r=k
  ·subst e;rw[if_neg oM,if_pos oM,nW,if_neg F,C];grind
  ·by_cases t:r<k \/ r=i
   ·rw[if_pos t,if_pos oM]
   ·rw[if_neg t,if_neg oM]
 ·simp only[part];by_cases e:r=k
  ·subst e;rw[if_neg oM,if_pos oM,qL,if_neg F,C];by_cases E:c=j
   ·subst E;rw[Lp.upd_same,C];grind
   ·rw[Lp.eT _ _ E];grind
  ·by_cases t:r<k \/ r=i
   ·rw[if_pos t,if_pos oM]
   ·rw[if_neg t,if_neg oM]
theorem FO{k:Nat}(h:k≠i):(part D i j k).con k=D.con k:=by simp only[part];rw[if_neg oM]
theorem FP(k:Nat):(part D i j k).con i=D.con i / D.cell i j:=by simp only[part];rw[if_pos (Or.inr trivial),nW,if_pos rfl]
theorem vD{k:Nat}(h:k≠i)(c:Nat):(part D i j k).cell k c=D.cell k c:=by simp only[part];rw[if_neg oM]
theorem vE(k c:Nat):(part D i j k).cell i c=upd (D.cell i) j 1 c / D.cell i j:=by simp only[part];rw[if_pos (Or.inr trivial),qL,if_pos rfl]
theorem FQ{k:Nat}(E:k≠i)(h:fq w L m n ⟨D.basic,D.off,upd (part D i j k).con k (D.con k-D.cell k j* (D.pivot i j).con i),upd (part D i j k).cell k (fun c=>upd ((part D i j k).cell k) j 0 c-D.cell k j* (part D i j k).cell i c),D.top,D.val⟩):fq w L m n (part D i j (k+1)):=by
 refine h.congr (fun _ _=>rfl) (fun _ _=>rfl) (fun r _=> ?_) (fun r c _ _=> ?_) (fun _ _=>rfl) rfl
 ·show upd (part D i j k).con k (D.con k-D.cell k j* (D.pivot i j).con i) r=_;by_cases e:r=k
  ·subst e;rw[Lp.upd_same];simp only[part];rw[if_pos oM,nW,nW,if_neg E,if_pos rfl]
  ·rw[Lp.eT _ _ e];simp only[part];by_cases t:r<k \/ r=i
   ·rw[if_pos t,if_pos oM]
   ·rw[if_neg t,if_neg oM]
 ·show upd (part D i j k).cell k (fun c=>upd ((part D i j k).cell k) j 0 c-D.cell k j* (part D i j k).cell i c) r c=_;by_cases e:r=k
  ·subst e;rw[Lp.upd_same];rw[vE];show _=(if r<r+1 \/ r=i then(D.pivot i j).cell r c else D.cell r c);rw[if_pos (Or.inl (Nat.lt_succ_self r)),qL,if_neg E];congr 1;by_cases C:c=j
   ·subst C;rw[Lp.upd_same,Lp.upd_same]
   ·rw[Lp.eT _ _ C,Lp.eT _ _ C,vD E]
  ·rw[Lp.eT _ _ e];simp only[part];by_cases t:r<k \/ r=i
   ·rw[if_pos t,if_pos oM]
   ·rw[if_neg t,if_neg oM]
theorem FR(h:fq w L m n (part D i j m)):fq w L m n ⟨D.basic,D.off,(D.pivot i j).con,(D.pivot i j).cell,D.top,D.val⟩:=by
 refine h.congr (fun _ _=>rfl) (fun _ _=>rfl) (fun r t=> ?_) (fun r c t _=> ?_) (fun _ _=>rfl) rfl
 ·simp only[part];rw[if_pos (Or.inl t)]
 ·simp only[part];rw[if_pos (Or.inl t)]
end
end
section
open Go.RowKit
open Lp (RL upd eu)
theorem qM:(prog.info? 105).map (fun i=>(i.zero,i.size,i.bytes))=some (some (.agg #[.bool false, .slice none 0 0, .bool false, .slice none 0 0]),4,64):=by kernel_rfl
theorem sN(z:Array Value)(n i:Nat)(h:i<n):(madeCells z n).toList[i]? =some (z[i%z.size]!):=by
 unfold madeCells;rw[Array.getElem?_toList,Array.getElem?_map];simp[h]
theorem RB.made{w:World}{base g n:Nat}(h:w.ownsRow base 105 4 (.slice (some ⟨g,0,none⟩) n n) n (madeCells (Value.agg #[.bool false, .slice none 0 0, .bool false, .slice none 0 0]).cells (n*4)).toList):RB w g n (fun _=>0):=by
 rcases h.2 with ⟨r,_⟩ | ⟨g',cap,t,r,_,F,_,_,C,G⟩
 ·simp at r
 ·simp only[Value.slice.injEq,Option.some.injEq,Addr.mk.injEq,and_true,true_and] at r;obtain⟨rfl,rfl⟩:=r
  have E:t.toList=(madeCells (Value.agg #[.bool false, .slice none 0 0, .bool false, .slice none 0 0]).cells (n*4)).toList:=by
   rw[<- G,List.take_of_length_le];rw[Array.length_toList,C];exact Nat.le_refl _
  refine⟨t.toList,?_,?_,fun j M=> ?_⟩
  ·unfold Row;rw[F]
  ·rw[Array.length_toList,C];exact Nat.le_refl _
  ·rw[E];refine⟨false,none,0,0,false,none,0,0,?_,?_,?_,?_,eO.jU w⟩
   ·rw[sN _ _ _ oM];simp[Value.cells,show j*4%4=0 by omega]
   ·rw[sN _ _ _ oM];simp[Value.cells,show(j*4+1)%4=1 by omega]
   ·rw[sN _ _ _ oM];simp[Value.cells,show(j*4+2)%4=2 by omega]
   ·rw[sN _ _ _ oM];simp[Value.cells,show(j*4+3)%4=3 by omega]
theorem pu(w:World){ops:Array Oper}{rest:List Oper}{o:Oper}{a:Act}{Q:Exit -> Act -> World -> Prop}
  (G:o.guard=none) (l c:Operand) (T:o.op=Op.makeSlice 95 l c) (L C:Int) (n:Nat) (R:a.eval l= .int .i64 L) (F:a.eval c= .int .i64 C) (E:L=(n:Int)) (r:C=(n:Int)) (b2:n <= 4398046511104)
  (t:∀w',RB w' w.heap.size n (fun _=>0) -> Below w.heap.size w w' -> w.heap.size<w'.heap.size -> wpList prog ops Q rest (a.put o.dst (.slice (some ⟨w.heap.size,0,none⟩) n n)) w'):
  wpList prog ops Q (o::rest) a w:=by
 obtain⟨i,O,V,W,X⟩:=info_parts qM;refine wpList_make_full w G l c _ T w.heap.size _ i _ 4 underlying95 O V W .i64 .i64 L C n R F E r (by rw[X];omega) (by unfold maxLen;omega) (Nat.le_refl _) ?_;intro w' U M;have h:=RB.made U;exact t w' h ((Below.refl _ _).grown M (Nat.le_refl _) (by simp)) h.lt
end
section
open Go.RowKit
open Lp (RL upd eu)
theorem sO{w:World}{base r:Nat}{e:TypeId}{size:Nat}{v:Value}{n:Nat}{xs:List Value}(h:w.ownsRow base e size v n xs)(F:r <= base):w.ownsRow r e size v n xs:=by
 refine⟨h.1,?_⟩
 rcases h.2 with G | ⟨g,cap,t,h1,C,E⟩
 ·exact .inl G
 ·exact .inr ⟨g,cap,t,h1,Nat.le_trans F C,E⟩
structure Turned (w w':World) (v v':Value):Prop where
 grown:w.grownBy w' v.ownBlock
 own:v'.ownBlock=v.ownBlock \/ ∃g,v'.ownBlock=some g /\ w.heap.size <= g
theorem FT{w w':World}(h:w.grownBy w' none)(r:Option Nat):w.grownBy w' r:=⟨h.os,h.tape,h.output,h.size,fun k t _=>h.block k t (by simp)⟩
theorem add0(g j:Nat):(⟨g,0,none⟩:Addr).add j=⟨g,j,none⟩:=by
 unfold Addr.add;by_cases h:j=0
 ·subst h;simp
 ·simp[h]
theorem FU{P:Program}(w:World)(t ty:TypeId)(e:TypeId)(i:TypeInfo)(z:Value)(size M:Nat)(W:P.underlying t=some (.slice e))(R: P.info? e=some i)(hz:i.zero=some z)
  (V:i.size=size) (Y:i.bytes=M) (a2:z.cells.size=size) (a1:0<size)
  (v:Value) (n:Nat) (xs:List Value) (F:w.ownsRow 0 e size v n xs)
  (C:Addr) (m c:Nat) (r:List Value) (T:r.length=m*size) (U:∀j u,r[j]? =some u -> w.cell? (C.add j)=some u) (h1:∀u ∈ r,u.oneCell'=true)
  (X:n+m <= maxLen) (Z:(n+m)*M <= 140737488355328):
  ∃v' w',(Builtin.append_ #[t,t] ty #[v, .slice (some C) m c]).run P w= .ok v' w' /\ w'.ownsRow 0 e size v' (n+m) (xs++r) /\ Turned w w' v v':=by
 have a0:=F
 rcases F.2 with ⟨rfl,rfl⟩ | ⟨g,cap,a4,rfl,_,hg,h2,h3,h4,h5⟩
 ·obtain⟨v',w',G,h,E,_⟩:=run_append_own (P:=P) w w.heap.size t ty e i z size M W R hz V Y a2 a1 (.slice none 0 0) 0 xs ⟨F.1, .inl ⟨rfl,rfl⟩⟩ C m c r T U h1 X Z (Nat.le_refl _);refine⟨v',w',G,sO h (Nat.zero_le _),E,?_⟩
  rcases O:v'.ownBlock with _ | g
  ·exact .inl rfl
  ·exact .inr ⟨g,rfl,(h.lt g O).1⟩
 ·by_cases hc:n+m <= cap
  ·obtain⟨w',G,h,E⟩:=run_append_fits (P:=P) w 0 t ty e i size W R V g n cap xs a0 C m c r T U h1 hc;exact⟨_,w',G,h,E, .inl rfl⟩
  ·obtain⟨v',w',G,h,E⟩:=run_append_arg_grows (P:=P) w t ty e i z size M W R hz V Y a2 a1 ⟨g,0,none⟩ n cap xs F.1 (by
    intro j u hu;have hj:j<n*size:=by rw[<- F.1];exact(List.getElem?_eq_some_iff.1 hu).1
    have:=World.ownsRow.cellAt a0 j hj
    rw[add0,this];exact hu) C m c r T U oM X Z
   refine⟨v',w',G,sO h (Nat.zero_le _),FT E _,?_⟩
   rcases h.2 with ⟨_,h0⟩ | ⟨g',a3,a5,hv,O,_⟩
   ·omega
   ·subst hv;exact .inr ⟨g',rfl,O⟩
theorem lW{P:Program}(w:World){o:Oper}{a:Act}{K:Act -> World -> Prop}{Q:Exit -> Act -> World -> Prop}(s x:Operand)(t:TypeId)
  (W:o.op= .call {callee:= .builtin .append,args:= #[s,x],argTypes:= #[t,t]})
  (e:TypeId) (i:TypeInfo) (z:Value) (size E:Nat) (ht:P.underlying t=some (.slice e)) (T: P.info? e=some i) (hz:i.zero=some z)
  (a0:i.size=size) (O:i.bytes=E) (a2:z.cells.size=size) (a1:0<size)
  (v:Value) (n:Nat) (xs:List Value) (Z:a.eval s=v) (X:w.ownsRow 0 e size v n xs)
  (C:Addr) (m c:Nat) (r:List Value) (hx:a.eval x= .slice (some C) m c) (U:r.length=m*size) (V:∀j u,r[j]? =some u -> w.cell? (C.add j)=some u) (h1:∀u ∈ r,u.oneCell'=true)
  (M:n+m <= maxLen) (R:(n+m)*E <= 140737488355328)
  (h:∀v' w',w'.ownsRow 0 e size v' (n+m) (xs++r) -> Turned w w' v v' -> K (a.put o.dst v') w'):Oper.wp P o a w K Q:=by
 obtain⟨v',w',Y,F,G⟩:=FU (P:=P) w t o.type e i z size E ht T hz a0 O a2 a1 v n xs X C m c r U V h1 M R;unfold Oper.wp;simp[execOp,W,resolve,invoke,builtin,Z,hx,Y,Result.andThen];exact h v' w' F G
section
variable {w w':World} {v v':Value} {e:TypeId} {size n:Nat} {xs:List Value}
theorem qN(h:w.ownsRow 0 e size v n xs){g:Nat}(r:v.ownBlock=some g):∃cs,Row w g e cs:=by
 rcases h.2 with ⟨rfl,_⟩ | ⟨g',cap,t,rfl,_,C,_⟩
 ·simp[Value.ownBlock] at r
 ·simp only[Value.ownBlock,Option.some.injEq] at r;subst r;exact⟨t.toList,by unfold Row;simpa using C⟩
theorem Turned.below(h:Turned w w' v v'){B:Nat}(t:B <= w.heap.size)(r:∀g,v.ownBlock=some g -> B <= g):Below B w w':=
 ⟨h.grown.os,h.grown.tape,h.grown.output,h.grown.size,fun k C=>h.grown.block k oM fun e=>by have:=r k e.symm;omega⟩
theorem Turned.base(t:Turned w w' v v'){B:Nat}(E:B <= w.heap.size)(C:∀g,v.ownBlock=some g -> B <= g):∀g,v'.ownBlock=some g -> B <= g:=by
 intro g r
 rcases t.own with h | ⟨g',h,F⟩
 ·exact C g (h ▸ r)
 ·rw[r] at h;simp only[Option.some.injEq] at h;omega
theorem Turned.apart(r:Turned w w' v v'){k:Nat}(E:k<w.heap.size)(t:v.ownBlock≠some k):v'.ownBlock≠some k:=by
 rcases r.own with h | ⟨g',h,C⟩
 ·rw[h];exact t
 ·rw[h];simp;omega
theorem eO.turned{u:Value}{q:Rat}(h:eO w u q)(r:Turned w w' v v')(C:w.ownsRow 0 e size v n xs)(t:e≠160):eO w' u q:=by
 rcases hb:v.ownBlock with _ | g
 ·exact h.below (r.below (Nat.le_refl _) (by rw[hb];simp))
 ·obtain⟨cs,E⟩:=qN C hb;have:=r.grown;rw[hb] at this;exact h.other this E t
theorem Row.turned{g:Nat}{e':TypeId}{cs:List Value}(h:Row w g e' cs)(t:Turned w w' v v')(r:v.ownBlock≠some g):Row w' g e' cs:=(t.grown.block g h.lt (fun e=>r e.symm)).trans h
theorem kw.turned{b o:Nat}{x y z u:Value}(h:kw w b o x y z u)(t:Turned w w' v v')(r:v.ownBlock≠some b):kw w' b o x y z u:=
 ⟨t.grown.cell h.1 (fun e=>r e.symm),t.grown.cell h.2.1 (fun e=>r e.symm),t.grown.cell h.2.2.1 (fun e=>r e.symm),t.grown.cell h.2.2.2 (fun e=>r e.symm)⟩
theorem RB.turned{g k:Nat}{f:Nat -> Rat}(h:RB w g k f)(r:Turned w w' v v')(V:w.ownsRow 0 e size v n xs)(O:e≠160)(U:v.ownBlock≠some g):RB w' g k f:=by
 obtain⟨cs,W,T,M⟩:=h;refine⟨cs,W.turned r U,T,fun j R=> ?_⟩;obtain⟨s,A,l,c,t,B,m,d,h1,C,E,F,G⟩:=M j R;exact⟨s,A,l,c,t,B,m,d,h1,C,E,F,G.turned r V O⟩
end
def eY(w:World)(v:Value)(e:TypeId)(k:Nat)(p:Nat -> Value -> Prop):Prop:=∃xs,w.ownsRow 0 e 1 v k xs /\ ∀j,j<k -> ∃u,xs[j]? =some u /\ p j u
def gH(w:World)(v:Value)(k:Nat)(f:Nat -> Rat):Prop:=∃xs,w.ownsRow 0 105 4 v k xs /\ ∀j,j<k -> ∃s A l c t B m d,xs[j*4]? =some (.bool s) /\ xs[j*4+1]? =some (.slice A l c) /\ xs[j*4+2]? =some (.bool t) /\ xs[j*4+3]? =some (.slice B m d) /\
  eO w (.agg #[.bool s, .slice A l c, .bool t, .slice B m d]) (f j)
section
variable {w w':World} {v v' u u':Value} {e e':TypeId} {k k':Nat} {p p':Nat -> Value -> Prop} {f f':Nat -> Rat}
theorem eY.nil(w:World)(e:TypeId)(p:Nat -> Value -> Prop):eY w (.slice none 0 0) e 0 p:=⟨[],World.ownsRow_nil _ _ _ _,fun j h=>absurd h oM⟩
theorem gH.nil(w:World)(f:Nat -> Rat):gH w (.slice none 0 0) 0 f:=⟨[],World.ownsRow_nil _ _ _ _,fun j h=>absurd h oM⟩
theorem lI{size n:Nat}{xs:List Value}{r:Option Nat}(h:w.ownsRow 0 e size v n xs)(t:w.grownBy w' r)(C:∀g,v.ownBlock=some g -> r≠some g):w'.ownsRow 0 e size v n xs:=by
 refine h.kept t ?_
 rcases hb:v.ownBlock with _ | g
 ·exact .inl rfl
 ·exact .inr (fun e=>C g hb e.symm)
theorem eY.grown{r:Option Nat}(h:eY w v e k p)(t:w.grownBy w' r)(C:∀g,v.ownBlock=some g -> r≠some g):eY w' v e k p:=by
 obtain⟨xs,E,F⟩:=h;exact⟨xs,lI E t C,F⟩
theorem below_grown(h:Below w.heap.size w w'):w.grownBy w' none:=⟨h.os,h.tape,h.output,h.size,fun k r _=>h.block k r⟩
theorem eY.below(h:eY w v e k p)(r:Below w.heap.size w w'):eY w' v e k p:=h.grown (below_grown r) (by simp)
theorem gH.below(h:gH w v k f)(r:Below w.heap.size w w'):gH w' v k f:=by
 obtain⟨xs,O,R⟩:=h;refine⟨xs,lI O (below_grown r) (by simp),fun j M=> ?_⟩;obtain⟨s,A,l,c,t,B,m,d,h1,C,E,F,G⟩:=R j M;exact⟨s,A,l,c,t,B,m,d,h1,C,E,F,G.below r⟩
theorem eY.other{g:Nat}(h:eY w v e k p)(t:w.grownBy w' (some g))(C:v.ownBlock≠some g):eY w' v e k p:=h.grown t (fun g' r e=>C (by rw[r];exact e.symm))
theorem gH.other{g:Nat}{cs:List Value}(h:gH w v k f)(r:w.grownBy w' (some g))(W:Row w g e cs)(O:e≠160)(T:v.ownBlock≠some g):gH w' v k f:=by
 obtain⟨xs,U,V⟩:=h;refine⟨xs,lI U r (fun g' M e=>T (by rw[M];exact e.symm)),fun j R=> ?_⟩;obtain⟨s,A,l,c,t,B,m,d,h1,C,E,F,G⟩:=V j R;exact⟨s,A,l,c,t,B,m,d,h1,C,E,F,G.other r W O⟩
theorem eY.lt(h:eY w v e k p){g:Nat}(r:v.ownBlock=some g):g<w.heap.size:=by obtain⟨xs,t,_⟩:=h;exact(t.lt g r).2
theorem gH.lt(h:gH w v k f){g:Nat}(r:v.ownBlock=some g):g<w.heap.size:=by obtain⟨xs,t,_⟩:=h;exact(t.lt g r).2
theorem eY.row(h:eY w v e k p){g:Nat}(r:v.ownBlock=some g):∃cs,Row w g e cs:=by obtain⟨xs,t,_⟩:=h;exact qN t r
theorem gH.row(h:gH w v k f){g:Nat}(r:v.ownBlock=some g):∃cs,Row w g 105 cs:=by obtain⟨xs,t,_⟩:=h;exact qN t r
theorem zl(h:∀g,v.ownBlock=some g -> ∃cs,Row w g e cs)(r:∀g,u.ownBlock=some g -> ∃cs,Row w g e' cs)(C:e≠e'):∀g,v.ownBlock=some g -> u.ownBlock≠some g:=fun g E F=>by
 obtain⟨_,h1⟩:=h g E;obtain⟨_,t⟩:=r g F;exact C (h1.ty t)
theorem eY.turned(h:eY w v e k p)(t:Turned w w' u u')(r:∀g,v.ownBlock=some g -> u.ownBlock≠some g):eY w' v e k p:=h.grown t.grown r
theorem gH.turned{size n:Nat}{xs:List Value}(h:gH w v k f)(r:Turned w w' u u')(V:w.ownsRow 0 e size u n xs)(M:e≠160)(R:∀g,v.ownBlock=some g -> u.ownBlock≠some g):gH w' v k f:=by
 obtain⟨xs,T,U⟩:=h;refine⟨xs,lI T r.grown R,fun j O=> ?_⟩;obtain⟨s,A,l,c,t,B,m,d,h1,C,E,F,G⟩:=U j O;exact⟨s,A,l,c,t,B,m,d,h1,C,E,F,G.turned r V M⟩
theorem sP{size n:Nat}{xs:List Value}(h:w.ownsRow 0 e size v n xs):∃A c,v= .slice A n c /\ n <= c /\ c <= maxLen:=by
 rcases h.2 with ⟨rfl,rfl⟩ | ⟨g,cap,C,rfl,_,_,r,t,_⟩
 ·exact⟨none,0,rfl,Nat.le_refl _,Nat.zero_le _⟩
 ·exact⟨_,_,rfl,r,t⟩
theorem eY.shape(h:eY w v e k p):∃A c,v= .slice A k c /\ k <= c /\ c <= maxLen:=by obtain⟨xs,r,_⟩:=h;exact sP r
theorem gH.shape(h:gH w v k f):∃A c,v= .slice A k c /\ k <= c /\ c <= maxLen:=by obtain⟨xs,r,_⟩:=h;exact sP r
theorem eY.done(h:eY w v e k p)(T:0<k):∃g c cs,v= .slice (some ⟨g,0,none⟩) k c /\ Row w g e cs /\ k <= cs.length /\ ∀j,j<k -> ∃u,cs[j]? =some u /\ p j u:=by
 obtain⟨xs,F,G⟩:=h
 rcases F.2 with ⟨_,h0⟩ | ⟨g,cap,t,rfl,_,C,r,R,M,O⟩
 ·omega
 ·refine⟨g,cap,t.toList,rfl,by unfold Row;simpa using C,by rw[Array.length_toList,M];omega,fun j E=> ?_⟩;obtain⟨u,h1,r⟩:=G j E;refine⟨u,?_,r⟩;rw[<- O,List.getElem?_take,if_pos oM] at h1;exact h1
theorem gH.done(h:gH w v k f)(W:0<k):∃g c,v= .slice (some ⟨g,0,none⟩) k c /\ RB w g k f:=by
 obtain⟨xs,R,T⟩:=h
 rcases R.2 with ⟨_,h0⟩ | ⟨g,cap,F,rfl,_,M,r,C,U,V⟩
 ·omega
 ·refine⟨g,cap,rfl,F.toList,by unfold Row;simpa using M,by rw[Array.length_toList,U];omega,fun j O=> ?_⟩;obtain⟨s,A,l,c,t,B,m,d,h1,r,C,E,G⟩:=T j O;rw[<- V,List.getElem?_take,if_pos oM] at h1 r C E;exact⟨s,A,l,c,t,B,m,d,h1,r,C,E,G⟩
theorem gH.ky(h:gH w v k f):eZ w v k f:=by
 obtain⟨A,c,t,h1,C⟩:=h.shape;refine⟨A,c,t,h1,C,?_⟩
 rcases Nat.eq_zero_or_pos k with h0 | h0
 ·exact .inl h0
 ·obtain⟨g,c',r,E⟩:=h.done h0;rw[t] at r;simp only[Value.slice.injEq,true_and] at r;exact .inr ⟨g,r.1,E⟩
end
theorem qO{P:Program}(w:World){o:Oper}{a:Act}{K:Act -> World -> Prop}{Q:Exit -> Act -> World -> Prop}(s x:Operand)(t:TypeId)
  (Z:o.op= .call {callee:= .builtin .append,args:= #[s,x],argTypes:= #[t,t]})
  (e:TypeId) (i:TypeInfo) (z:Value) (G:Nat) (ht:P.underlying t=some (.slice e)) (W: P.info? e=some i) (hz:i.zero=some z)
  (a3:i.size=1) (V:i.bytes=G) (a4:z.cells.size=1)
  (v:Value) (k:Nat) (p:Nat -> Value -> Prop) (hs:a.eval s=v) (a0:eY w v e k p)
  (u:Value) (h1:u.oneCell'=true) (hp:p k u) (hx:a.eval x= .slice (some ⟨w.heap.size,0,none⟩) 1 1)
  (R:k+1 <= maxLen /\ (k+1)*G <= 140737488355328)
  (h:∀v' w',eY w' v' e (k+1) p -> Turned w w' v v' -> K (a.put o.dst v') w'):Oper.wp P o a (w.alloc (.cells #[u] e)) K Q:=by
 obtain⟨xs,T,a2⟩:=a0;have r:=eD w (.cells #[u] e);have hr:Row (w.alloc (.cells #[u] e)) w.heap.size e [u]:=eP _ _;refine lW _ s x t Z e i z 1 G ht W hz a3 V a4 dC v k xs hs (lI T (below_grown r) (by simp)) ⟨w.heap.size,0,none⟩ 1 1 [u] hx rfl ?_ ?_ R.1 R.2 ?_
 ·intro j y F
  rcases j with _ | j
  ·simp only[List.getElem?_cons_zero,Option.some.injEq] at F;subst F;exact hr.at_ 0 rfl
  ·simp at F
 ·intro y U;simp only[List.mem_singleton] at U;subst U;exact h1
 ·intro v' w' a1 C;refine h v' w' ⟨_,a1,fun j F=> ?_⟩ ⟨⟨C.grown.os.trans r.os,C.grown.tape.trans r.tape,C.grown.output.trans r.output,Nat.le_trans r.size C.grown.size,fun k O Y=>(C.grown.block k (Nat.lt_of_lt_of_le O r.size) Y).trans (r.block k O)⟩,?_⟩
  ·have X:xs.length=k:=by have:=T.1;omega
   by_cases e:j=k
   ·subst e;exact⟨u,by rw[List.getElem?_append_right oM,X];simp,hp⟩
   ·obtain⟨y,E,M⟩:=a2 j oM;exact⟨y,by rw[List.getElem?_append_left oM];exact E,M⟩
  ·rcases C.own with E | ⟨g,E,M⟩
   ·exact .inl E
   ·exact .inr ⟨g,E,Nat.le_trans r.size M⟩
theorem zm(w:World){o:Oper}{a:Act}{K:Act -> World -> Prop}{Q:Exit -> Act -> World -> Prop}(s x:Operand)
  (ho:o.op= .call {callee:= .builtin .append,args:= #[s,x],argTypes:= #[95,95]})
  (v:Value) (k:Nat) (f:Nat -> Rat) (hs:a.eval s=v) (a1:gH w v k f)
  (C:Bool) (A:Option Addr) (l c:Nat) (E:Bool) (B:Option Addr) (m d:Nat) (hq:eO w (.agg #[.bool C, .slice A l c, .bool E, .slice B m d]) (f k)) (hx:a.eval x= .slice (some ⟨w.heap.size,0,none⟩) 1 1)
  (a8:k <= 1000000000000)
  (h:∀v' w',gH w' v' (k+1) f -> Turned w w' v v' -> K (a.put o.dst v') w'):Oper.wp prog o a (w.alloc (.cells #[.bool C, .slice A l c, .bool E, .slice B m d] 105)) K Q:=by
 obtain⟨i,hi,a5,a6,a7⟩:=info_parts qM;obtain⟨xs,R,a3⟩:=a1;obtain⟨u,F⟩:∃u:List Value,u= [.bool C, .slice A l c, .bool E, .slice B m d]:=⟨_,rfl⟩
 have r:=eD w (.cells #[.bool C, .slice A l c, .bool E, .slice B m d] 105);have hr:Row (w.alloc (.cells #[.bool C, .slice A l c, .bool E, .slice B m d] 105)) w.heap.size 105 [.bool C, .slice A l c, .bool E, .slice B m d]:=eP _ _;have hl:xs.length=k*4:=R.1;have a4:u.length=4:=by rw[F];rfl
 refine lW _ s x _ ho _ i _ 4 64 underlying95 hi a5 a6 a7 rfl dC v k xs hs (lI R (below_grown r) (by simp)) ⟨w.heap.size,0,none⟩ 1 1 u hx a4 ?_ ?_ (by unfold maxLen;omega) oM ?_
 ·intro j y O;rw[add0];rw[F] at O;exact hr.at_ j O
 ·intro y T;rw[F] at T;simp only[List.mem_cons,List.not_mem_nil,or_false] at T;rcases T with rfl | rfl | rfl | rfl <;> rfl
 ·intro v' w' a2 t;have V:(w.alloc (.cells #[.bool C, .slice A l c, .bool E, .slice B m d] 105)).ownsRow 0 105 4 v k xs:=lI R (below_grown r) (by simp);refine h v' w' ⟨_,a2,fun j O=> ?_⟩ ⟨⟨t.grown.os.trans r.os,t.grown.tape.trans r.tape,t.grown.output.trans r.output,Nat.le_trans r.size t.grown.size,fun k U a0=>(t.grown.block k (Nat.lt_of_lt_of_le U r.size) a0).trans (r.block k U)⟩,?_⟩
  ·by_cases e:j=k
   ·subst e;refine⟨C,A,l,c,E,B,m,d,?_,?_,?_,?_,(hq.below r).turned t V ic⟩
    ·rw[List.getElem?_append_right oM,show j*4-xs.length=0 by omega,F];rfl
    ·rw[List.getElem?_append_right oM,show j*4+1-xs.length=1 by omega,F];rfl
    ·rw[List.getElem?_append_right oM,show j*4+2-xs.length=2 by omega,F];rfl
    ·rw[List.getElem?_append_right oM,show j*4+3-xs.length=3 by omega,F];rfl
   ·obtain⟨s1,W,l1,Y,t1,X,m1,Z,h1,G,M,h4,h5⟩:=a3 j oM;exact⟨s1,W,l1,Y,t1,X,m1,Z,by rw[List.getElem?_append_left oM];exact h1,by rw[List.getElem?_append_left oM];exact G,by rw[List.getElem?_append_left oM];exact M,by rw[List.getElem?_append_left oM];exact h4,(h5.below r).turned t V ic⟩
  ·rcases t.own with G | ⟨g,G,M⟩
   ·exact .inl G
   ·exact .inr ⟨g,G,Nat.le_trans r.size M⟩
theorem FV(w:World){o:Oper}{a:Act}{K:Act -> World -> Prop}{Q:Exit -> Act -> World -> Prop}(s x:Operand)
  (V:o.op= .call {callee:= .builtin .append,args:= #[s,x],argTypes:= #[95,95]})
  (r n:Nat) (f:Nat -> Rat) (A:Option Addr) (c B:Nat) (X:a.eval s= .slice (some ⟨r,0,none⟩) 0 0) (hE:Row w r 105 []) (am:B <= r)
  (Y:a.eval x= .slice A n c) (hr:eZ w (.slice A n c) n f) (ah:A=none -> c=0) (hn:n <= 1000000000000)
  (h:∀A' c' w',n <= c' -> c' <= maxLen -> (0<n -> ∃g,A'=some ⟨g,0,none⟩ /\ w.heap.size <= g /\ RB w' g n f) -> Below B w w' -> K (a.put o.dst (.slice A' n c')) w'):Oper.wp prog o a w K Q:=by
 obtain⟨i,U,a8,a9,aa⟩:=info_parts qM;have an:=hE.lt;have a7:w.ownsRow 0 105 4 (.slice (some ⟨r,0,none⟩) 0 0) 0 []:=⟨rfl, .inr ⟨r,0, #[],rfl,Nat.zero_le _,hE,Nat.le_refl _,Nat.zero_le _,rfl,rfl⟩⟩
 rcases Nat.eq_zero_or_pos n with h0 | h0
 ·subst h0;have ap:w.grownBy w (some r):=⟨rfl,rfl,rfl,Nat.le_refl _,fun _ _ _=>rfl⟩;cases A with
  | none=>
   have hc:=ah rfl;subst hc;have W:=run_append_owned_none (P:=prog) w 0 95 o.type 105 i 4 underlying95 U _ 0 [] a7;unfold Oper.wp;simp[execOp,V,resolve,invoke,builtin,X,Y,W,Result.andThen];exact h _ _ w (Nat.le_refl _) (Nat.zero_le _) (fun h=>absurd h oM) ((Below.refl _ _).mono oM)
  | some ad=>
   refine lW w s x _ V _ i _ 4 64 underlying95 U a8 a9 aa rfl dC _ 0 [] X a7 ad 0 c [] Y rfl (by simp) (by simp) (by unfold maxLen;omega) oM ?_;intro v' w' M ak;obtain⟨A',c',C,h1,T⟩:=sP M;subst C;refine h A' c' w' (Nat.zero_le _) T (fun h=>absurd h oM) (ak.below oM ?_);intro g hg;simp only[Value.ownBlock,Option.some.injEq] at hg;omega
 ·obtain⟨g,rfl,ai⟩:∃g,A=some ⟨g,0,none⟩ /\ RB w g n f:=by
   obtain⟨A',c',C,_,_,t⟩:=hr;simp only[Value.slice.injEq,true_and] at C;obtain⟨rfl,rfl⟩:=C
   rcases t with t | t
   ·omega
   ·exact t
  obtain⟨cs,aj,ao,ab⟩:=ai;have a6:(cs.take (n*4)).length=n*4:=by rw[List.length_take];omega
  have ag:∀j y,(cs.take (n*4))[j]? =some y -> w.cell? ((⟨g,0,none⟩:Addr).add j)=some y:=by
   intro j y F;have af:j<n*4:=by rw[<- a6];exact(List.getElem?_eq_some_iff.1 F).1
   rw[List.getElem?_take,if_pos af] at F;rw[add0];exact aj.at_ j F
  obtain⟨v',w',W,M,E⟩:=run_append_arg_grows (P:=prog) w 95 o.type 105 i _ 4 64 underlying95 U a8 a9 aa rfl dC ⟨r,0,none⟩ 0 0 [] rfl (by simp) ⟨g,0,none⟩ n c (cs.take (n*4)) a6 ag oM (by unfold maxLen;omega) oM;rw[Nat.zero_add] at M;have a0:Below w.heap.size w w':=⟨E.os,E.tape,E.output,E.size,fun k G=>E.block k G (by simp)⟩
  rcases M.2 with ⟨_,e0⟩ | ⟨g',al,R,C,ae,ac,T,t,h4,h5⟩
  ·omega
  ·subst C;unfold Oper.wp;simp[execOp,V,resolve,invoke,builtin,X,Y,W,Result.andThen];refine h _ _ w' T t (fun _=>⟨g',rfl,ae,R.toList,by unfold Row;simpa using ac,by rw[Array.length_toList,h4];omega,fun j F=> ?_⟩) (a0.mono oM);obtain⟨s1,A1,l1,c1,t1,B1,m1,d1,a1,a2,a3,a4,a5⟩:=ab j F
   have O:∀k u,k<n*4 -> cs[k]? =some u -> R.toList[k]? =some u:=by
    intro k u G hu;have Z:(R.toList.take (n*4))[k]? =(cs.take (n*4))[k]? :=by rw[h5];simp
    rw[List.getElem?_take,if_pos G,List.getElem?_take,if_pos G] at Z;rw[Z];exact hu
   exact⟨s1,A1,l1,c1,t1,B1,m1,d1,O _ _ oM a1,O _ _ oM a2,O _ _ oM a3,O _ _ oM a4,a5.below a0⟩
theorem nX(w:World){o:Oper}{a:Act}{K:Act -> World -> Prop}{Q:Exit -> Act -> World -> Prop}
  (l c:Operand) (O:o.op=Op.makeSlice 95 l c) (L C:Int) (n:Nat) (M:a.eval l= .int .i64 L) (F:a.eval c= .int .i64 C) (E:L=(n:Int)) (r:C=(n:Int)) (b2:n <= 4398046511104)
  (t:∀w',RB w' w.heap.size n (fun _=>0) -> Below w.heap.size w w' -> w.heap.size<w'.heap.size -> K (a.put o.dst (.slice (some ⟨w.heap.size,0,none⟩) n n)) w'):
  Oper.wp prog o a w K Q:=by
 obtain⟨i,G,T,U,V⟩:=info_parts qM;obtain⟨w',R,W,X⟩:=run_make_full (P:=prog) w w.heap.size _ _ i _ 4 underlying95 G T U .i64 .i64 n (by rw[V];omega) (by unfold maxLen;omega) (Nat.le_refl _);subst E;subst r;unfold Oper.wp;simp[execOp,O,M,F,R,Result.andThen];have h:=RB.made W;exact t w' h ((Below.refl _ _).grown X (Nat.le_refl _) (by simp)) h.lt
theorem jL{P:Program}{ops:Array Oper}{Q:Exit -> Act -> World -> Prop}{md:Region.Mode}{S:World -> Prop}{late:Nat -> Bool}{fuel:Nat}{listed:Array Bool}{a:Act}{w:World}(i:Nat){o:Oper}
  (E:Region.ready md ops listed= [i]) (C:ops[i]? =some o) (F:Region.wanted o (yielded ops a.tmps)=true)
  (h:∀r:Act -> World -> Prop,Shut (∀a w,(late i=false -> S w) -> gF P md ops Q S late fuel (listed.setIfInBounds i true) a w -> r a w) -> Oper.wp P o a w r Q):gF P md ops Q S late (fuel+1) listed a w:=
 lw E (by simp) (gG.cons C (fun K t=>by rw[if_pos F];exact h K t) gG.nil)
theorem zn:(prog.info? 3).map (fun i=>(i.zero,i.size,i.bytes))=some (some (.int .i64 0),1,8):=by kernel_rfl
theorem zo:(prog.info? 95).map (fun i=>(i.zero,i.size,i.bytes))=some (some (.slice none 0 0),1,24):=by kernel_rfl
end
section
open Go.RowKit
open Lp (RL upd eu)
def TS(w:World)(v:Value)(n:Nat)(s:Nat -> ByteArray):Prop:=∃A c,v= .slice A n c /\ n <= c /\ c <= maxLen /\ (n=0 \/ ∃g o,A=some ⟨g,o,none⟩ /\ ∀j,j<n -> w.cell? ⟨g,o+j,none⟩=some (.string (s j)))
def fZ(w:World)(v:Value)(m:Nat)(k:Nat -> Nat)(s:Nat -> Nat -> ByteArray)(b:Nat -> ByteArray):Prop:=
 ∃A c,v= .slice A m c /\ m <= c /\ c <= maxLen /\ (m=0 \/ ∃g o,A=some ⟨g,o,none⟩ /\ ∀i,i<m -> ∃u,w.cell? ⟨g,o+i*2,none⟩=some u /\ w.cell? ⟨g,o+i*2+1,none⟩=some (.string (b i)) /\ TS w u (k i) (s i))
def iD(w:World)(v:Value)(m n:Nat)(A:Nat -> Nat -> Rat):Prop:=
 ∃A' c,v= .slice A' m c /\ m <= c /\ c <= maxLen /\ (m=0 \/ ∃g,A'=some ⟨g,0,none⟩ /\ ∀i,i<m -> ∃X x,w.cell? ⟨g,i,none⟩=some (.slice X n x) /\ (X=none -> x=0) /\ eZ w (.slice X n x) n (A i))
section
variable {w w':World} {v:Value} {n m:Nat} {s:Nat -> ByteArray}
theorem TS.below(h:TS w v n s)(E:Below w.heap.size w w'):TS w' v n s:=by
 obtain⟨A,c,M,h1,r,t⟩:=h;exact⟨A,c,M,h1,r,t.imp id fun⟨g,o,C,F⟩=>⟨g,o,C,fun j G=>cell_below E (F j G)⟩⟩
theorem fZ.below{k:Nat -> Nat}{t:Nat -> Nat -> ByteArray}{b:Nat -> ByteArray}(h:fZ w v m k t b)(r:Below w.heap.size w w'):fZ w' v m k t b:=by
 obtain⟨A,c,U,h1,G,M⟩:=h;refine⟨A,c,U,h1,G,M.imp id fun⟨g,o,O,R⟩=>⟨g,o,O,fun i T=> ?_⟩⟩;obtain⟨u,C,E,F⟩:=R i T;exact⟨u,cell_below r C,cell_below r E,F.below r⟩
theorem iD.below{A:Nat -> Nat -> Rat}(h:iD w v m n A)(r:Below w.heap.size w w'):iD w' v m n A:=by
 obtain⟨A',c,T,h1,F,G⟩:=h;refine⟨A',c,T,h1,F,G.imp id fun⟨g,M,O⟩=>⟨g,M,fun i R=> ?_⟩⟩;obtain⟨X,x,t,C,E⟩:=O i R;exact⟨X,x,cell_below r t,C,E.below r⟩
theorem TS.congr{t:Nat -> ByteArray}(h:TS w v n s)(M:∀j,j<n -> s j=t j):TS w v n t:=by
 obtain⟨A,c,O,h1,C,E⟩:=h;exact⟨A,c,O,h1,C,E.imp id fun⟨g,o,F,G⟩=>⟨g,o,F,fun j r=>by rw[<- M j r];exact G j r⟩⟩
theorem TS.shape(h:TS w v n s):∃A c,v= .slice A n c /\ n <= c /\ c <= maxLen:=by obtain⟨A,c,t,h1,r,_⟩:=h;exact⟨A,c,t,h1,r⟩
theorem fZ.shape{k:Nat -> Nat}{t:Nat -> Nat -> ByteArray}{b:Nat -> ByteArray}(h:fZ w v m k t b):∃A c,v= .slice A m c /\ m <= c /\ c <= maxLen:=by obtain⟨A,c,C,h1,r,_⟩:=h;exact⟨A,c,C,h1,r⟩
theorem iD.shape{A:Nat -> Nat -> Rat}(h:iD w v m n A):∃A c,v= .slice A m c /\ m <= c /\ c <= maxLen:=by obtain⟨A,c,t,h1,r,_⟩:=h;exact⟨A,c,t,h1,r⟩
theorem eZ.shape{f:Nat -> Rat}(h:eZ w v n f):∃A c,v= .slice A n c /\ n <= c /\ c <= maxLen:=by obtain⟨A,c,t,h1,r,_⟩:=h;exact⟨A,c,t,h1,r⟩
theorem TS.at_{A:Option Addr}{c:Nat}(h:TS w (.slice A n c) n s)(C:0<n):∃g o,A=some ⟨g,o,none⟩ /\ ∀j,j<n -> w.cell? ⟨g,o+j,none⟩=some (.string (s j)):=by
 obtain⟨A',c',t,_,_,r⟩:=h;simp only[Value.slice.injEq,true_and] at t;obtain⟨rfl,rfl⟩:=t
 rcases r with r | r
 ·omega
 ·exact r
theorem eZ.at_{A:Option Addr}{c:Nat}{f:Nat -> Rat}(h:eZ w (.slice A n c) n f)(C:0<n):∃g,A=some ⟨g,0,none⟩ /\ RB w g n f:=by
 obtain⟨A',c',t,_,_,r⟩:=h;simp only[Value.slice.injEq,true_and] at t;obtain⟨rfl,rfl⟩:=t
 rcases r with r | r
 ·omega
 ·exact r
theorem iD.at_{A:Option Addr}{c:Nat}{f:Nat -> Nat -> Rat}(h:iD w (.slice A m c) m n f)(C:0<m):∃g,A=some ⟨g,0,none⟩ /\ ∀i,i<m -> ∃X x,w.cell? ⟨g,i,none⟩=some (.slice X n x) /\ (X=none -> x=0) /\ eZ w (.slice X n x) n (f i):=by
 obtain⟨A',c',t,_,_,r⟩:=h;simp only[Value.slice.injEq,true_and] at t;obtain⟨rfl,rfl⟩:=t
 rcases r with r | r
 ·omega
 ·exact r
theorem fZ.at_{A:Option Addr}{c:Nat}{k:Nat -> Nat}{t:Nat -> Nat -> ByteArray}{b:Nat -> ByteArray}(h:fZ w (.slice A m c) m k t b)(E:0<m):
  ∃g o,A=some ⟨g,o,none⟩ /\ ∀i,i<m -> ∃u,w.cell? ⟨g,o+i*2,none⟩=some u /\ w.cell? ⟨g,o+i*2+1,none⟩=some (.string (b i)) /\ TS w u (k i) (t i):=by
 obtain⟨A',c',C,_,_,r⟩:=h;simp only[Value.slice.injEq,true_and] at C;obtain⟨rfl,rfl⟩:=C
 rcases r with r | r
 ·omega
 ·exact r
end
def TSA(w:World)(v:Value)(n:Nat)(s:Nat -> ByteArray):Prop:=TS w v n s /\ ((v= .slice none 0 0 /\ n=0) \/ (∃g o c,v= .slice (some ⟨g,o,none⟩) n c) \/ (n=0 /\ ∃ad c,v= .slice (some ad) 0 c))
theorem TSA.below{w w':World}{v:Value}{n:Nat}{s:Nat -> ByteArray}(h:TSA w v n s)(r:Below w.heap.size w w'):TSA w' v n s:=⟨h.1.below r,h.2⟩
theorem sQ(w:World)(s:Nat -> ByteArray):TSA w (.slice none 0 0) 0 s:=⟨⟨none,0,rfl,Nat.le_refl _,by unfold maxLen;omega, .inl rfl⟩, .inl ⟨rfl,rfl⟩⟩
end
end Go.Proofs.YtdefghfjhgmpfaaGreatDoor
