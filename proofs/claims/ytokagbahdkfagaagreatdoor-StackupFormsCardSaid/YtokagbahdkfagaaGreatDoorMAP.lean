/- Parts of this proof: Tab Make App Strs. -/
import Derived.Test.YtokagbahdkfagaaGreatDoorMAO
import Derived.ArgAppend
import Derived.Test.YtokagbahdkfagaaGreatDoorMAE
namespace Go.Proofs.YtokagbahdkfagaaGreatDoor
open Tryz
section
open Go.RowKit
open Lp (RL upd eu)
def IB(w:World)(g n:Nat)(f:Nat -> Nat):Prop:=∃cs:List Value,Row w g 3 cs /\ n <= cs.length /\ ∀j,j<n -> cs[j]? =some (.int .i64 (f j:Nat))
def SB(w:World)(g m n:Nat)(gr cr:Nat -> Nat):Prop:=∃cs:List Value,Row w g 33 cs /\ m <= cs.length /\ ∀j,j<m -> ∃A,cs[j]? =some (.slice A n (cr j)) /\ (0<n -> A=some ⟨gr j,0,none⟩)
section
variable {S:Nat -> Prop} {w w':World} {g n m:Nat} {f:Nat -> Nat} {gr cr:Nat -> Nat}
theorem IB.lt(h:IB w g n f):g<w.heap.size:=by obtain⟨cs,r,_⟩:=h;exact r.lt
theorem IB.below(h:IB w g n f)(t:Below w.heap.size w w'):IB w' g n f:=by obtain⟨cs,r,h⟩:=h;exact⟨cs,r.below t r.lt,h⟩
theorem IB.chg(h:IB w g n f)(r:Chg S w w')(C:¬S g):IB w' g n f:=by obtain⟨cs,t,h⟩:=h;exact⟨cs,t.chg r C,h⟩
theorem IB.other{g':Nat}(h:IB w g n f)(r:w.grownBy w' (some g'))(t:g≠g'):IB w' g n f:=by obtain⟨cs,C,h⟩:=h;exact⟨cs,C.other r t,h⟩
theorem IB.at_(h:IB w g n f){j:Nat}(r:j<n): w.cell? ⟨g,j,none⟩=some (.int .i64 (f j:Nat)):=by obtain⟨cs,t,_,h⟩:=h;exact t.at_ _ (h j r)
theorem IB.free(h:IB w g n f)(j:Nat): w.frozen? ⟨g,j,none⟩=false:=by obtain⟨cs,r,_⟩:=h;exact r.free j
theorem IB.congr{f':Nat -> Nat}(h:IB w g n f)(t:∀j,j<n -> f j=f' j):IB w g n f':=by
 obtain⟨cs,E,C,h⟩:=h;exact⟨cs,E,C,fun j r=>by rw[<- t j r];exact h j r⟩
theorem IB.set(h:IB w g n f){j x:Nat}(E:j<n):IB (w.setCell ⟨g,j,none⟩ (.int .i64 (x:Nat))) g n (upd f j x):=by
 obtain⟨cs,C,t,h⟩:=h;refine⟨_,C.set j _,by simpa using t,fun k r=> ?_⟩;by_cases e:k=j
 ·subst e;rw[Lp.upd_same];simp[List.getElem?_set];omega
 ·rw[List.getElem?_set_ne oM,Lp.eQ _ _ e];exact h k r
theorem IB.row(h:IB w g n f):∃cs,Row w g 3 cs:=by obtain⟨cs,r,_⟩:=h;exact⟨cs,r⟩
theorem SB.lt(h:SB w g m n gr cr):g<w.heap.size:=by obtain⟨cs,r,_⟩:=h;exact r.lt
theorem SB.below(h:SB w g m n gr cr)(t:Below w.heap.size w w'):SB w' g m n gr cr:=by obtain⟨cs,r,h⟩:=h;exact⟨cs,r.below t r.lt,h⟩
theorem SB.chg(h:SB w g m n gr cr)(r:Chg S w w')(C:¬S g):SB w' g m n gr cr:=by obtain⟨cs,t,h⟩:=h;exact⟨cs,t.chg r C,h⟩
theorem SB.at_(h:SB w g m n gr cr)(C:0<n){j:Nat}(t:j<m): w.cell? ⟨g,j,none⟩=some (.slice (some ⟨gr j,0,none⟩) n (cr j)):=by
 obtain⟨cs,E,_,h⟩:=h;obtain⟨A,h1,r⟩:=h j t;rw[r C] at h1;exact E.at_ _ h1
theorem SB.row(h:SB w g m n gr cr):∃cs,Row w g 33 cs:=by obtain⟨cs,r,_⟩:=h;exact⟨cs,r⟩
theorem Row.ty{e e':TypeId}{cs t:List Value}(h:Row w g e cs)(r:Row w g e' t):e=e':=by
 unfold Row at h r;rw[h] at r
 injection r with r
 injection r with _ r _
end
structure Lay where
 gt:Nat
 gb:Nat
 go:Nat
 gk:Nat
 gc:Nat
 gp:Nat
 gr:Nat -> Nat
 cr:Nat -> Nat
 cb:Nat
 co:Nat
 ck:Nat
 cc:Nat
 cp:Nat
 Ab:Option Addr
 Ao:Option Addr
 Ak:Option Addr
 Ac:Option Addr
 Ap:Option Addr
def Lay.blocks(L:Lay)(m:Nat)(k:Nat):Prop:=k=L.gt \/ k=L.gb \/ k=L.go \/ k=L.gk \/ k=L.gc \/ k=L.gp \/ ∃r,r<m /\ k=L.gr r
def Lay.cells(L:Lay)(m n:Nat)(x y z u:Value):List Value:=
 [.int .i64 (n:Nat), .slice L.Ab m L.cb, .slice L.Ao n L.co, .slice L.Ak m L.ck, .slice L.Ac m L.cc, .slice L.Ap n L.cp,x,y,z,u]
structure eZ (w:World) (L:Lay) (m n:Nat) (D:eu):Prop where
 st:∃s A l c t B d e,Row w L.gt 241 (L.cells m n (.bool s) (.slice A l c) (.bool t) (.slice B d e)) /\ eP w (.agg #[.bool s, .slice A l c, .bool t, .slice B d e]) D.val
 ab:0<m -> L.Ab=some ⟨L.gb,0,none⟩ /\ L.Ak=some ⟨L.gk,0,none⟩ /\ L.Ac=some ⟨L.gc,0,none⟩
 ao:0<n -> L.Ao=some ⟨L.go,0,none⟩ /\ L.Ap=some ⟨L.gp,0,none⟩
 bas:0<m -> IB w L.gb m D.basic
 off:0<n -> IB w L.go n D.off
 con:0<m -> RB w L.gk m D.con
 top:0<n -> RB w L.gp n D.top
 out:0<m -> SB w L.gc m n L.gr L.cr
 rows:0<n -> ∀r,r<m -> RB w (L.gr r) n (D.cell r)
 bo:0<m -> 0<n -> L.gb≠L.go
 kp:0<m -> 0<n -> L.gk≠L.gp
 rk:0<n -> ∀r,r<m -> L.gr r≠L.gk /\ L.gr r≠L.gp
 rr:0<n -> ∀r s,r<m -> s<m -> L.gr r=L.gr s -> r=s
theorem eZ.below{w w':World}{L:Lay}{m n:Nat}{D:eu}(h:eZ w L m n D)(E:Below w.heap.size w w'):eZ w' L m n D:=by
 obtain⟨⟨s,A,l,c,t,B,d,e,G,hv⟩,U,V,W,X,Y,Z,h8,h9,M,O,R,T⟩:=h;exact⟨⟨s,A,l,c,t,B,d,e,G.below E G.lt,hv.below E⟩,U,V,fun C=>(W C).below E,fun C=>(X C).below E,fun C=>(Y C).below E,fun C=>(Z C).below E,fun C=>(h8 C).below E,fun hn r G=>(h9 hn r G).below E,M,O,R,T⟩
theorem fU{w:World}{g g':Nat}{e e':TypeId}{cs r:List Value}(h:Row w g e cs)(t:Row w g' e' r)(C:e≠e'):g≠g':=by
 rintro rfl;exact C (h.ty t)
theorem RB.ne{w:World}{g g' n:Nat}{f:Nat -> Rat}{e:TypeId}{cs:List Value}(h:RB w g n f)(r:Row w g' e cs)(t:e≠40):g'≠g:=by
 obtain⟨_,C⟩:=h.row;exact fU r C t
def Lay.full(L:Lay)(m n:Nat)(x y z u:Value):List Value:=
 [.int .i64 (n:Nat), .slice (some ⟨L.gb,0,none⟩) m L.cb, .slice (some ⟨L.go,0,none⟩) n L.co, .slice (some ⟨L.gk,0,none⟩) m L.ck, .slice (some ⟨L.gc,0,none⟩) m L.cc, .slice (some ⟨L.gp,0,none⟩) n L.cp,x,y,z,u]
section
variable {S:Nat -> Prop} {w w':World} {L:Lay} {m n i j:Nat} {D:eu}
theorem eZ.get(h:eZ w L m n D)(O:0<m)(R:0<n):∃s A l c t B d e,Row w L.gt 241 (L.full m n (.bool s) (.slice A l c) (.bool t) (.slice B d e)) /\ eP w (.agg #[.bool s, .slice A l c, .bool t, .slice B d e]) D.val:=by
 obtain⟨s,A,l,c,t,B,d,e,r,T⟩:=h.st;obtain⟨h1,C,E⟩:=h.ab O;obtain⟨G,M⟩:=h.ao R;unfold Lay.cells at r;rw[h1,C,E,G,M] at r;exact⟨s,A,l,c,t,B,d,e,r,T⟩
theorem eZ.nM(h:eZ w L m n D):∃cs,Row w L.gt 241 cs:=by obtain⟨s,A,l,c,t,B,d,e,r,C⟩:=h.st;exact⟨_,r⟩
theorem eZ.mP(h:eZ w L m n D)(t:0<m)(M:0<n){g k:Nat}{f:Nat -> Rat}(r:RB w g k f):L.gt≠g /\ L.gb≠g /\ L.go≠g /\ L.gc≠g:=by
 obtain⟨_,h1⟩:=h.nM;obtain⟨_,C⟩:=(h.bas t).row;obtain⟨_,E⟩:=(h.off M).row;obtain⟨_,G⟩:=(h.out t).row;exact⟨r.ne h1 dC,r.ne C dC,r.ne E dC,r.ne G dC⟩
theorem eZ.jD(h:eZ w L m n D)(E:0<m)(O:0<n)(G:Chg S w w')(X:∀k,S k -> k=L.gk \/ k=L.gp \/ ∃r,r<m /\ k=L.gr r){U W:Nat -> Rat}{cell:Nat -> Nat -> Rat}
  (Y:RB w' L.gk m U) (a0:RB w' L.gp n W) (Z:∀r,r<m -> RB w' (L.gr r) n (cell r)):eZ w' L m n ⟨D.basic,D.off,U,cell,W,D.val⟩:=by
 have V:∀k,S k -> ∃j f,RB w k j f:=by
  intro k M
  rcases X k M with rfl | rfl | ⟨r,R,rfl⟩
  ·exact⟨_,_,h.con E⟩
  ·exact⟨_,_,h.top O⟩
  ·exact⟨_,_,h.rows O r R⟩
 have hN:iR S w:=fun k M=>by
  obtain⟨j,f,T⟩:=V k M;obtain⟨cs,R⟩:=T.row;exact⟨_,_,R,gM⟩
 have no:∀k,S k -> L.gt≠k /\ L.gb≠k /\ L.go≠k /\ L.gc≠k:=fun k M=>by
  obtain⟨j,f,T⟩:=V k M;exact h.mP E O T
 obtain⟨s,A,l,c,t,B,d,e,R,hv⟩:=h.st
 exact⟨⟨s,A,l,c,t,B,d,e,R.chg G (fun C=>(no _ C).1 rfl),hv.chg G hN⟩,h.ab,h.ao,fun E=>(h.bas E).chg G (fun C=>(no _ C).2.1 rfl),fun O=>(h.off O).chg G (fun C=>(no _ C).2.2.1 rfl),fun _=>Y,fun _=>a0,
  fun E=>(h.out E).chg G (fun C=>(no _ C).2.2.2 rfl),fun _=>Z,h.bo,h.kp,h.rk,h.rr⟩
theorem eZ.congr{C:eu}(h:eZ w L m n D)(h1:∀r,r<m -> D.basic r=C.basic r)(h2:∀c,c<n -> D.off c=C.off c)(h3:∀r,r<m -> D.con r=C.con r)(h4:∀r c,r<m -> c<n -> D.cell r c=C.cell r c)(h5:∀c,c<n -> D.top c=C.top c)(h6:D.val=C.val):eZ w L m n C:=by
 obtain⟨⟨s,A,l,c,t,B,d,e,G,hv⟩,V,W,X,Y,Z,a7,a8,a9,O,R,T,U⟩:=h;exact⟨⟨s,A,l,c,t,B,d,e,G,by rw[<- h6];exact hv⟩,V,W,fun M=>(X M).congr h1,fun E=>(Y E).congr h2,fun M=>(Z M).congr h3,fun E=>(a7 E).congr h5,a8,fun E r G=>(a9 E r G).congr (fun c hc=>h4 r c G hc),O,R,T,U⟩
theorem eZ.setRow(h:eZ w L m n D)(G:0<m)(t:0<n)(C:i<m)(E:Chg (fun b=>b=L.gr i) w w'){f:Nat -> Rat}(R:RB w' (L.gr i) n f):eZ w' L m n ⟨D.basic,D.off,D.con,upd D.cell i f,D.top,D.val⟩:=by
 have hN:iR (fun b=>b=L.gr i) w:=iR.rb (h.rows t i C);refine h.jD G t E (fun k O=> .inr (.inr ⟨i,C,O⟩)) ((h.con G).chg E hN (fun e=>(h.rk t i C).1 e.symm)) ((h.top t).chg E hN (fun e=>(h.rk t i C).2 e.symm)) (fun r M=> ?_);by_cases e:r=i
 ·subst e;rw[Lp.upd_same];exact R
 ·rw[Lp.eQ _ _ e];exact(h.rows t r M).chg E hN (fun e'=>e (h.rr t r i M C e'))
theorem eZ.yg(h:eZ w L m n D)(E:0<m)(t:0<n)(C:Chg (fun b=>b=L.gk) w w'){f:Nat -> Rat}(O:RB w' L.gk m f):eZ w' L m n ⟨D.basic,D.off,f,D.cell,D.top,D.val⟩:=by
 have hN:iR (fun b=>b=L.gk) w:=iR.rb (h.con E);exact h.jD E t C (fun k M=> .inl M) O ((h.top t).chg C hN (fun e=>h.kp E t e.symm)) (fun r G=>(h.rows t r G).chg C hN (h.rk t r G).1)
theorem eZ.yh(h:eZ w L m n D)(E:0<m)(t:0<n)(C:Chg (fun b=>b=L.gp) w w'){f:Nat -> Rat}(O:RB w' L.gp n f):eZ w' L m n ⟨D.basic,D.off,D.con,D.cell,f,D.val⟩:=by
 have hN:iR (fun b=>b=L.gp) w:=iR.rb (h.top t);exact h.jD E t C (fun k M=> .inr (.inl M)) ((h.con E).chg C hN (h.kp E t)) O (fun r G=>(h.rows t r G).chg C hN (h.rk t r G).2)
theorem eZ.Ez(h:eZ w L m n D)(C:0<m)(E:0<n){x y z u:Value}{q:Rat}(M:Row w' L.gt 241 (L.full m n x y z u))(O:eP w' (.agg #[x,y,z,u]) q)(G:Chg (fun b=>b=L.gt) w w'):eZ w' L m n ⟨D.basic,D.off,D.con,D.cell,D.top,q⟩:=by
 have hN:iR (fun b=>b=L.gt) w:=fun k hk=>by
  subst hk;obtain⟨cs,M⟩:=h.nM;exact⟨_,_,M,by decide⟩
 obtain⟨_,h0⟩:=h.nM;obtain⟨_,Z⟩:=(h.bas C).row;obtain⟨_,h3⟩:=(h.off E).row;obtain⟨_,h4⟩:=(h.out C).row;obtain⟨s,A,l,c,t,B,d,e,T⟩:=O.shape;simp only[Value.agg.injEq] at T;obtain⟨rfl,rfl,rfl,rfl⟩:x= .bool s /\ y= .slice A l c /\ z= .bool t /\ u= .slice B d e:=by simpa using T
 refine⟨⟨s,A,l,c,t,B,d,e,?_,O⟩,h.ab,h.ao,fun C=>(h.bas C).chg G (fU Z h0 dC),fun E=>(h.off E).chg G (fU h3 h0 dC),fun C=>(h.con C).chg G hN (fun e=>(h.mP ‹0<m› E (h.con C)).1 e.symm),fun E=>(h.top E).chg G hN (fun e=>(h.mP C ‹0<n› (h.top E)).1 e.symm),
  fun C=>(h.out C).chg G (fU h4 h0 dC),fun E r M=>(h.rows E r M).chg G hN (fun e=>(h.mP C E (h.rows E r M)).1 e.symm),h.bo,h.kp,h.rk,h.rr⟩
 have R:=M;unfold Lay.cells;unfold Lay.full at R;obtain⟨U,V,W⟩:=h.ab C;obtain⟨X,Y⟩:=h.ao E;rw[U,V,W,X,Y];exact R
theorem Row.EC{g:Nat}{e:TypeId}{t C E G M O p q r s x y z u:Value}(h:Row w g e [t,C,E,G,M,O,p,q,r,s]):
  Row ((((w.setCell ⟨g,6,none⟩ x).setCell ⟨g,7,none⟩ y).setCell ⟨g,8,none⟩ z).setCell ⟨g,9,none⟩ u) g e [t,C,E,G,M,O,x,y,z,u]:=(((h.set 6 x).set 7 y).set 8 z).set 9 u
theorem eZ.yj(h:eZ w L m n D)(C:0<m)(E:0<n){b o:Nat -> Nat}(G:Chg (fun k=>k=L.gb \/ k=L.go) w w')(U:IB w' L.gb m b)(X:IB w' L.go n o):eZ w' L m n ⟨b,o,D.con,D.cell,D.top,D.val⟩:=by
 obtain⟨_,h0⟩:=h.nM;obtain⟨_,O⟩:=(h.bas C).row;obtain⟨_,R⟩:=(h.off E).row;obtain⟨_,T⟩:=(h.out C).row
 have hN:iR (fun k=>k=L.gb \/ k=L.go) w:=fun k W=>by
  rcases W with rfl | rfl
  ·exact⟨_,_,O,by decide⟩
  ·exact⟨_,_,R,by decide⟩
 have no:∀ {g k:Nat} {f:Nat -> Rat},RB w g k f -> ¬(g=L.gb \/ g=L.go):=fun V e=>by
  have:=h.mP C E V
  rcases e with e | e
  ·exact this.2.1 e.symm
  ·exact this.2.2.1 e.symm
 obtain⟨s,A,l,c,t,B,d,e,M,Y⟩:=h.st;refine⟨⟨s,A,l,c,t,B,d,e,M.chg G (fun e=> ?_),Y.chg G hN⟩,h.ab,h.ao,fun _=>U,fun _=>X,fun C=>(h.con C).chg G hN (no (h.con C)),fun E=>(h.top E).chg G hN (no (h.top E)),fun C=>(h.out C).chg G (fun e=> ?_),fun E r M=>(h.rows E r M).chg G hN (no (h.rows E r M)),h.bo,h.kp,h.rk,h.rr⟩
 ·rcases e with e | e
  ·exact fU h0 O dC e
  ·exact fU h0 R dC e
 ·rcases e with e | e
  ·exact fU T O dC e
  ·exact fU T R dC e
def part(D:eu)(i j k:Nat):eu:=
 ⟨D.basic,D.off,fun r=>if r<k \/ r=i then(D.pivot i j).con r else D.con r,fun r c=>if r<k \/ r=i then(D.pivot i j).cell r c else D.cell r c,D.top,D.val⟩
theorem nN(D:eu)(i j r:Nat):(D.pivot i j).con r=if r=i then D.con i / D.cell i j else D.con r-D.cell r j* (D.con i / D.cell i j):=rfl
theorem pJ(D:eu)(i j r c:Nat):(D.pivot i j).cell r c=if r=i then upd (D.cell i) j 1 c / D.cell i j else upd (D.cell r) j 0 c-D.cell r j* (upd (D.cell i) j 1 c / D.cell i j):=rfl
theorem ED(h:eZ w L m n ⟨D.basic,D.off,upd D.con i (D.con i / D.cell i j),upd D.cell i (fun c=>upd (D.cell i) j 1 c / D.cell i j),D.top,D.val⟩):eZ w L m n (part D i j 0):=by
 refine h.congr (fun _ _=>rfl) (fun _ _=>rfl) (fun r _=> ?_) (fun r c _ _=> ?_) (fun _ _=>rfl) rfl
 ·simp only[part,nN];by_cases e:r=i
  ·subst e;simp[Lp.upd_same]
  ·simp[Lp.eQ _ _ e,e]
 ·simp only[part,pJ];by_cases e:r=i
  ·subst e;simp[Lp.upd_same]
  ·simp[Lp.eQ _ _ e,e]
theorem EE(h:eZ w L m n (part D i j i)):eZ w L m n (part D i j (i+1)):=by
 refine h.congr (fun _ _=>rfl) (fun _ _=>rfl) (fun r _=> ?_) (fun r c _ _=> ?_) (fun _ _=>rfl) rfl
 ·simp only[part];by_cases e:r<i \/ r=i
  ·rw[if_pos e,if_pos oM]
  ·rw[if_neg e,if_neg oM]
 ·simp only[part];by_cases e:r<i \/ r=i
  ·rw[if_pos e,if_pos oM]
  ·rw[if_neg e,if_neg oM]
theorem EF{k:Nat}(G:k≠i)(C:D.cell k j=0)(h:eZ w L m n (part D i j k)):eZ w L m n (part D i j (k+1)):=by
 refine h.congr (fun _ _=>rfl) (fun _ _=>rfl) (fun r _=> ?_) (fun r c _ _=> ?_) (fun _ _=>rfl) rfl
 ·simp only[part];by_cases e:r=k
  ·subst e;rw[if_neg oM,if_pos oM,nN,if_neg G,C];grind
  ·by_cases t:r<k \/ r=i
   ·rw[if_pos t,if_pos oM]
   ·rw[if_neg t,if_neg oM]
 ·simp only[part];by_cases e:r=k
  ·subst e;rw[if_neg oM,if_pos oM,pJ,if_neg G,C];by_cases E:c=j
   ·subst E;rw[Lp.upd_same,C];grind
   ·rw[Lp.eQ _ _ E];grind
  ·by_cases t:r<k \/ r=i
   ·rw[if_pos t,if_pos oM]
   ·rw[if_neg t,if_neg oM]
theorem EG{k:Nat}(h:k≠i):(part D i j k).con k=D.con k:=by simp only[part];rw[if_neg oM]
theorem EI(k:Nat):(part D i j k).con i=D.con i / D.cell i j:=by simp only[part];rw[if_pos (Or.inr trivial),nN,if_pos rfl]
theorem uf{k:Nat}(h:k≠i)(c:Nat):(part D i j k).cell k c=D.cell k c:=by simp only[part];rw[if_neg oM]
theorem ug(k c:Nat):(part D i j k).cell i c=upd (D.cell i) j 1 c / D.cell i j:=by simp only[part];rw[if_pos (Or.inr trivial),pJ,if_pos rfl]
theorem EJ{k:Nat}(E:k≠i)(h:eZ w L m n ⟨D.basic,D.off,upd (part D i j k).con k (D.con k-D.cell k j* (D.pivot i j).con i),upd (part D i j k).cell k (fun c=>upd ((part D i j k).cell k) j 0 c-D.cell k j* (part D i j k).cell i c),D.top,D.val⟩):eZ w L m n (part D i j (k+1)):=by
 refine h.congr (fun _ _=>rfl) (fun _ _=>rfl) (fun r _=> ?_) (fun r c _ _=> ?_) (fun _ _=>rfl) rfl
 ·show upd (part D i j k).con k (D.con k-D.cell k j* (D.pivot i j).con i) r=_;by_cases e:r=k
  ·subst e;rw[Lp.upd_same];simp only[part];rw[if_pos oM,nN,nN,if_neg E,if_pos rfl]
  ·rw[Lp.eQ _ _ e];simp only[part];by_cases t:r<k \/ r=i
   ·rw[if_pos t,if_pos oM]
   ·rw[if_neg t,if_neg oM]
 ·show upd (part D i j k).cell k (fun c=>upd ((part D i j k).cell k) j 0 c-D.cell k j* (part D i j k).cell i c) r c=_;by_cases e:r=k
  ·subst e;rw[Lp.upd_same];rw[ug];show _=(if r<r+1 \/ r=i then(D.pivot i j).cell r c else D.cell r c);rw[if_pos (Or.inl (Nat.lt_succ_self r)),pJ,if_neg E];congr 1;by_cases C:c=j
   ·subst C;rw[Lp.upd_same,Lp.upd_same]
   ·rw[Lp.eQ _ _ C,Lp.eQ _ _ C,uf E]
  ·rw[Lp.eQ _ _ e];simp only[part];by_cases t:r<k \/ r=i
   ·rw[if_pos t,if_pos oM]
   ·rw[if_neg t,if_neg oM]
theorem EK(h:eZ w L m n (part D i j m)):eZ w L m n ⟨D.basic,D.off,(D.pivot i j).con,(D.pivot i j).cell,D.top,D.val⟩:=by
 refine h.congr (fun _ _=>rfl) (fun _ _=>rfl) (fun r t=> ?_) (fun r c t _=> ?_) (fun _ _=>rfl) rfl
 ·simp only[part];rw[if_pos (Or.inl t)]
 ·simp only[part];rw[if_pos (Or.inl t)]
end
end
section
open Go.RowKit
open Lp (RL upd eu)
theorem pK:(prog.info? 40).map (fun i=>(i.zero,i.size,i.bytes))=some (some (.agg #[.bool false, .slice none 0 0, .bool false, .slice none 0 0]),4,64):=by kernel_rfl
theorem qR(z:Array Value)(n i:Nat)(h:i<n):(madeCells z n).toList[i]? =some (z[i%z.size]!):=by
 unfold madeCells;rw[Array.getElem?_toList,Array.getElem?_map];simp[h]
theorem RB.made{w:World}{base g n:Nat}(h:w.ownsRow base 40 4 (.slice (some ⟨g,0,none⟩) n n) n (madeCells (Value.agg #[.bool false, .slice none 0 0, .bool false, .slice none 0 0]).cells (n*4)).toList):RB w g n (fun _=>0):=by
 rcases h.2 with ⟨r,_⟩ | ⟨g',cap,t,r,_,G,_,_,C,M⟩
 ·simp at r
 ·simp only[Value.slice.injEq,Option.some.injEq,Addr.mk.injEq,and_true,true_and] at r;obtain⟨rfl,rfl⟩:=r
  have E:t.toList=(madeCells (Value.agg #[.bool false, .slice none 0 0, .bool false, .slice none 0 0]).cells (n*4)).toList:=by
   rw[<- M,List.take_of_length_le];rw[Array.length_toList,C];exact Nat.le_refl _
  refine⟨t.toList,?_,?_,fun j O=> ?_⟩
  ·unfold Row;rw[G]
  ·rw[Array.length_toList,C];exact Nat.le_refl _
  ·rw[E];refine⟨false,none,0,0,false,none,0,0,?_,?_,?_,?_,eP.jo w⟩
   ·rw[qR _ _ _ oM];simp[Value.cells,show j*4%4=0 by omega]
   ·rw[qR _ _ _ oM];simp[Value.cells,show(j*4+1)%4=1 by omega]
   ·rw[qR _ _ _ oM];simp[Value.cells,show(j*4+2)%4=2 by omega]
   ·rw[qR _ _ _ oM];simp[Value.cells,show(j*4+3)%4=3 by omega]
theorem oh(w:World){ops:Array Oper}{rest:List Oper}{o:Oper}{a:Act}{Q:Exit -> Act -> World -> Prop}
  (M:o.guard=none) (l c:Operand) (U:o.op=Op.makeSlice 33 l c) (L C:Int) (n:Nat) (T:a.eval l= .int .i64 L) (G:a.eval c= .int .i64 C) (E:L=(n:Int)) (r:C=(n:Int)) (b2:n <= 4398046511104)
  (t:∀w',RB w' w.heap.size n (fun _=>0) -> Below w.heap.size w w' -> w.heap.size<w'.heap.size -> wpList prog ops Q rest (a.put o.dst (.slice (some ⟨w.heap.size,0,none⟩) n n)) w'):
  wpList prog ops Q (o::rest) a w:=by
 obtain⟨i,R,W,X,Y⟩:=info_parts pK;refine wpList_make_full w M l c _ U w.heap.size _ i _ 4 underlying33 R W X .i64 .i64 L C n T G E r (by rw[Y];omega) (by unfold maxLen;omega) (Nat.le_refl _) ?_;intro w' V O;have h:=RB.made V;exact t w' h ((Below.refl _ _).grown O (Nat.le_refl _) (by simp)) h.lt
end
section
open Go.RowKit
open Lp (RL upd eu)
theorem yl{w:World}{base r:Nat}{e:TypeId}{size:Nat}{v:Value}{n:Nat}{xs:List Value}(h:w.ownsRow base e size v n xs)(G:r <= base):w.ownsRow r e size v n xs:=by
 refine⟨h.1,?_⟩
 rcases h.2 with M | ⟨g,cap,t,h1,C,E⟩
 ·exact .inl M
 ·exact .inr ⟨g,cap,t,h1,Nat.le_trans G C,E⟩
structure Turned (w w':World) (v v':Value):Prop where
 grown:w.grownBy w' v.ownBlock
 own:v'.ownBlock=v.ownBlock \/ ∃g,v'.ownBlock=some g /\ w.heap.size <= g
theorem EN{w w':World}(h:w.grownBy w' none)(r:Option Nat):w.grownBy w' r:=⟨h.os,h.tape,h.output,h.size,fun k t _=>h.block k t (by simp)⟩
theorem add0(g j:Nat):(⟨g,0,none⟩:Addr).add j=⟨g,j,none⟩:=by
 unfold Addr.add;by_cases h:j=0
 ·subst h;simp
 ·simp[h]
theorem EO{P:Program}(w:World)(t ty:TypeId)(e:TypeId)(i:TypeInfo)(z:Value)(size O:Nat)(X:P.underlying t=some (.slice e))(T: P.info? e=some i)(hz:i.zero=some z)
  (W:i.size=size) (Z:i.bytes=O) (a3:z.cells.size=size) (a2:0<size)
  (v:Value) (n:Nat) (xs:List Value) (G:w.ownsRow 0 e size v n xs)
  (C:Addr) (m c:Nat) (r:List Value) (U:r.length=m*size) (V:∀j u,r[j]? =some u -> w.cell? (C.add j)=some u) (h1:∀u ∈ r,u.oneCell'=true)
  (Y:n+m <= maxLen) (a0:(n+m)*O <= 140737488355328):
  ∃v' w',(Builtin.append_ #[t,t] ty #[v, .slice (some C) m c]).run P w= .ok v' w' /\ w'.ownsRow 0 e size v' (n+m) (xs++r) /\ Turned w w' v v':=by
 have a1:=G
 rcases G.2 with ⟨rfl,rfl⟩ | ⟨g,cap,a5,rfl,_,hg,h2,h3,h4,h5⟩
 ·obtain⟨v',w',M,h,E,_⟩:=run_append_own (P:=P) w w.heap.size t ty e i z size O X T hz W Z a3 a2 (.slice none 0 0) 0 xs ⟨G.1, .inl ⟨rfl,rfl⟩⟩ C m c r U V h1 Y a0 (Nat.le_refl _);refine⟨v',w',M,yl h (Nat.zero_le _),E,?_⟩
  rcases R:v'.ownBlock with _ | g
  ·exact .inl rfl
  ·exact .inr ⟨g,rfl,(h.lt g R).1⟩
 ·by_cases hc:n+m <= cap
  ·obtain⟨w',M,h,E⟩:=run_append_fits (P:=P) w 0 t ty e i size X T W g n cap xs a1 C m c r U V h1 hc;exact⟨_,w',M,h,E, .inl rfl⟩
  ·obtain⟨v',w',M,h,E⟩:=run_append_arg_grows (P:=P) w t ty e i z size O X T hz W Z a3 a2 ⟨g,0,none⟩ n cap xs G.1 (by
    intro j u hu;have hj:j<n*size:=by rw[<- G.1];exact(List.getElem?_eq_some_iff.1 hu).1
    have:=World.ownsRow.cellAt a1 j hj
    rw[add0,this];exact hu) C m c r U V oM Y a0
   refine⟨v',w',M,yl h (Nat.zero_le _),EN E _,?_⟩
   rcases h.2 with ⟨_,h0⟩ | ⟨g',a4,a6,hv,R,_⟩
   ·omega
   ·subst hv;exact .inr ⟨g',rfl,R⟩
theorem nO{P:Program}(w:World){o:Oper}{a:Act}{K:Act -> World -> Prop}{Q:Exit -> Act -> World -> Prop}(s x:Operand)(t:TypeId)
  (X:o.op= .call {callee:= .builtin .append,args:= #[s,x],argTypes:= #[t,t]})
  (e:TypeId) (i:TypeInfo) (z:Value) (size E:Nat) (ht:P.underlying t=some (.slice e)) (U: P.info? e=some i) (hz:i.zero=some z)
  (a0:i.size=size) (R:i.bytes=E) (a2:z.cells.size=size) (a1:0<size)
  (v:Value) (n:Nat) (xs:List Value) (hs:a.eval s=v) (Y:w.ownsRow 0 e size v n xs)
  (C:Addr) (m c:Nat) (r:List Value) (hx:a.eval x= .slice (some C) m c) (V:r.length=m*size) (W:∀j u,r[j]? =some u -> w.cell? (C.add j)=some u) (h1:∀u ∈ r,u.oneCell'=true)
  (O:n+m <= maxLen) (T:(n+m)*E <= 140737488355328)
  (h:∀v' w',w'.ownsRow 0 e size v' (n+m) (xs++r) -> Turned w w' v v' -> K (a.put o.dst v') w'):Oper.wp P o a w K Q:=by
 obtain⟨v',w',Z,G,M⟩:=EO (P:=P) w t o.type e i z size E ht U hz a0 R a2 a1 v n xs Y C m c r V W h1 O T;unfold Oper.wp;simp[execOp,X,resolve,invoke,builtin,hs,hx,Z,Result.andThen];exact h v' w' G M
section
variable {w w':World} {v v':Value} {e:TypeId} {size n:Nat} {xs:List Value}
theorem qU(h:w.ownsRow 0 e size v n xs){g:Nat}(r:v.ownBlock=some g):∃cs,Row w g e cs:=by
 rcases h.2 with ⟨rfl,_⟩ | ⟨g',cap,t,rfl,_,C,_⟩
 ·simp[Value.ownBlock] at r
 ·simp only[Value.ownBlock,Option.some.injEq] at r;subst r;exact⟨t.toList,by unfold Row;simpa using C⟩
theorem Turned.below(h:Turned w w' v v'){B:Nat}(t:B <= w.heap.size)(r:∀g,v.ownBlock=some g -> B <= g):Below B w w':=
 ⟨h.grown.os,h.grown.tape,h.grown.output,h.grown.size,fun k C=>h.grown.block k oM fun e=>by have:=r k e.symm;omega⟩
theorem Turned.base(t:Turned w w' v v'){B:Nat}(E:B <= w.heap.size)(C:∀g,v.ownBlock=some g -> B <= g):∀g,v'.ownBlock=some g -> B <= g:=by
 intro g r
 rcases t.own with h | ⟨g',h,G⟩
 ·exact C g (h ▸ r)
 ·rw[r] at h;simp only[Option.some.injEq] at h;omega
theorem Turned.apart(r:Turned w w' v v'){k:Nat}(E:k<w.heap.size)(t:v.ownBlock≠some k):v'.ownBlock≠some k:=by
 rcases r.own with h | ⟨g',h,C⟩
 ·rw[h];exact t
 ·rw[h];simp;omega
theorem eP.turned{u:Value}{q:Rat}(h:eP w u q)(r:Turned w w' v v')(C:w.ownsRow 0 e size v n xs)(t:e≠169):eP w' u q:=by
 rcases hb:v.ownBlock with _ | g
 ·exact h.below (r.below (Nat.le_refl _) (by rw[hb];simp))
 ·obtain⟨cs,E⟩:=qU C hb;have:=r.grown;rw[hb] at this;exact h.other this E t
theorem Row.turned{g:Nat}{e':TypeId}{cs:List Value}(h:Row w g e' cs)(t:Turned w w' v v')(r:v.ownBlock≠some g):Row w' g e' cs:=(t.grown.block g h.lt (fun e=>r e.symm)).trans h
theorem jX.turned{b o:Nat}{x y z u:Value}(h:jX w b o x y z u)(t:Turned w w' v v')(r:v.ownBlock≠some b):jX w' b o x y z u:=
 ⟨t.grown.cell h.1 (fun e=>r e.symm),t.grown.cell h.2.1 (fun e=>r e.symm),t.grown.cell h.2.2.1 (fun e=>r e.symm),t.grown.cell h.2.2.2 (fun e=>r e.symm)⟩
theorem RB.turned{g k:Nat}{f:Nat -> Rat}(h:RB w g k f)(r:Turned w w' v v')(W:w.ownsRow 0 e size v n xs)(R:e≠169)(V:v.ownBlock≠some g):RB w' g k f:=by
 obtain⟨cs,X,U,O⟩:=h;refine⟨cs,X.turned r V,U,fun j T=> ?_⟩;obtain⟨s,A,l,c,t,B,m,d,h1,C,E,G,M⟩:=O j T;exact⟨s,A,l,c,t,B,m,d,h1,C,E,G,M.turned r W R⟩
end
def fI(w:World)(v:Value)(e:TypeId)(k:Nat)(p:Nat -> Value -> Prop):Prop:=∃xs,w.ownsRow 0 e 1 v k xs /\ ∀j,j<k -> ∃u,xs[j]? =some u /\ p j u
def gy(w:World)(v:Value)(k:Nat)(f:Nat -> Rat):Prop:=∃xs,w.ownsRow 0 40 4 v k xs /\ ∀j,j<k -> ∃s A l c t B m d,xs[j*4]? =some (.bool s) /\ xs[j*4+1]? =some (.slice A l c) /\ xs[j*4+2]? =some (.bool t) /\ xs[j*4+3]? =some (.slice B m d) /\
  eP w (.agg #[.bool s, .slice A l c, .bool t, .slice B m d]) (f j)
section
variable {w w':World} {v v' u u':Value} {e e':TypeId} {k k':Nat} {p p':Nat -> Value -> Prop} {f f':Nat -> Rat}
theorem fI.nil(w:World)(e:TypeId)(p:Nat -> Value -> Prop):fI w (.slice none 0 0) e 0 p:=⟨[],World.ownsRow_nil _ _ _ _,fun j h=>absurd h oM⟩
theorem gy.nil(w:World)(f:Nat -> Rat):gy w (.slice none 0 0) 0 f:=⟨[],World.ownsRow_nil _ _ _ _,fun j h=>absurd h oM⟩
theorem jr{size n:Nat}{xs:List Value}{r:Option Nat}(h:w.ownsRow 0 e size v n xs)(t:w.grownBy w' r)(C:∀g,v.ownBlock=some g -> r≠some g):w'.ownsRow 0 e size v n xs:=by
 refine h.kept t ?_
 rcases hb:v.ownBlock with _ | g
 ·exact .inl rfl
 ·exact .inr (fun e=>C g hb e.symm)
theorem fI.grown{r:Option Nat}(h:fI w v e k p)(t:w.grownBy w' r)(C:∀g,v.ownBlock=some g -> r≠some g):fI w' v e k p:=by
 obtain⟨xs,E,G⟩:=h;exact⟨xs,jr E t C,G⟩
theorem below_grown(h:Below w.heap.size w w'):w.grownBy w' none:=⟨h.os,h.tape,h.output,h.size,fun k r _=>h.block k r⟩
theorem fI.below(h:fI w v e k p)(r:Below w.heap.size w w'):fI w' v e k p:=h.grown (below_grown r) (by simp)
theorem gy.below(h:gy w v k f)(r:Below w.heap.size w w'):gy w' v k f:=by
 obtain⟨xs,R,T⟩:=h;refine⟨xs,jr R (below_grown r) (by simp),fun j O=> ?_⟩;obtain⟨s,A,l,c,t,B,m,d,h1,C,E,G,M⟩:=T j O;exact⟨s,A,l,c,t,B,m,d,h1,C,E,G,M.below r⟩
theorem fI.other{g:Nat}(h:fI w v e k p)(t:w.grownBy w' (some g))(C:v.ownBlock≠some g):fI w' v e k p:=h.grown t (fun g' r e=>C (by rw[r];exact e.symm))
theorem gy.other{g:Nat}{cs:List Value}(h:gy w v k f)(r:w.grownBy w' (some g))(X:Row w g e cs)(R:e≠169)(U:v.ownBlock≠some g):gy w' v k f:=by
 obtain⟨xs,V,W⟩:=h;refine⟨xs,jr V r (fun g' O e=>U (by rw[O];exact e.symm)),fun j T=> ?_⟩;obtain⟨s,A,l,c,t,B,m,d,h1,C,E,G,M⟩:=W j T;exact⟨s,A,l,c,t,B,m,d,h1,C,E,G,M.other r X R⟩
theorem fI.lt(h:fI w v e k p){g:Nat}(r:v.ownBlock=some g):g<w.heap.size:=by obtain⟨xs,t,_⟩:=h;exact(t.lt g r).2
theorem gy.lt(h:gy w v k f){g:Nat}(r:v.ownBlock=some g):g<w.heap.size:=by obtain⟨xs,t,_⟩:=h;exact(t.lt g r).2
theorem fI.row(h:fI w v e k p){g:Nat}(r:v.ownBlock=some g):∃cs,Row w g e cs:=by obtain⟨xs,t,_⟩:=h;exact qU t r
theorem gy.row(h:gy w v k f){g:Nat}(r:v.ownBlock=some g):∃cs,Row w g 40 cs:=by obtain⟨xs,t,_⟩:=h;exact qU t r
theorem fI.turned(h:fI w v e k p)(t:Turned w w' u u')(r:∀g,v.ownBlock=some g -> u.ownBlock≠some g):fI w' v e k p:=h.grown t.grown r
theorem gy.turned{size n:Nat}{xs:List Value}(h:gy w v k f)(r:Turned w w' u u')(W:w.ownsRow 0 e size u n xs)(O:e≠169)(T:∀g,v.ownBlock=some g -> u.ownBlock≠some g):gy w' v k f:=by
 obtain⟨xs,U,V⟩:=h;refine⟨xs,jr U r.grown T,fun j R=> ?_⟩;obtain⟨s,A,l,c,t,B,m,d,h1,C,E,G,M⟩:=V j R;exact⟨s,A,l,c,t,B,m,d,h1,C,E,G,M.turned r W O⟩
theorem om{size n:Nat}{xs:List Value}(h:w.ownsRow 0 e size v n xs):∃A c,v= .slice A n c /\ n <= c /\ c <= maxLen:=by
 rcases h.2 with ⟨rfl,rfl⟩ | ⟨g,cap,C,rfl,_,_,r,t,_⟩
 ·exact⟨none,0,rfl,Nat.le_refl _,Nat.zero_le _⟩
 ·exact⟨_,_,rfl,r,t⟩
theorem fI.shape(h:fI w v e k p):∃A c,v= .slice A k c /\ k <= c /\ c <= maxLen:=by obtain⟨xs,r,_⟩:=h;exact om r
theorem gy.shape(h:gy w v k f):∃A c,v= .slice A k c /\ k <= c /\ c <= maxLen:=by obtain⟨xs,r,_⟩:=h;exact om r
theorem fI.done(h:fI w v e k p)(U:0<k):∃g c cs,v= .slice (some ⟨g,0,none⟩) k c /\ Row w g e cs /\ k <= cs.length /\ ∀j,j<k -> ∃u,cs[j]? =some u /\ p j u:=by
 obtain⟨xs,G,M⟩:=h
 rcases G.2 with ⟨_,h0⟩ | ⟨g,cap,t,rfl,_,C,r,T,O,R⟩
 ·omega
 ·refine⟨g,cap,t.toList,rfl,by unfold Row;simpa using C,by rw[Array.length_toList,O];omega,fun j E=> ?_⟩;obtain⟨u,h1,r⟩:=M j E;refine⟨u,?_,r⟩;rw[<- R,List.getElem?_take,if_pos oM] at h1;exact h1
theorem gy.done(h:gy w v k f)(X:0<k):∃g c,v= .slice (some ⟨g,0,none⟩) k c /\ RB w g k f:=by
 obtain⟨xs,T,U⟩:=h
 rcases T.2 with ⟨_,h0⟩ | ⟨g,cap,G,rfl,_,O,r,C,V,W⟩
 ·omega
 ·refine⟨g,cap,rfl,G.toList,by unfold Row;simpa using O,by rw[Array.length_toList,V];omega,fun j R=> ?_⟩;obtain⟨s,A,l,c,t,B,m,d,h1,r,C,E,M⟩:=U j R;rw[<- W,List.getElem?_take,if_pos oM] at h1 r C E;exact⟨s,A,l,c,t,B,m,d,h1,r,C,E,M⟩
theorem gy.jD(h:gy w v k f):fD w v k f:=by
 obtain⟨A,c,t,h1,C⟩:=h.shape;refine⟨A,c,t,h1,C,?_⟩
 rcases Nat.eq_zero_or_pos k with h0 | h0
 ·exact .inl h0
 ·obtain⟨g,c',r,E⟩:=h.done h0;rw[t] at r;simp only[Value.slice.injEq,true_and] at r;exact .inr ⟨g,r.1,E⟩
end
theorem uh{P:Program}(w:World){o:Oper}{a:Act}{K:Act -> World -> Prop}{Q:Exit -> Act -> World -> Prop}(s x:Operand)(t:TypeId)
  (ho:o.op= .call {callee:= .builtin .append,args:= #[s,x],argTypes:= #[t,t]})
  (e:TypeId) (i:TypeInfo) (z:Value) (M:Nat) (ht:P.underlying t=some (.slice e)) (X: P.info? e=some i) (hz:i.zero=some z)
  (a3:i.size=1) (W:i.bytes=M) (a4:z.cells.size=1)
  (v:Value) (k:Nat) (p:Nat -> Value -> Prop) (hs:a.eval s=v) (a0:fI w v e k p)
  (u:Value) (h1:u.oneCell'=true) (hp:p k u) (hx:a.eval x= .slice (some ⟨w.heap.size,0,none⟩) 1 1)
  (T:k+1 <= maxLen /\ (k+1)*M <= 140737488355328)
  (h:∀v' w',fI w' v' e (k+1) p -> Turned w w' v v' -> K (a.put o.dst v') w'):Oper.wp P o a (w.alloc (.cells #[u] e)) K Q:=by
 obtain⟨xs,U,a2⟩:=a0;have r:=eD w (.cells #[u] e);have hr:Row (w.alloc (.cells #[u] e)) w.heap.size e [u]:=eO _ _;refine nO _ s x t ho e i z 1 M ht X hz a3 W a4 dC v k xs hs (jr U (below_grown r) (by simp)) ⟨w.heap.size,0,none⟩ 1 1 [u] hx rfl ?_ ?_ T.1 T.2 ?_
 ·intro j y G
  rcases j with _ | j
  ·simp only[List.getElem?_cons_zero,Option.some.injEq] at G;subst G;exact hr.at_ 0 rfl
  ·simp at G
 ·intro y V;simp only[List.mem_singleton] at V;subst V;exact h1
 ·intro v' w' a1 C;refine h v' w' ⟨_,a1,fun j G=> ?_⟩ ⟨⟨C.grown.os.trans r.os,C.grown.tape.trans r.tape,C.grown.output.trans r.output,Nat.le_trans r.size C.grown.size,fun k R Z=>(C.grown.block k (Nat.lt_of_lt_of_le R r.size) Z).trans (r.block k R)⟩,?_⟩
  ·have Y:xs.length=k:=by have:=U.1;omega
   by_cases e:j=k
   ·subst e;exact⟨u,by rw[List.getElem?_append_right oM,Y];simp,hp⟩
   ·obtain⟨y,E,O⟩:=a2 j oM;exact⟨y,by rw[List.getElem?_append_left oM];exact E,O⟩
  ·rcases C.own with E | ⟨g,E,O⟩
   ·exact .inl E
   ·exact .inr ⟨g,E,Nat.le_trans r.size O⟩
theorem ym(w:World){o:Oper}{a:Act}{K:Act -> World -> Prop}{Q:Exit -> Act -> World -> Prop}(s x:Operand)
  (ho:o.op= .call {callee:= .builtin .append,args:= #[s,x],argTypes:= #[33,33]})
  (v:Value) (k:Nat) (f:Nat -> Rat) (hs:a.eval s=v) (a1:gy w v k f)
  (s':Bool) (A:Option Addr) (l c:Nat) (C:Bool) (B:Option Addr) (m d:Nat) (hq:eP w (.agg #[.bool s', .slice A l c, .bool C, .slice B m d]) (f k)) (hx:a.eval x= .slice (some ⟨w.heap.size,0,none⟩) 1 1)
  (a8:k <= 1000000000000)
  (h:∀v' w',gy w' v' (k+1) f -> Turned w w' v v' -> K (a.put o.dst v') w'):Oper.wp prog o a (w.alloc (.cells #[.bool s', .slice A l c, .bool C, .slice B m d] 40)) K Q:=by
 obtain⟨i,hi,a5,a6,a7⟩:=info_parts pK;obtain⟨xs,R,a3⟩:=a1;obtain⟨u,E⟩:∃u:List Value,u= [.bool s', .slice A l c, .bool C, .slice B m d]:=⟨_,rfl⟩
 have r:=eD w (.cells #[.bool s', .slice A l c, .bool C, .slice B m d] 40);have hr:Row (w.alloc (.cells #[.bool s', .slice A l c, .bool C, .slice B m d] 40)) w.heap.size 40 [.bool s', .slice A l c, .bool C, .slice B m d]:=eO _ _;have hl:xs.length=k*4:=R.1;have a4:u.length=4:=by rw[E];rfl
 refine nO _ s x _ ho _ i _ 4 64 underlying33 hi a5 a6 a7 rfl dC v k xs hs (jr R (below_grown r) (by simp)) ⟨w.heap.size,0,none⟩ 1 1 u hx a4 ?_ ?_ (by unfold maxLen;omega) oM ?_
 ·intro j y O;rw[add0];rw[E] at O;exact hr.at_ j O
 ·intro y T;rw[E] at T;simp only[List.mem_cons,List.not_mem_nil,or_false] at T;rcases T with rfl | rfl | rfl | rfl <;> rfl
 ·intro v' w' a2 t;have V:(w.alloc (.cells #[.bool s', .slice A l c, .bool C, .slice B m d] 40)).ownsRow 0 40 4 v k xs:=jr R (below_grown r) (by simp);refine h v' w' ⟨_,a2,fun j O=> ?_⟩ ⟨⟨t.grown.os.trans r.os,t.grown.tape.trans r.tape,t.grown.output.trans r.output,Nat.le_trans r.size t.grown.size,fun k U a0=>(t.grown.block k (Nat.lt_of_lt_of_le U r.size) a0).trans (r.block k U)⟩,?_⟩
  ·by_cases e:j=k
   ·subst e;refine⟨s',A,l,c,C,B,m,d,?_,?_,?_,?_,(hq.below r).turned t V gM⟩
    ·rw[List.getElem?_append_right oM,show j*4-xs.length=0 by omega,E];rfl
    ·rw[List.getElem?_append_right oM,show j*4+1-xs.length=1 by omega,E];rfl
    ·rw[List.getElem?_append_right oM,show j*4+2-xs.length=2 by omega,E];rfl
    ·rw[List.getElem?_append_right oM,show j*4+3-xs.length=3 by omega,E];rfl
   ·obtain⟨s1,W,l1,Y,t1,X,m1,Z,h1,G,M,h4,h5⟩:=a3 j oM;exact⟨s1,W,l1,Y,t1,X,m1,Z,by rw[List.getElem?_append_left oM];exact h1,by rw[List.getElem?_append_left oM];exact G,by rw[List.getElem?_append_left oM];exact M,by rw[List.getElem?_append_left oM];exact h4,(h5.below r).turned t V gM⟩
  ·rcases t.own with G | ⟨g,G,M⟩
   ·exact .inl G
   ·exact .inr ⟨g,G,Nat.le_trans r.size M⟩
theorem EP(w:World){o:Oper}{a:Act}{K:Act -> World -> Prop}{Q:Exit -> Act -> World -> Prop}(s x:Operand)
  (W:o.op= .call {callee:= .builtin .append,args:= #[s,x],argTypes:= #[33,33]})
  (r n:Nat) (f:Nat -> Rat) (A:Option Addr) (c B:Nat) (Y:a.eval s= .slice (some ⟨r,0,none⟩) 0 0) (hE:Row w r 40 []) (am:B <= r)
  (Z:a.eval x= .slice A n c) (hr:fD w (.slice A n c) n f) (ah:A=none -> c=0) (hn:n <= 1000000000000)
  (h:∀A' c' w',n <= c' -> c' <= maxLen -> (0<n -> ∃g,A'=some ⟨g,0,none⟩ /\ w.heap.size <= g /\ RB w' g n f) -> Below B w w' -> K (a.put o.dst (.slice A' n c')) w'):Oper.wp prog o a w K Q:=by
 obtain⟨i,V,a8,a9,aa⟩:=info_parts pK;have an:=hE.lt;have a7:w.ownsRow 0 40 4 (.slice (some ⟨r,0,none⟩) 0 0) 0 []:=⟨rfl, .inr ⟨r,0, #[],rfl,Nat.zero_le _,hE,Nat.le_refl _,Nat.zero_le _,rfl,rfl⟩⟩
 rcases Nat.eq_zero_or_pos n with h0 | h0
 ·subst h0;have ap:w.grownBy w (some r):=⟨rfl,rfl,rfl,Nat.le_refl _,fun _ _ _=>rfl⟩;cases A with
  | none=>
   have hc:=ah rfl;subst hc;have X:=run_append_owned_none (P:=prog) w 0 33 o.type 40 i 4 underlying33 V _ 0 [] a7;unfold Oper.wp;simp[execOp,W,resolve,invoke,builtin,Y,Z,X,Result.andThen];exact h _ _ w (Nat.le_refl _) (Nat.zero_le _) (fun h=>absurd h oM) ((Below.refl _ _).mono oM)
  | some ad=>
   refine nO w s x _ W _ i _ 4 64 underlying33 V a8 a9 aa rfl dC _ 0 [] Y a7 ad 0 c [] Z rfl (by simp) (by simp) (by unfold maxLen;omega) oM ?_;intro v' w' O ak;obtain⟨A',c',C,h1,U⟩:=om O;subst C;refine h A' c' w' (Nat.zero_le _) U (fun h=>absurd h oM) (ak.below oM ?_);intro g hg;simp only[Value.ownBlock,Option.some.injEq] at hg;omega
 ·obtain⟨g,rfl,ai⟩:∃g,A=some ⟨g,0,none⟩ /\ RB w g n f:=by
   obtain⟨A',c',C,_,_,t⟩:=hr;simp only[Value.slice.injEq,true_and] at C;obtain⟨rfl,rfl⟩:=C
   rcases t with t | t
   ·omega
   ·exact t
  obtain⟨cs,aj,ao,ab⟩:=ai;have a6:(cs.take (n*4)).length=n*4:=by rw[List.length_take];omega
  have ag:∀j y,(cs.take (n*4))[j]? =some y -> w.cell? ((⟨g,0,none⟩:Addr).add j)=some y:=by
   intro j y G;have af:j<n*4:=by rw[<- a6];exact(List.getElem?_eq_some_iff.1 G).1
   rw[List.getElem?_take,if_pos af] at G;rw[add0];exact aj.at_ j G
  obtain⟨v',w',X,O,E⟩:=run_append_arg_grows (P:=prog) w 33 o.type 40 i _ 4 64 underlying33 V a8 a9 aa rfl dC ⟨r,0,none⟩ 0 0 [] rfl (by simp) ⟨g,0,none⟩ n c (cs.take (n*4)) a6 ag oM (by unfold maxLen;omega) oM;rw[Nat.zero_add] at O;have a0:Below w.heap.size w w':=⟨E.os,E.tape,E.output,E.size,fun k M=>E.block k M (by simp)⟩
  rcases O.2 with ⟨_,e0⟩ | ⟨g',al,T,C,ae,ac,U,t,h4,h5⟩
  ·omega
  ·subst C;unfold Oper.wp;simp[execOp,W,resolve,invoke,builtin,Y,Z,X,Result.andThen];refine h _ _ w' U t (fun _=>⟨g',rfl,ae,T.toList,by unfold Row;simpa using ac,by rw[Array.length_toList,h4];omega,fun j G=> ?_⟩) (a0.mono oM);obtain⟨s1,A1,l1,c1,t1,B1,m1,d1,a1,a2,a3,a4,a5⟩:=ab j G
   have R:∀k u,k<n*4 -> cs[k]? =some u -> T.toList[k]? =some u:=by
    intro k u M hu;have e1:(T.toList.take (n*4))[k]? =(cs.take (n*4))[k]? :=by rw[h5];simp
    rw[List.getElem?_take,if_pos M,List.getElem?_take,if_pos M] at e1;rw[e1];exact hu
   exact⟨s1,A1,l1,c1,t1,B1,m1,d1,R _ _ oM a1,R _ _ oM a2,R _ _ oM a3,R _ _ oM a4,a5.below a0⟩
theorem pO(w:World){o:Oper}{a:Act}{K:Act -> World -> Prop}{Q:Exit -> Act -> World -> Prop}
  (l c:Operand) (R:o.op=Op.makeSlice 33 l c) (L C:Int) (n:Nat) (O:a.eval l= .int .i64 L) (G:a.eval c= .int .i64 C) (E:L=(n:Int)) (r:C=(n:Int)) (b2:n <= 4398046511104)
  (t:∀w',RB w' w.heap.size n (fun _=>0) -> Below w.heap.size w w' -> w.heap.size<w'.heap.size -> K (a.put o.dst (.slice (some ⟨w.heap.size,0,none⟩) n n)) w'):
  Oper.wp prog o a w K Q:=by
 obtain⟨i,M,U,V,W⟩:=info_parts pK;obtain⟨w',T,X,Y⟩:=run_make_full (P:=prog) w w.heap.size _ _ i _ 4 underlying33 M U V .i64 .i64 n (by rw[W];omega) (by unfold maxLen;omega) (Nat.le_refl _);subst E;subst r;unfold Oper.wp;simp[execOp,R,O,G,T,Result.andThen];have h:=RB.made X;exact t w' h ((Below.refl _ _).grown Y (Nat.le_refl _) (by simp)) h.lt
theorem pQ{P:Program}{ops:Array Oper}{Q:Exit -> Act -> World -> Prop}{md:Region.Mode}{S:World -> Prop}{late:Nat -> Bool}{fuel:Nat}{listed:Array Bool}{a:Act}{w:World}(i:Nat){o:Oper}
  (E:Region.ready md ops listed= [i]) (C:ops[i]? =some o) (G:Region.wanted o (yielded ops a.tmps)=true)
  (h:∀r:Act -> World -> Prop,Shut (∀a w,(late i=false -> S w) -> fP P md ops Q S late fuel (listed.setIfInBounds i true) a w -> r a w) -> Oper.wp P o a w r Q):fP P md ops Q S late (fuel+1) listed a w:=
 iN E (by simp) (eY.cons C (fun K t=>by rw[if_pos G];exact h K t) eY.nil)
theorem ER:(prog.info? 3).map (fun i=>(i.zero,i.size,i.bytes))=some (some (.int .i64 0),1,8):=by kernel_rfl
theorem yn:(prog.info? 33).map (fun i=>(i.zero,i.size,i.bytes))=some (some (.slice none 0 0),1,24):=by kernel_rfl
end
section
open Go.RowKit
open Lp (RL upd eu)
def TS(w:World)(v:Value)(n:Nat)(s:Nat -> ByteArray):Prop:=∃A c,v= .slice A n c /\ n <= c /\ c <= maxLen /\ (n=0 \/ ∃g o,A=some ⟨g,o,none⟩ /\ ∀j,j<n -> w.cell? ⟨g,o+j,none⟩=some (.string (s j)))
def jY(w:World)(v:Value)(m:Nat)(k:Nat -> Nat)(s:Nat -> Nat -> ByteArray)(b:Nat -> ByteArray):Prop:=
 ∃A c,v= .slice A m c /\ m <= c /\ c <= maxLen /\ (m=0 \/ ∃g o,A=some ⟨g,o,none⟩ /\ ∀i,i<m -> ∃u,w.cell? ⟨g,o+i*2,none⟩=some u /\ w.cell? ⟨g,o+i*2+1,none⟩=some (.string (b i)) /\ TS w u (k i) (s i))
def jZ(w:World)(v:Value)(m n:Nat)(A:Nat -> Nat -> Rat):Prop:=
 ∃A' c,v= .slice A' m c /\ m <= c /\ c <= maxLen /\ (m=0 \/ ∃g,A'=some ⟨g,0,none⟩ /\ ∀i,i<m -> ∃X x,w.cell? ⟨g,i,none⟩=some (.slice X n x) /\ (X=none -> x=0) /\ fD w (.slice X n x) n (A i))
section
variable {w w':World} {v:Value} {n m:Nat} {s:Nat -> ByteArray}
theorem TS.below(h:TS w v n s)(E:Below w.heap.size w w'):TS w' v n s:=by
 obtain⟨A,c,O,h1,r,t⟩:=h;exact⟨A,c,O,h1,r,t.imp id fun⟨g,o,C,G⟩=>⟨g,o,C,fun j M=>cell_below E (G j M)⟩⟩
theorem jY.below{k:Nat -> Nat}{t:Nat -> Nat -> ByteArray}{b:Nat -> ByteArray}(h:jY w v m k t b)(r:Below w.heap.size w w'):jY w' v m k t b:=by
 obtain⟨A,c,V,h1,M,O⟩:=h;refine⟨A,c,V,h1,M,O.imp id fun⟨g,o,R,T⟩=>⟨g,o,R,fun i U=> ?_⟩⟩;obtain⟨u,C,E,G⟩:=T i U;exact⟨u,cell_below r C,cell_below r E,G.below r⟩
theorem jZ.below{A:Nat -> Nat -> Rat}(h:jZ w v m n A)(r:Below w.heap.size w w'):jZ w' v m n A:=by
 obtain⟨A',c,U,h1,G,M⟩:=h;refine⟨A',c,U,h1,G,M.imp id fun⟨g,O,R⟩=>⟨g,O,fun i T=> ?_⟩⟩;obtain⟨X,x,t,C,E⟩:=R i T;exact⟨X,x,cell_below r t,C,E.below r⟩
theorem TS.congr{s':Nat -> ByteArray}(h:TS w v n s)(M:∀j,j<n -> s j=s' j):TS w v n s':=by
 obtain⟨A,c,O,h1,t,C⟩:=h;exact⟨A,c,O,h1,t,C.imp id fun⟨g,o,E,G⟩=>⟨g,o,E,fun j r=>by rw[<- M j r];exact G j r⟩⟩
theorem TS.shape(h:TS w v n s):∃A c,v= .slice A n c /\ n <= c /\ c <= maxLen:=by obtain⟨A,c,t,h1,r,_⟩:=h;exact⟨A,c,t,h1,r⟩
theorem jY.shape{k:Nat -> Nat}{t:Nat -> Nat -> ByteArray}{b:Nat -> ByteArray}(h:jY w v m k t b):∃A c,v= .slice A m c /\ m <= c /\ c <= maxLen:=by obtain⟨A,c,C,h1,r,_⟩:=h;exact⟨A,c,C,h1,r⟩
theorem jZ.shape{A:Nat -> Nat -> Rat}(h:jZ w v m n A):∃A c,v= .slice A m c /\ m <= c /\ c <= maxLen:=by obtain⟨A,c,t,h1,r,_⟩:=h;exact⟨A,c,t,h1,r⟩
theorem fD.shape{f:Nat -> Rat}(h:fD w v n f):∃A c,v= .slice A n c /\ n <= c /\ c <= maxLen:=by obtain⟨A,c,t,h1,r,_⟩:=h;exact⟨A,c,t,h1,r⟩
theorem TS.at_{A:Option Addr}{c:Nat}(h:TS w (.slice A n c) n s)(C:0<n):∃g o,A=some ⟨g,o,none⟩ /\ ∀j,j<n -> w.cell? ⟨g,o+j,none⟩=some (.string (s j)):=by
 obtain⟨A',c',t,_,_,r⟩:=h;simp only[Value.slice.injEq,true_and] at t;obtain⟨rfl,rfl⟩:=t
 rcases r with r | r
 ·omega
 ·exact r
theorem fD.at_{A:Option Addr}{c:Nat}{f:Nat -> Rat}(h:fD w (.slice A n c) n f)(C:0<n):∃g,A=some ⟨g,0,none⟩ /\ RB w g n f:=by
 obtain⟨A',c',t,_,_,r⟩:=h;simp only[Value.slice.injEq,true_and] at t;obtain⟨rfl,rfl⟩:=t
 rcases r with r | r
 ·omega
 ·exact r
theorem jZ.at_{A:Option Addr}{c:Nat}{f:Nat -> Nat -> Rat}(h:jZ w (.slice A m c) m n f)(C:0<m):∃g,A=some ⟨g,0,none⟩ /\ ∀i,i<m -> ∃X x,w.cell? ⟨g,i,none⟩=some (.slice X n x) /\ (X=none -> x=0) /\ fD w (.slice X n x) n (f i):=by
 obtain⟨A',c',t,_,_,r⟩:=h;simp only[Value.slice.injEq,true_and] at t;obtain⟨rfl,rfl⟩:=t
 rcases r with r | r
 ·omega
 ·exact r
theorem jY.at_{A:Option Addr}{c:Nat}{k:Nat -> Nat}{t:Nat -> Nat -> ByteArray}{b:Nat -> ByteArray}(h:jY w (.slice A m c) m k t b)(E:0<m):
  ∃g o,A=some ⟨g,o,none⟩ /\ ∀i,i<m -> ∃u,w.cell? ⟨g,o+i*2,none⟩=some u /\ w.cell? ⟨g,o+i*2+1,none⟩=some (.string (b i)) /\ TS w u (k i) (t i):=by
 obtain⟨A',c',C,_,_,r⟩:=h;simp only[Value.slice.injEq,true_and] at C;obtain⟨rfl,rfl⟩:=C
 rcases r with r | r
 ·omega
 ·exact r
end
def TSA(w:World)(v:Value)(n:Nat)(s:Nat -> ByteArray):Prop:=TS w v n s /\ ((v= .slice none 0 0 /\ n=0) \/ (∃g o c,v= .slice (some ⟨g,o,none⟩) n c) \/ (n=0 /\ ∃ad c,v= .slice (some ad) 0 c))
theorem TSA.below{w w':World}{v:Value}{n:Nat}{s:Nat -> ByteArray}(h:TSA w v n s)(r:Below w.heap.size w w'):TSA w' v n s:=⟨h.1.below r,h.2⟩
theorem qV(w:World)(s:Nat -> ByteArray):TSA w (.slice none 0 0) 0 s:=⟨⟨none,0,rfl,Nat.le_refl _,by unfold maxLen;omega, .inl rfl⟩, .inl ⟨rfl,rfl⟩⟩
end
end Go.Proofs.YtokagbahdkfagaaGreatDoor
