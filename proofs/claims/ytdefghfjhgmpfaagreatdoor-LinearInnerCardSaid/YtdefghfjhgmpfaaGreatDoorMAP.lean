/- Parts of this proof: Tab Make App Strs. -/
import Derived.Test.YtdefghfjhgmpfaaGreatDoorMAO
import Derived.ArgAppend
import Derived.Test.YtdefghfjhgmpfaaGreatDoorMAE
namespace Go.Proofs.YtdefghfjhgmpfaaGreatDoor
open Tryz
section
open Go.RowKit
open Lp (RL upd eu)
def IB(w:World)(g n:Nat)(f:Nat -> Nat):Prop:=∃cs:List Value,Row w g 3 cs /\ n <= cs.length /\ ∀j,j<n -> cs[j]? =some (.int .i64 (f j:Nat))
def SB(w:World)(g m n:Nat)(gr cr:Nat -> Nat):Prop:=∃cs:List Value,Row w g 95 cs /\ m <= cs.length /\ ∀j,j<m -> ∃A,cs[j]? =some (.slice A n (cr j)) /\ (0<n -> A=some ⟨gr j,0,none⟩)
section
variable {S:Nat -> Prop} {w w':World} {g n m:Nat} {f:Nat -> Nat} {gr cr:Nat -> Nat}
theorem IB.lt(h:IB w g n f):g<w.heap.size:=by obtain⟨cs,t,_⟩:=h;exact t.lt
theorem IB.below(h:IB w g n f)(E:Below w.heap.size w w'):IB w' g n f:=by obtain⟨cs,t,h⟩:=h;exact⟨cs,t.below E t.lt,h⟩
theorem IB.chg(h:IB w g n f)(t:Chg S w w')(F:¬S g):IB w' g n f:=by obtain⟨cs,E,h⟩:=h;exact⟨cs,E.chg t F,h⟩
theorem IB.other{g':Nat}(h:IB w g n f)(t:w.grownBy w' (some g'))(E:g≠g'):IB w' g n f:=by obtain⟨cs,F,h⟩:=h;exact⟨cs,F.other t E,h⟩
theorem IB.at_(h:IB w g n f){j:Nat}(t:j<n): w.cell? ⟨g,j,none⟩=some (.int .i64 (f j:Nat)):=by obtain⟨cs,E,_,h⟩:=h;exact E.at_ _ (h j t)
theorem IB.free(h:IB w g n f)(j:Nat): w.frozen? ⟨g,j,none⟩=false:=by obtain⟨cs,t,_⟩:=h;exact t.free j
theorem IB.congr{f':Nat -> Nat}(h:IB w g n f)(E:∀j,j<n -> f j=f' j):IB w g n f':=by
 obtain⟨cs,G,F,h⟩:=h;exact⟨cs,G,F,fun j t=>by rw[<- E j t];exact h j t⟩
theorem IB.set(h:IB w g n f){j x:Nat}(G:j<n):IB (w.setCell ⟨g,j,none⟩ (.int .i64 (x:Nat))) g n (upd f j x):=by
 obtain⟨cs,F,E,h⟩:=h;refine⟨_,F.set j _,by simpa using E,fun k t=> ?_⟩;by_cases e:k=j
 ·subst e;rw[Lp.upd_same];simp[List.getElem?_set];omega
 ·rw[List.getElem?_set_ne oM,Lp.eT _ _ e];exact h k t
theorem IB.row(h:IB w g n f):∃cs,Row w g 3 cs:=by obtain⟨cs,t,_⟩:=h;exact⟨cs,t⟩
theorem SB.lt(h:SB w g m n gr cr):g<w.heap.size:=by obtain⟨cs,t,_⟩:=h;exact t.lt
theorem SB.below(h:SB w g m n gr cr)(E:Below w.heap.size w w'):SB w' g m n gr cr:=by obtain⟨cs,t,h⟩:=h;exact⟨cs,t.below E t.lt,h⟩
theorem SB.chg(h:SB w g m n gr cr)(t:Chg S w w')(F:¬S g):SB w' g m n gr cr:=by obtain⟨cs,E,h⟩:=h;exact⟨cs,E.chg t F,h⟩
theorem SB.at_(h:SB w g m n gr cr)(F:0<n){j:Nat}(E:j<m): w.cell? ⟨g,j,none⟩=some (.slice (some ⟨gr j,0,none⟩) n (cr j)):=by
 obtain⟨cs,G,_,h⟩:=h;obtain⟨A,h1,t⟩:=h j E;rw[t F] at h1;exact G.at_ _ h1
theorem SB.row(h:SB w g m n gr cr):∃cs,Row w g 95 cs:=by obtain⟨cs,t,_⟩:=h;exact⟨cs,t⟩
theorem Row.ty{e e':TypeId}{cs E:List Value}(h:Row w g e cs)(t:Row w g e' E):e=e':=by
 unfold Row at h t;rw[h] at t
 injection t with t
 injection t with _ t _
end
structure Lay where
 gt:Nat
 gb:Nat
 go:Nat
 gk:Nat
 gc:Nat
 gp:Nat
 gr:Nat -> Nat
 cr:Nat -> Nat
 cb:Nat
 co:Nat
 ck:Nat
 cc:Nat
 cp:Nat
 Ab:Option Addr
 Ao:Option Addr
 Ak:Option Addr
 Ac:Option Addr
 Ap:Option Addr
def Lay.blocks(L:Lay)(m:Nat)(k:Nat):Prop:=k=L.gt \/ k=L.gb \/ k=L.go \/ k=L.gk \/ k=L.gc \/ k=L.gp \/ ∃r,r<m /\ k=L.gr r
def Lay.cells(L:Lay)(m n:Nat)(x y z u:Value):List Value:=
 [.int .i64 (n:Nat), .slice L.Ab m L.cb, .slice L.Ao n L.co, .slice L.Ak m L.ck, .slice L.Ac m L.cc, .slice L.Ap n L.cp,x,y,z,u]
structure fq (w:World) (L:Lay) (m n:Nat) (D:eu):Prop where
 st:∃s A l c t B d e,Row w L.gt 148 (L.cells m n (.bool s) (.slice A l c) (.bool t) (.slice B d e)) /\ eO w (.agg #[.bool s, .slice A l c, .bool t, .slice B d e]) D.val
 ab:0<m -> L.Ab=some ⟨L.gb,0,none⟩ /\ L.Ak=some ⟨L.gk,0,none⟩ /\ L.Ac=some ⟨L.gc,0,none⟩
 ao:0<n -> L.Ao=some ⟨L.go,0,none⟩ /\ L.Ap=some ⟨L.gp,0,none⟩
 bas:0<m -> IB w L.gb m D.basic
 off:0<n -> IB w L.go n D.off
 con:0<m -> RB w L.gk m D.con
 top:0<n -> RB w L.gp n D.top
 out:0<m -> SB w L.gc m n L.gr L.cr
 rows:0<n -> ∀r,r<m -> RB w (L.gr r) n (D.cell r)
 bo:0<m -> 0<n -> L.gb≠L.go
 kp:0<m -> 0<n -> L.gk≠L.gp
 rk:0<n -> ∀r,r<m -> L.gr r≠L.gk /\ L.gr r≠L.gp
 rr:0<n -> ∀r s,r<m -> s<m -> L.gr r=L.gr s -> r=s
theorem fq.below{w w':World}{L:Lay}{m n:Nat}{D:eu}(h:fq w L m n D)(F:Below w.heap.size w w'):fq w' L m n D:=by
 obtain⟨⟨s,A,l,c,t,B,d,e,G,hv⟩,U,X,Y,Z,h6,h7,h8,h9,M,O,R,T⟩:=h;exact⟨⟨s,A,l,c,t,B,d,e,G.below F G.lt,hv.below F⟩,U,X,fun E=>(Y E).below F,fun E=>(Z E).below F,fun E=>(h6 E).below F,fun E=>(h7 E).below F,fun E=>(h8 E).below F,fun hn r G=>(h9 hn r G).below F,M,O,R,T⟩
theorem fV{w:World}{g g':Nat}{e e':TypeId}{cs t:List Value}(h:Row w g e cs)(E:Row w g' e' t)(F:e≠e'):g≠g':=by
 rintro rfl;exact F (h.ty E)
theorem RB.ne{w:World}{g g' n:Nat}{f:Nat -> Rat}{e:TypeId}{cs:List Value}(h:RB w g n f)(t:Row w g' e cs)(E:e≠105):g'≠g:=by
 obtain⟨_,F⟩:=h.row;exact fV t F E
def Lay.full(L:Lay)(m n:Nat)(x y z u:Value):List Value:=
 [.int .i64 (n:Nat), .slice (some ⟨L.gb,0,none⟩) m L.cb, .slice (some ⟨L.go,0,none⟩) n L.co, .slice (some ⟨L.gk,0,none⟩) m L.ck, .slice (some ⟨L.gc,0,none⟩) m L.cc, .slice (some ⟨L.gp,0,none⟩) n L.cp,x,y,z,u]
section
variable {S:Nat -> Prop} {w w':World} {L:Lay} {m n i j:Nat} {D:eu}
theorem fq.get(h:fq w L m n D)(R:0<m)(T:0<n):∃s A l c t B d e,Row w L.gt 148 (L.full m n (.bool s) (.slice A l c) (.bool t) (.slice B d e)) /\ eO w (.agg #[.bool s, .slice A l c, .bool t, .slice B d e]) D.val:=by
 obtain⟨s,A,l,c,t,B,d,e,E,U⟩:=h.st;obtain⟨h1,F,G⟩:=h.ab R;obtain⟨M,O⟩:=h.ao T;unfold Lay.cells at E;rw[h1,F,G,M,O] at E;exact⟨s,A,l,c,t,B,d,e,E,U⟩
theorem fq.nV(h:fq w L m n D):∃cs,Row w L.gt 148 cs:=by obtain⟨s,A,l,c,t,B,d,e,E,F⟩:=h.st;exact⟨_,E⟩
theorem fq.mW(h:fq w L m n D)(E:0<m)(O:0<n){g k:Nat}{f:Nat -> Rat}(t:RB w g k f):L.gt≠g /\ L.gb≠g /\ L.go≠g /\ L.gc≠g:=by
 obtain⟨_,h1⟩:=h.nV;obtain⟨_,F⟩:=(h.bas E).row;obtain⟨_,G⟩:=(h.off O).row;obtain⟨_,M⟩:=(h.out E).row;exact⟨t.ne h1 dC,t.ne F dC,t.ne G dC,t.ne M dC⟩
theorem fq.ky(h:fq w L m n D)(F:0<m)(O:0<n)(G:Chg S w w')(Z:∀k,S k -> k=L.gk \/ k=L.gp \/ ∃r,r<m /\ k=L.gr r){U Y:Nat -> Rat}{cell:Nat -> Nat -> Rat}
  (a0:RB w' L.gk m U) (a2:RB w' L.gp n Y) (a1:∀r,r<m -> RB w' (L.gr r) n (cell r)):fq w' L m n ⟨D.basic,D.off,U,cell,Y,D.val⟩:=by
 have X:∀k,S k -> ∃j f,RB w k j f:=by
  intro k M
  rcases Z k M with rfl | rfl | ⟨r,R,rfl⟩
  ·exact⟨_,_,h.con F⟩
  ·exact⟨_,_,h.top O⟩
  ·exact⟨_,_,h.rows O r R⟩
 have hN:jd S w:=fun k M=>by
  obtain⟨j,f,T⟩:=X k M;obtain⟨cs,R⟩:=T.row;exact⟨_,_,R,ic⟩
 have no:∀k,S k -> L.gt≠k /\ L.gb≠k /\ L.go≠k /\ L.gc≠k:=fun k M=>by
  obtain⟨j,f,T⟩:=X k M;exact h.mW F O T
 obtain⟨s,A,l,c,t,B,d,e,R,hv⟩:=h.st
 exact⟨⟨s,A,l,c,t,B,d,e,R.chg G (fun E=>(no _ E).1 rfl),hv.chg G hN⟩,h.ab,h.ao,fun F=>(h.bas F).chg G (fun E=>(no _ E).2.1 rfl),fun O=>(h.off O).chg G (fun E=>(no _ E).2.2.1 rfl),fun _=>a0,fun _=>a2,
  fun F=>(h.out F).chg G (fun E=>(no _ E).2.2.2 rfl),fun _=>a1,h.bo,h.kp,h.rk,h.rr⟩
theorem fq.congr{E:eu}(h:fq w L m n D)(h1:∀r,r<m -> D.basic r=E.basic r)(h2:∀c,c<n -> D.off c=E.off c)(h3:∀r,r<m -> D.con r=E.con r)(h4:∀r c,r<m -> c<n -> D.cell r c=E.cell r c)(h5:∀c,c<n -> D.top c=E.top c)(h6:D.val=E.val):fq w L m n E:=by
 obtain⟨⟨s,A,l,c,t,B,d,e,G,hv⟩,X,Y,Z,a5,a6,a7,a8,a9,O,R,T,U⟩:=h;exact⟨⟨s,A,l,c,t,B,d,e,G,by rw[<- h6];exact hv⟩,X,Y,fun M=>(Z M).congr h1,fun F=>(a5 F).congr h2,fun M=>(a6 M).congr h3,fun F=>(a7 F).congr h5,a8,fun F r G=>(a9 F r G).congr (fun c hc=>h4 r c G hc),O,R,T,U⟩
theorem fq.setRow(h:fq w L m n D)(G:0<m)(t:0<n)(E:i<m)(F:Chg (fun b=>b=L.gr i) w w'){f:Nat -> Rat}(R:RB w' (L.gr i) n f):fq w' L m n ⟨D.basic,D.off,D.con,upd D.cell i f,D.top,D.val⟩:=by
 have hN:jd (fun b=>b=L.gr i) w:=jd.rb (h.rows t i E);refine h.ky G t F (fun k O=> .inr (.inr ⟨i,E,O⟩)) ((h.con G).chg F hN (fun e=>(h.rk t i E).1 e.symm)) ((h.top t).chg F hN (fun e=>(h.rk t i E).2 e.symm)) (fun r M=> ?_);by_cases e:r=i
 ·subst e;rw[Lp.upd_same];exact R
 ·rw[Lp.eT _ _ e];exact(h.rows t r M).chg F hN (fun e'=>e (h.rr t r i M E e'))
theorem fq.zh(h:fq w L m n D)(F:0<m)(t:0<n)(E:Chg (fun b=>b=L.gk) w w'){f:Nat -> Rat}(O:RB w' L.gk m f):fq w' L m n ⟨D.basic,D.off,f,D.cell,D.top,D.val⟩:=by
 have hN:jd (fun b=>b=L.gk) w:=jd.rb (h.con F);exact h.ky F t E (fun k M=> .inl M) O ((h.top t).chg E hN (fun e=>h.kp F t e.symm)) (fun r G=>(h.rows t r G).chg E hN (h.rk t r G).1)
theorem fq.zi(h:fq w L m n D)(F:0<m)(t:0<n)(E:Chg (fun b=>b=L.gp) w w'){f:Nat -> Rat}(O:RB w' L.gp n f):fq w' L m n ⟨D.basic,D.off,D.con,D.cell,f,D.val⟩:=by
 have hN:jd (fun b=>b=L.gp) w:=jd.rb (h.top t);exact h.ky F t E (fun k M=> .inr (.inl M)) ((h.con F).chg E hN (h.kp F t)) O (fun r G=>(h.rows t r G).chg E hN (h.rk t r G).2)
theorem fq.FJ(h:fq w L m n D)(E:0<m)(F:0<n){x y z u:Value}{q:Rat}(M:Row w' L.gt 148 (L.full m n x y z u))(O:eO w' (.agg #[x,y,z,u]) q)(G:Chg (fun b=>b=L.gt) w w'):fq w' L m n ⟨D.basic,D.off,D.con,D.cell,D.top,q⟩:=by
 have hN:jd (fun b=>b=L.gt) w:=fun k hk=>by
  subst hk;obtain⟨cs,M⟩:=h.nV;exact⟨_,_,M,by decide⟩
 obtain⟨_,h0⟩:=h.nV;obtain⟨_,h2⟩:=(h.bas E).row;obtain⟨_,h3⟩:=(h.off F).row;obtain⟨_,h4⟩:=(h.out E).row;obtain⟨s,A,l,c,t,B,d,e,T⟩:=O.shape;simp only[Value.agg.injEq] at T;obtain⟨rfl,rfl,rfl,rfl⟩:x= .bool s /\ y= .slice A l c /\ z= .bool t /\ u= .slice B d e:=by simpa using T
 refine⟨⟨s,A,l,c,t,B,d,e,?_,O⟩,h.ab,h.ao,fun E=>(h.bas E).chg G (fV h2 h0 dC),fun F=>(h.off F).chg G (fV h3 h0 dC),fun E=>(h.con E).chg G hN (fun e=>(h.mW ‹0<m› F (h.con E)).1 e.symm),fun F=>(h.top F).chg G hN (fun e=>(h.mW E ‹0<n› (h.top F)).1 e.symm),
  fun E=>(h.out E).chg G (fV h4 h0 dC),fun F r M=>(h.rows F r M).chg G hN (fun e=>(h.mW E F (h.rows F r M)).1 e.symm),h.bo,h.kp,h.rk,h.rr⟩
 have R:=M;unfold Lay.cells;unfold Lay.full at R;obtain⟨U,X,Y⟩:=h.ab E;obtain⟨Z,g5⟩:=h.ao F;rw[U,X,Y,Z,g5];exact R
theorem Row.FK{g:Nat}{e:TypeId}{t E F G M O p q r s x y z u:Value}(h:Row w g e [t,E,F,G,M,O,p,q,r,s]):
  Row ((((w.setCell ⟨g,6,none⟩ x).setCell ⟨g,7,none⟩ y).setCell ⟨g,8,none⟩ z).setCell ⟨g,9,none⟩ u) g e [t,E,F,G,M,O,x,y,z,u]:=(((h.set 6 x).set 7 y).set 8 z).set 9 u
theorem fq.zk(h:fq w L m n D)(E:0<m)(F:0<n){b o:Nat -> Nat}(G:Chg (fun k=>k=L.gb \/ k=L.go) w w')(U:IB w' L.gb m b)(Z:IB w' L.go n o):fq w' L m n ⟨b,o,D.con,D.cell,D.top,D.val⟩:=by
 obtain⟨_,h0⟩:=h.nV;obtain⟨_,O⟩:=(h.bas E).row;obtain⟨_,R⟩:=(h.off F).row;obtain⟨_,T⟩:=(h.out E).row
 have hN:jd (fun k=>k=L.gb \/ k=L.go) w:=fun k Y=>by
  rcases Y with rfl | rfl
  ·exact⟨_,_,O,by decide⟩
  ·exact⟨_,_,R,by decide⟩
 have no:∀ {g k:Nat} {f:Nat -> Rat},RB w g k f -> ¬(g=L.gb \/ g=L.go):=fun X e=>by
  have:=h.mW E F X
  rcases e with e | e
  ·exact this.2.1 e.symm
  ·exact this.2.2.1 e.symm
 obtain⟨s,A,l,c,t,B,d,e,M,hv⟩:=h.st;refine⟨⟨s,A,l,c,t,B,d,e,M.chg G (fun e=> ?_),hv.chg G hN⟩,h.ab,h.ao,fun _=>U,fun _=>Z,fun E=>(h.con E).chg G hN (no (h.con E)),fun F=>(h.top F).chg G hN (no (h.top F)),fun E=>(h.out E).chg G (fun e=> ?_),fun F r M=>(h.rows F r M).chg G hN (no (h.rows F r M)),h.bo,h.kp,h.rk,h.rr⟩
 ·rcases e with e | e
  ·exact fV h0 O dC e
  ·exact fV h0 R dC e
 ·rcases e with e | e
  ·exact fV T O dC e
  ·exact fV T R dC e
def part(D:eu)(i j k:Nat):eu:=
 ⟨D.basic,D.off,fun r=>if r<k \/ r=i then(D.pivot i j).con r else D.con r,fun r c=>if r<k \/ r=i then(D.pivot i j).cell r c else D.cell r c,D.top,D.val⟩
theorem nW(D:eu)(i j r:Nat):(D.pivot i j).con r=if r=i then D.con i / D.cell i j else D.con r-D.cell r j* (D.con i / D.cell i j):=rfl
theorem qL(D:eu)(i j r c:Nat):(D.pivot i j).cell r c=if r=i then upd (D.cell i) j 1 c / D.cell i j else upd (D.cell r) j 0 c-D.cell r j* (upd (D.cell i) j 1 c / D.cell i j):=rfl
theorem FL(h:fq w L m n ⟨D.basic,D.off,upd D.con i (D.con i / D.cell i j),upd D.cell i (fun c=>upd (D.cell i) j 1 c / D.cell i j),D.top,D.val⟩):fq w L m n (part D i j 0):=by
 refine h.congr (fun _ _=>rfl) (fun _ _=>rfl) (fun r _=> ?_) (fun r c _ _=> ?_) (fun _ _=>rfl) rfl
 ·simp only[part,nW];by_cases e:r=i
  ·subst e;simp[Lp.upd_same]
  ·simp[Lp.eT _ _ e,e]
 ·simp only[part,qL];by_cases e:r=i
  ·subst e;simp[Lp.upd_same]
  ·simp[Lp.eT _ _ e,e]
theorem FM(h:fq w L m n (part D i j i)):fq w L m n (part D i j (i+1)):=by
 refine h.congr (fun _ _=>rfl) (fun _ _=>rfl) (fun r _=> ?_) (fun r c _ _=> ?_) (fun _ _=>rfl) rfl
 ·simp only[part];by_cases e:r<i \/ r=i
  ·rw[if_pos e,if_pos oM]
  ·rw[if_neg e,if_neg oM]
 ·simp only[part];by_cases e:r<i \/ r=i
  ·rw[if_pos e,if_pos oM]
  ·rw[if_neg e,if_neg oM]
theorem FN{k:Nat}(G:k≠i)(E:D.cell k j=0)(h:fq w L m n (part D i j k)):fq w L m n (part D i j (k+1)):=by
 refine h.congr (fun _ _=>rfl) (fun _ _=>rfl) (fun r _=> ?_) (fun r c _ _=> ?_) (fun _ _=>rfl) rfl
 ·simp only[part];by_cases e:r=k
  ·subst e;rw[if_neg oM,if_pos oM,nW,if_neg G,E];grind
  ·by_cases t:r<k \/ r=i
   ·rw[if_pos t,if_pos oM]
   ·rw[if_neg t,if_neg oM]
 ·simp only[part];by_cases e:r=k
  ·subst e;rw[if_neg oM,if_pos oM,qL,if_neg G,E];by_cases F:c=j
   ·subst F;rw[Lp.upd_same,E];grind
   ·rw[Lp.eT _ _ F];grind
  ·by_cases t:r<k \/ r=i
   ·rw[if_pos t,if_pos oM]
   ·rw[if_neg t,if_neg oM]
theorem FO{k:Nat}(h:k≠i):(part D i j k).con k=D.con k:=by simp only[part];rw[if_neg oM]
theorem FP(k:Nat):(part D i j k).con i=D.con i / D.cell i j:=by simp only[part];rw[if_pos (Or.inr trivial),nW,if_pos rfl]
theorem vD{k:Nat}(h:k≠i)(c:Nat):(part D i j k).cell k c=D.cell k c:=by simp only[part];rw[if_neg oM]
theorem vE(k c:Nat):(part D i j k).cell i c=upd (D.cell i) j 1 c / D.cell i j:=by simp only[part];rw[if_pos (Or.inr trivial),qL,if_pos rfl]
theorem FQ{k:Nat}(F:k≠i)(h:fq w L m n ⟨D.basic,D.off,upd (part D i j k).con k (D.con k-D.cell k j* (D.pivot i j).con i),upd (part D i j k).cell k (fun c=>upd ((part D i j k).cell k) j 0 c-D.cell k j* (part D i j k).cell i c),D.top,D.val⟩):fq w L m n (part D i j (k+1)):=by
 refine h.congr (fun _ _=>rfl) (fun _ _=>rfl) (fun r _=> ?_) (fun r c _ _=> ?_) (fun _ _=>rfl) rfl
 ·show upd (part D i j k).con k (D.con k-D.cell k j* (D.pivot i j).con i) r=_;by_cases e:r=k
  ·subst e;rw[Lp.upd_same];simp only[part];rw[if_pos oM,nW,nW,if_neg F,if_pos rfl]
  ·rw[Lp.eT _ _ e];simp only[part];by_cases t:r<k \/ r=i
   ·rw[if_pos t,if_pos oM]
   ·rw[if_neg t,if_neg oM]
 ·show upd (part D i j k).cell k (fun c=>upd ((part D i j k).cell k) j 0 c-D.cell k j* (part D i j k).cell i c) r c=_;by_cases e:r=k
  ·subst e;rw[Lp.upd_same];rw[vE];show _=(if r<r+1 \/ r=i then(D.pivot i j).cell r c else D.cell r c);rw[if_pos (Or.inl (Nat.lt_succ_self r)),qL,if_neg F];congr 1;by_cases E:c=j
   ·subst E;rw[Lp.upd_same,Lp.upd_same]
   ·rw[Lp.eT _ _ E,Lp.eT _ _ E,vD F]
  ·rw[Lp.eT _ _ e];simp only[part];by_cases t:r<k \/ r=i
   ·rw[if_pos t,if_pos oM]
   ·rw[if_neg t,if_neg oM]
theorem FR(h:fq w L m n (part D i j m)):fq w L m n ⟨D.basic,D.off,(D.pivot i j).con,(D.pivot i j).cell,D.top,D.val⟩:=by
 refine h.congr (fun _ _=>rfl) (fun _ _=>rfl) (fun r t=> ?_) (fun r c t _=> ?_) (fun _ _=>rfl) rfl
 ·simp only[part];rw[if_pos (Or.inl t)]
 ·simp only[part];rw[if_pos (Or.inl t)]
end
end
section
open Go.RowKit
open Lp (RL upd eu)
theorem qM:(prog.info? 105).map (fun i=>(i.zero,i.size,i.bytes))=some (some (.agg #[.bool false, .slice none 0 0, .bool false, .slice none 0 0]),4,64):=by kernel_rfl
theorem sN(z:Array Value)(n i:Nat)(h:i<n):(madeCells z n).toList[i]? =some (z[i%z.size]!):=by
 unfold madeCells;rw[Array.getElem?_toList,Array.getElem?_map];simp[h]
theorem RB.made{w:World}{base g n:Nat}(h:w.ownsRow base 105 4 (.slice (some ⟨g,0,none⟩) n n) n (madeCells (Value.agg #[.bool false, .slice none 0 0, .bool false, .slice none 0 0]).cells (n*4)).toList):RB w g n (fun _=>0):=by
 rcases h.2 with ⟨t,_⟩ | ⟨g',cap,E,t,_,M,_,_,F,O⟩
 ·simp at t
 ·simp only[Value.slice.injEq,Option.some.injEq,Addr.mk.injEq,and_true,true_and] at t;obtain⟨rfl,rfl⟩:=t
  have G:E.toList=(madeCells (Value.agg #[.bool false, .slice none 0 0, .bool false, .slice none 0 0]).cells (n*4)).toList:=by
   rw[<- O,List.take_of_length_le];rw[Array.length_toList,F];exact Nat.le_refl _
  refine⟨E.toList,?_,?_,fun j R=> ?_⟩
  ·unfold Row;rw[M]
  ·rw[Array.length_toList,F];exact Nat.le_refl _
  ·rw[G];refine⟨false,none,0,0,false,none,0,0,?_,?_,?_,?_,eO.jU w⟩
   ·rw[sN _ _ _ oM];simp[Value.cells,show j*4%4=0 by omega]
   ·rw[sN _ _ _ oM];simp[Value.cells,show(j*4+1)%4=1 by omega]
   ·rw[sN _ _ _ oM];simp[Value.cells,show(j*4+2)%4=2 by omega]
   ·rw[sN _ _ _ oM];simp[Value.cells,show(j*4+3)%4=3 by omega]
theorem pu(w:World){ops:Array Oper}{rest:List Oper}{o:Oper}{a:Act}{Q:Exit -> Act -> World -> Prop}
  (M:o.guard=none) (l c:Operand) (U:o.op=Op.makeSlice 95 l c) (L C:Int) (n:Nat) (T:a.eval l= .int .i64 L) (G:a.eval c= .int .i64 C) (F:L=(n:Int)) (t:C=(n:Int)) (b2:n <= 4398046511104)
  (E:∀w',RB w' w.heap.size n (fun _=>0) -> Below w.heap.size w w' -> w.heap.size<w'.heap.size -> wpList prog ops Q rest (a.put o.dst (.slice (some ⟨w.heap.size,0,none⟩) n n)) w'):
  wpList prog ops Q (o::rest) a w:=by
 obtain⟨i,R,Y,Z,a0⟩:=info_parts qM;refine wpList_make_full w M l c _ U w.heap.size _ i _ 4 underlying95 R Y Z .i64 .i64 L C n T G F t (by rw[a0];omega) (by unfold maxLen;omega) (Nat.le_refl _) ?_;intro w' X O;have h:=RB.made X;exact E w' h ((Below.refl _ _).grown O (Nat.le_refl _) (by simp)) h.lt
end
section
open Go.RowKit
open Lp (RL upd eu)
theorem sO{w:World}{base t:Nat}{e:TypeId}{size:Nat}{v:Value}{n:Nat}{xs:List Value}(h:w.ownsRow base e size v n xs)(M:t <= base):w.ownsRow t e size v n xs:=by
 refine⟨h.1,?_⟩
 rcases h.2 with O | ⟨g,cap,E,h1,F,G⟩
 ·exact .inl O
 ·exact .inr ⟨g,cap,E,h1,Nat.le_trans M F,G⟩
structure Turned (w w':World) (v v':Value):Prop where
 grown:w.grownBy w' v.ownBlock
 own:v'.ownBlock=v.ownBlock \/ ∃g,v'.ownBlock=some g /\ w.heap.size <= g
theorem FT{w w':World}(h:w.grownBy w' none)(r:Option Nat):w.grownBy w' r:=⟨h.os,h.tape,h.output,h.size,fun k t _=>h.block k t (by simp)⟩
theorem add0(g j:Nat):(⟨g,0,none⟩:Addr).add j=⟨g,j,none⟩:=by
 unfold Addr.add;by_cases h:j=0
 ·subst h;simp
 ·simp[h]
theorem FU{P:Program}(w:World)(t ty:TypeId)(e:TypeId)(i:TypeInfo)(z:Value)(size R:Nat)(ht:P.underlying t=some (.slice e))(U: P.info? e=some i)(hz:i.zero=some z)
  (Z:i.size=size) (a1:i.bytes=R) (a5:z.cells.size=size) (a4:0<size)
  (v:Value) (n:Nat) (xs:List Value) (M:w.ownsRow 0 e size v n xs)
  (F:Addr) (m c:Nat) (E:List Value) (X:E.length=m*size) (Y:∀j u,E[j]? =some u -> w.cell? (F.add j)=some u) (h1:∀u ∈ E,u.oneCell'=true)
  (a0:n+m <= maxLen) (a2:(n+m)*R <= 140737488355328):
  ∃v' w',(Builtin.append_ #[t,t] ty #[v, .slice (some F) m c]).run P w= .ok v' w' /\ w'.ownsRow 0 e size v' (n+m) (xs++E) /\ Turned w w' v v':=by
 have a3:=M
 rcases M.2 with ⟨rfl,rfl⟩ | ⟨g,cap,a7,rfl,_,hg,h2,h3,h4,h5⟩
 ·obtain⟨v',w',O,h,G,_⟩:=run_append_own (P:=P) w w.heap.size t ty e i z size R ht U hz Z a1 a5 a4 (.slice none 0 0) 0 xs ⟨M.1, .inl ⟨rfl,rfl⟩⟩ F m c E X Y h1 a0 a2 (Nat.le_refl _);refine⟨v',w',O,sO h (Nat.zero_le _),G,?_⟩
  rcases T:v'.ownBlock with _ | g
  ·exact .inl rfl
  ·exact .inr ⟨g,rfl,(h.lt g T).1⟩
 ·by_cases hc:n+m <= cap
  ·obtain⟨w',O,h,G⟩:=run_append_fits (P:=P) w 0 t ty e i size ht U Z g n cap xs a3 F m c E X Y h1 hc;exact⟨_,w',O,h,G, .inl rfl⟩
  ·obtain⟨v',w',O,h,G⟩:=run_append_arg_grows (P:=P) w t ty e i z size R ht U hz Z a1 a5 a4 ⟨g,0,none⟩ n cap xs M.1 (by
    intro j u hu;have hj:j<n*size:=by rw[<- M.1];exact(List.getElem?_eq_some_iff.1 hu).1
    have:=World.ownsRow.cellAt a3 j hj
    rw[add0,this];exact hu) F m c E X Y oM a0 a2
   refine⟨v',w',O,sO h (Nat.zero_le _),FT G _,?_⟩
   rcases h.2 with ⟨_,h0⟩ | ⟨g',a6,a8,hv,T,_⟩
   ·omega
   ·subst hv;exact .inr ⟨g',rfl,T⟩
theorem lW{P:Program}(w:World){o:Oper}{a:Act}{K:Act -> World -> Prop}{Q:Exit -> Act -> World -> Prop}(s x:Operand)(t:TypeId)
  (ho:o.op= .call {callee:= .builtin .append,args:= #[s,x],argTypes:= #[t,t]})
  (e:TypeId) (i:TypeInfo) (z:Value) (size G:Nat) (ht:P.underlying t=some (.slice e)) (X: P.info? e=some i) (hz:i.zero=some z)
  (a2:i.size=size) (T:i.bytes=G) (a4:z.cells.size=size) (a3:0<size)
  (v:Value) (n:Nat) (xs:List Value) (hs:a.eval s=v) (a0:w.ownsRow 0 e size v n xs)
  (F:Addr) (m c:Nat) (E:List Value) (hx:a.eval x= .slice (some F) m c) (Y:E.length=m*size) (Z:∀j u,E[j]? =some u -> w.cell? (F.add j)=some u) (h1:∀u ∈ E,u.oneCell'=true)
  (R:n+m <= maxLen) (U:(n+m)*G <= 140737488355328)
  (h:∀v' w',w'.ownsRow 0 e size v' (n+m) (xs++E) -> Turned w w' v v' -> K (a.put o.dst v') w'):Oper.wp P o a w K Q:=by
 obtain⟨v',w',a1,M,O⟩:=FU (P:=P) w t o.type e i z size G ht X hz a2 T a4 a3 v n xs a0 F m c E Y Z h1 R U;unfold Oper.wp;simp[execOp,ho,resolve,invoke,builtin,hs,hx,a1,Result.andThen];exact h v' w' M O
section
variable {w w':World} {v v':Value} {e:TypeId} {size n:Nat} {xs:List Value}
theorem qN(h:w.ownsRow 0 e size v n xs){g:Nat}(t:v.ownBlock=some g):∃cs,Row w g e cs:=by
 rcases h.2 with ⟨rfl,_⟩ | ⟨g',cap,E,rfl,_,F,_⟩
 ·simp[Value.ownBlock] at t
 ·simp only[Value.ownBlock,Option.some.injEq] at t;subst t;exact⟨E.toList,by unfold Row;simpa using F⟩
theorem Turned.below(h:Turned w w' v v'){B:Nat}(E:B <= w.heap.size)(t:∀g,v.ownBlock=some g -> B <= g):Below B w w':=
 ⟨h.grown.os,h.grown.tape,h.grown.output,h.grown.size,fun k F=>h.grown.block k oM fun e=>by have:=t k e.symm;omega⟩
theorem Turned.base(E:Turned w w' v v'){B:Nat}(G:B <= w.heap.size)(F:∀g,v.ownBlock=some g -> B <= g):∀g,v'.ownBlock=some g -> B <= g:=by
 intro g t
 rcases E.own with h | ⟨g',h,M⟩
 ·exact F g (h ▸ t)
 ·rw[t] at h;simp only[Option.some.injEq] at h;omega
theorem Turned.apart(t:Turned w w' v v'){k:Nat}(G:k<w.heap.size)(E:v.ownBlock≠some k):v'.ownBlock≠some k:=by
 rcases t.own with h | ⟨g',h,F⟩
 ·rw[h];exact E
 ·rw[h];simp;omega
theorem eO.turned{u:Value}{q:Rat}(h:eO w u q)(t:Turned w w' v v')(F:w.ownsRow 0 e size v n xs)(E:e≠160):eO w' u q:=by
 rcases hb:v.ownBlock with _ | g
 ·exact h.below (t.below (Nat.le_refl _) (by rw[hb];simp))
 ·obtain⟨cs,G⟩:=qN F hb;have:=t.grown;rw[hb] at this;exact h.other this G E
theorem Row.turned{g:Nat}{e':TypeId}{cs:List Value}(h:Row w g e' cs)(E:Turned w w' v v')(t:v.ownBlock≠some g):Row w' g e' cs:=(E.grown.block g h.lt (fun e=>t e.symm)).trans h
theorem kw.turned{b o:Nat}{x y z u:Value}(h:kw w b o x y z u)(E:Turned w w' v v')(t:v.ownBlock≠some b):kw w' b o x y z u:=
 ⟨E.grown.cell h.1 (fun e=>t e.symm),E.grown.cell h.2.1 (fun e=>t e.symm),E.grown.cell h.2.2.1 (fun e=>t e.symm),E.grown.cell h.2.2.2 (fun e=>t e.symm)⟩
theorem RB.turned{g k:Nat}{f:Nat -> Rat}(h:RB w g k f)(E:Turned w w' v v')(Z:w.ownsRow 0 e size v n xs)(T:e≠160)(Y:v.ownBlock≠some g):RB w' g k f:=by
 obtain⟨cs,hr,X,R⟩:=h;refine⟨cs,hr.turned E Y,X,fun j U=> ?_⟩;obtain⟨s,A,l,c,t,B,m,d,h1,F,G,M,O⟩:=R j U;exact⟨s,A,l,c,t,B,m,d,h1,F,G,M,O.turned E Z T⟩
end
def eY(w:World)(v:Value)(e:TypeId)(k:Nat)(p:Nat -> Value -> Prop):Prop:=∃xs,w.ownsRow 0 e 1 v k xs /\ ∀j,j<k -> ∃u,xs[j]? =some u /\ p j u
def gH(w:World)(v:Value)(k:Nat)(f:Nat -> Rat):Prop:=∃xs,w.ownsRow 0 105 4 v k xs /\ ∀j,j<k -> ∃s A l c t B m d,xs[j*4]? =some (.bool s) /\ xs[j*4+1]? =some (.slice A l c) /\ xs[j*4+2]? =some (.bool t) /\ xs[j*4+3]? =some (.slice B m d) /\
  eO w (.agg #[.bool s, .slice A l c, .bool t, .slice B m d]) (f j)
section
variable {w w':World} {v v' u u':Value} {e e':TypeId} {k k':Nat} {p p':Nat -> Value -> Prop} {f f':Nat -> Rat}
theorem eY.nil(w:World)(e:TypeId)(p:Nat -> Value -> Prop):eY w (.slice none 0 0) e 0 p:=⟨[],World.ownsRow_nil _ _ _ _,fun j h=>absurd h oM⟩
theorem gH.nil(w:World)(f:Nat -> Rat):gH w (.slice none 0 0) 0 f:=⟨[],World.ownsRow_nil _ _ _ _,fun j h=>absurd h oM⟩
theorem lI{size n:Nat}{xs:List Value}{r:Option Nat}(h:w.ownsRow 0 e size v n xs)(t:w.grownBy w' r)(E:∀g,v.ownBlock=some g -> r≠some g):w'.ownsRow 0 e size v n xs:=by
 refine h.kept t ?_
 rcases hb:v.ownBlock with _ | g
 ·exact .inl rfl
 ·exact .inr (fun e=>E g hb e.symm)
theorem eY.grown{r:Option Nat}(h:eY w v e k p)(t:w.grownBy w' r)(E:∀g,v.ownBlock=some g -> r≠some g):eY w' v e k p:=by
 obtain⟨xs,F,G⟩:=h;exact⟨xs,lI F t E,G⟩
theorem below_grown(h:Below w.heap.size w w'):w.grownBy w' none:=⟨h.os,h.tape,h.output,h.size,fun k t _=>h.block k t⟩
theorem eY.below(h:eY w v e k p)(t:Below w.heap.size w w'):eY w' v e k p:=h.grown (below_grown t) (by simp)
theorem gH.below(h:gH w v k f)(E:Below w.heap.size w w'):gH w' v k f:=by
 obtain⟨xs,T,U⟩:=h;refine⟨xs,lI T (below_grown E) (by simp),fun j R=> ?_⟩;obtain⟨s,A,l,c,t,B,m,d,h1,F,G,M,O⟩:=U j R;exact⟨s,A,l,c,t,B,m,d,h1,F,G,M,O.below E⟩
theorem eY.other{g:Nat}(h:eY w v e k p)(E:w.grownBy w' (some g))(F:v.ownBlock≠some g):eY w' v e k p:=h.grown E (fun g' t e=>F (by rw[t];exact e.symm))
theorem gH.other{g:Nat}{cs:List Value}(h:gH w v k f)(E:w.grownBy w' (some g))(hr:Row w g e cs)(T:e≠160)(X:v.ownBlock≠some g):gH w' v k f:=by
 obtain⟨xs,Y,Z⟩:=h;refine⟨xs,lI Y E (fun g' R e=>X (by rw[R];exact e.symm)),fun j U=> ?_⟩;obtain⟨s,A,l,c,t,B,m,d,h1,F,G,M,O⟩:=Z j U;exact⟨s,A,l,c,t,B,m,d,h1,F,G,M,O.other E hr T⟩
theorem eY.lt(h:eY w v e k p){g:Nat}(t:v.ownBlock=some g):g<w.heap.size:=by obtain⟨xs,E,_⟩:=h;exact(E.lt g t).2
theorem gH.lt(h:gH w v k f){g:Nat}(t:v.ownBlock=some g):g<w.heap.size:=by obtain⟨xs,E,_⟩:=h;exact(E.lt g t).2
theorem eY.row(h:eY w v e k p){g:Nat}(t:v.ownBlock=some g):∃cs,Row w g e cs:=by obtain⟨xs,E,_⟩:=h;exact qN E t
theorem gH.row(h:gH w v k f){g:Nat}(t:v.ownBlock=some g):∃cs,Row w g 105 cs:=by obtain⟨xs,E,_⟩:=h;exact qN E t
theorem zl(h:∀g,v.ownBlock=some g -> ∃cs,Row w g e cs)(t:∀g,u.ownBlock=some g -> ∃cs,Row w g e' cs)(F:e≠e'):∀g,v.ownBlock=some g -> u.ownBlock≠some g:=fun g G M=>by
 obtain⟨_,h1⟩:=h g G;obtain⟨_,E⟩:=t g M;exact F (h1.ty E)
theorem eY.turned(h:eY w v e k p)(E:Turned w w' u u')(t:∀g,v.ownBlock=some g -> u.ownBlock≠some g):eY w' v e k p:=h.grown E.grown t
theorem gH.turned{size n:Nat}{xs:List Value}(h:gH w v k f)(E:Turned w w' u u')(Z:w.ownsRow 0 e size u n xs)(R:e≠160)(U:∀g,v.ownBlock=some g -> u.ownBlock≠some g):gH w' v k f:=by
 obtain⟨xs,X,Y⟩:=h;refine⟨xs,lI X E.grown U,fun j T=> ?_⟩;obtain⟨s,A,l,c,t,B,m,d,h1,F,G,M,O⟩:=Y j T;exact⟨s,A,l,c,t,B,m,d,h1,F,G,M,O.turned E Z R⟩
theorem sP{size n:Nat}{xs:List Value}(h:w.ownsRow 0 e size v n xs):∃A c,v= .slice A n c /\ n <= c /\ c <= maxLen:=by
 rcases h.2 with ⟨rfl,rfl⟩ | ⟨g,cap,F,rfl,_,_,t,E,_⟩
 ·exact⟨none,0,rfl,Nat.le_refl _,Nat.zero_le _⟩
 ·exact⟨_,_,rfl,t,E⟩
theorem eY.shape(h:eY w v e k p):∃A c,v= .slice A k c /\ k <= c /\ c <= maxLen:=by obtain⟨xs,t,_⟩:=h;exact sP t
theorem gH.shape(h:gH w v k f):∃A c,v= .slice A k c /\ k <= c /\ c <= maxLen:=by obtain⟨xs,t,_⟩:=h;exact sP t
theorem eY.done(h:eY w v e k p)(X:0<k):∃g c cs,v= .slice (some ⟨g,0,none⟩) k c /\ Row w g e cs /\ k <= cs.length /\ ∀j,j<k -> ∃u,cs[j]? =some u /\ p j u:=by
 obtain⟨xs,M,O⟩:=h
 rcases M.2 with ⟨_,h0⟩ | ⟨g,cap,E,rfl,_,F,t,U,R,T⟩
 ·omega
 ·refine⟨g,cap,E.toList,rfl,by unfold Row;simpa using F,by rw[Array.length_toList,R];omega,fun j G=> ?_⟩;obtain⟨u,h1,t⟩:=O j G;refine⟨u,?_,t⟩;rw[<- T,List.getElem?_take,if_pos oM] at h1;exact h1
theorem gH.done(h:gH w v k f)(hk:0<k):∃g c,v= .slice (some ⟨g,0,none⟩) k c /\ RB w g k f:=by
 obtain⟨xs,U,X⟩:=h
 rcases U.2 with ⟨_,h0⟩ | ⟨g,cap,M,rfl,_,R,E,F,Y,Z⟩
 ·omega
 ·refine⟨g,cap,rfl,M.toList,by unfold Row;simpa using R,by rw[Array.length_toList,Y];omega,fun j T=> ?_⟩;obtain⟨s,A,l,c,t,B,m,d,h1,E,F,G,O⟩:=X j T;rw[<- Z,List.getElem?_take,if_pos oM] at h1 E F G;exact⟨s,A,l,c,t,B,m,d,h1,E,F,G,O⟩
theorem gH.ky(h:gH w v k f):eZ w v k f:=by
 obtain⟨A,c,E,h1,F⟩:=h.shape;refine⟨A,c,E,h1,F,?_⟩
 rcases Nat.eq_zero_or_pos k with h0 | h0
 ·exact .inl h0
 ·obtain⟨g,c',t,G⟩:=h.done h0;rw[E] at t;simp only[Value.slice.injEq,true_and] at t;exact .inr ⟨g,t.1,G⟩
end
theorem qO{P:Program}(w:World){o:Oper}{a:Act}{K:Act -> World -> Prop}{Q:Exit -> Act -> World -> Prop}(s x:Operand)(t:TypeId)
  (ho:o.op= .call {callee:= .builtin .append,args:= #[s,x],argTypes:= #[t,t]})
  (e:TypeId) (i:TypeInfo) (z:Value) (O:Nat) (ht:P.underlying t=some (.slice e)) (hi: P.info? e=some i) (hz:i.zero=some z)
  (a4:i.size=1) (Z:i.bytes=O) (a5:z.cells.size=1)
  (v:Value) (k:Nat) (p:Nat -> Value -> Prop) (hs:a.eval s=v) (a1:eY w v e k p)
  (u:Value) (h1:u.oneCell'=true) (hp:p k u) (hx:a.eval x= .slice (some ⟨w.heap.size,0,none⟩) 1 1)
  (U:k+1 <= maxLen /\ (k+1)*O <= 140737488355328)
  (h:∀v' w',eY w' v' e (k+1) p -> Turned w w' v v' -> K (a.put o.dst v') w'):Oper.wp P o a (w.alloc (.cells #[u] e)) K Q:=by
 obtain⟨xs,X,a3⟩:=a1;have E:=eD w (.cells #[u] e);have hr:Row (w.alloc (.cells #[u] e)) w.heap.size e [u]:=eP _ _;refine lW _ s x t ho e i z 1 O ht hi hz a4 Z a5 dC v k xs hs (lI X (below_grown E) (by simp)) ⟨w.heap.size,0,none⟩ 1 1 [u] hx rfl ?_ ?_ U.1 U.2 ?_
 ·intro j y M
  rcases j with _ | j
  ·simp only[List.getElem?_cons_zero,Option.some.injEq] at M;subst M;exact hr.at_ 0 rfl
  ·simp at M
 ·intro y Y;simp only[List.mem_singleton] at Y;subst Y;exact h1
 ·intro v' w' a2 F;refine h v' w' ⟨_,a2,fun j M=> ?_⟩ ⟨⟨F.grown.os.trans E.os,F.grown.tape.trans E.tape,F.grown.output.trans E.output,Nat.le_trans E.size F.grown.size,fun k T a0=>(F.grown.block k (Nat.lt_of_lt_of_le T E.size) a0).trans (E.block k T)⟩,?_⟩
  ·have hl:xs.length=k:=by have:=X.1;omega
   by_cases e:j=k
   ·subst e;exact⟨u,by rw[List.getElem?_append_right oM,hl];simp,hp⟩
   ·obtain⟨y,G,R⟩:=a3 j oM;exact⟨y,by rw[List.getElem?_append_left oM];exact G,R⟩
  ·rcases F.own with G | ⟨g,G,R⟩
   ·exact .inl G
   ·exact .inr ⟨g,G,Nat.le_trans E.size R⟩
theorem zm(w:World){o:Oper}{a:Act}{K:Act -> World -> Prop}{Q:Exit -> Act -> World -> Prop}(s x:Operand)
  (ho:o.op= .call {callee:= .builtin .append,args:= #[s,x],argTypes:= #[95,95]})
  (v:Value) (k:Nat) (f:Nat -> Rat) (hs:a.eval s=v) (a1:gH w v k f)
  (s':Bool) (A:Option Addr) (l c:Nat) (F:Bool) (B:Option Addr) (m d:Nat) (hq:eO w (.agg #[.bool s', .slice A l c, .bool F, .slice B m d]) (f k)) (hx:a.eval x= .slice (some ⟨w.heap.size,0,none⟩) 1 1)
  (a8:k <= 1000000000000)
  (h:∀v' w',gH w' v' (k+1) f -> Turned w w' v v' -> K (a.put o.dst v') w'):Oper.wp prog o a (w.alloc (.cells #[.bool s', .slice A l c, .bool F, .slice B m d] 105)) K Q:=by
 obtain⟨i,hi,a5,a6,a7⟩:=info_parts qM;obtain⟨xs,T,a3⟩:=a1;obtain⟨u,G⟩:∃u:List Value,u= [.bool s', .slice A l c, .bool F, .slice B m d]:=⟨_,rfl⟩
 have t:=eD w (.cells #[.bool s', .slice A l c, .bool F, .slice B m d] 105);have hr:Row (w.alloc (.cells #[.bool s', .slice A l c, .bool F, .slice B m d] 105)) w.heap.size 105 [.bool s', .slice A l c, .bool F, .slice B m d]:=eP _ _;have hl:xs.length=k*4:=T.1;have a4:u.length=4:=by rw[G];rfl
 refine lW _ s x _ ho _ i _ 4 64 underlying95 hi a5 a6 a7 rfl dC v k xs hs (lI T (below_grown t) (by simp)) ⟨w.heap.size,0,none⟩ 1 1 u hx a4 ?_ ?_ (by unfold maxLen;omega) oM ?_
 ·intro j y R;rw[add0];rw[G] at R;exact hr.at_ j R
 ·intro y U;rw[G] at U;simp only[List.mem_cons,List.not_mem_nil,or_false] at U;rcases U with rfl | rfl | rfl | rfl <;> rfl
 ·intro v' w' a2 E;have Y:(w.alloc (.cells #[.bool s', .slice A l c, .bool F, .slice B m d] 105)).ownsRow 0 105 4 v k xs:=lI T (below_grown t) (by simp);refine h v' w' ⟨_,a2,fun j R=> ?_⟩ ⟨⟨E.grown.os.trans t.os,E.grown.tape.trans t.tape,E.grown.output.trans t.output,Nat.le_trans t.size E.grown.size,fun k X a0=>(E.grown.block k (Nat.lt_of_lt_of_le X t.size) a0).trans (t.block k X)⟩,?_⟩
  ·by_cases e:j=k
   ·subst e;refine⟨s',A,l,c,F,B,m,d,?_,?_,?_,?_,(hq.below t).turned E Y ic⟩
    ·rw[List.getElem?_append_right oM,show j*4-xs.length=0 by omega,G];rfl
    ·rw[List.getElem?_append_right oM,show j*4+1-xs.length=1 by omega,G];rfl
    ·rw[List.getElem?_append_right oM,show j*4+2-xs.length=2 by omega,G];rfl
    ·rw[List.getElem?_append_right oM,show j*4+3-xs.length=3 by omega,G];rfl
   ·obtain⟨s1,Z,l1,c1,t1,B1,m1,d1,h1,M,O,h4,h5⟩:=a3 j oM;exact⟨s1,Z,l1,c1,t1,B1,m1,d1,by rw[List.getElem?_append_left oM];exact h1,by rw[List.getElem?_append_left oM];exact M,by rw[List.getElem?_append_left oM];exact O,by rw[List.getElem?_append_left oM];exact h4,(h5.below t).turned E Y ic⟩
  ·rcases E.own with M | ⟨g,M,O⟩
   ·exact .inl M
   ·exact .inr ⟨g,M,Nat.le_trans t.size O⟩
theorem FV(w:World){o:Oper}{a:Act}{K:Act -> World -> Prop}{Q:Exit -> Act -> World -> Prop}(s x:Operand)
  (Z:o.op= .call {callee:= .builtin .append,args:= #[s,x],argTypes:= #[95,95]})
  (t n:Nat) (f:Nat -> Rat) (A:Option Addr) (c B:Nat) (hs:a.eval s= .slice (some ⟨t,0,none⟩) 0 0) (hE:Row w t 105 []) (an:B <= t)
  (hx:a.eval x= .slice A n c) (hr:eZ w (.slice A n c) n f) (ai:A=none -> c=0) (hn:n <= 1000000000000)
  (h:∀A' c' w',n <= c' -> c' <= maxLen -> (0<n -> ∃g,A'=some ⟨g,0,none⟩ /\ w.heap.size <= g /\ RB w' g n f) -> Below B w w' -> K (a.put o.dst (.slice A' n c')) w'):Oper.wp prog o a w K Q:=by
 obtain⟨i,Y,a9,aa,ab⟩:=info_parts qM;have ao:=hE.lt;have a8:w.ownsRow 0 105 4 (.slice (some ⟨t,0,none⟩) 0 0) 0 []:=⟨rfl, .inr ⟨t,0, #[],rfl,Nat.zero_le _,hE,Nat.le_refl _,Nat.zero_le _,rfl,rfl⟩⟩
 rcases Nat.eq_zero_or_pos n with h0 | h0
 ·subst h0;have aq:w.grownBy w (some t):=⟨rfl,rfl,rfl,Nat.le_refl _,fun _ _ _=>rfl⟩;cases A with
  | none=>
   have hc:=ai rfl;subst hc;have a0:=run_append_owned_none (P:=prog) w 0 95 o.type 105 i 4 underlying95 Y _ 0 [] a8;unfold Oper.wp;simp[execOp,Z,resolve,invoke,builtin,hs,hx,a0,Result.andThen];exact h _ _ w (Nat.le_refl _) (Nat.zero_le _) (fun h=>absurd h oM) ((Below.refl _ _).mono oM)
  | some ad=>
   refine lW w s x _ Z _ i _ 4 64 underlying95 Y a9 aa ab rfl dC _ 0 [] hs a8 ad 0 c [] hx rfl (by simp) (by simp) (by unfold maxLen;omega) oM ?_;intro v' w' R al;obtain⟨A',c',F,h1,X⟩:=sP R;subst F;refine h A' c' w' (Nat.zero_le _) X (fun h=>absurd h oM) (al.below oM ?_);intro g hg;simp only[Value.ownBlock,Option.some.injEq] at hg;omega
 ·obtain⟨g,rfl,aj⟩:∃g,A=some ⟨g,0,none⟩ /\ RB w g n f:=by
   obtain⟨A',c',F,_,_,E⟩:=hr;simp only[Value.slice.injEq,true_and] at F;obtain⟨rfl,rfl⟩:=F
   rcases E with E | E
   ·omega
   ·exact E
  obtain⟨cs,ak,ap,ac⟩:=aj;have a7:(cs.take (n*4)).length=n*4:=by rw[List.length_take];omega
  have ah:∀j y,(cs.take (n*4))[j]? =some y -> w.cell? ((⟨g,0,none⟩:Addr).add j)=some y:=by
   intro j y M;have ag:j<n*4:=by rw[<- a7];exact(List.getElem?_eq_some_iff.1 M).1
   rw[List.getElem?_take,if_pos ag] at M;rw[add0];exact ak.at_ j M
  obtain⟨v',w',a0,R,G⟩:=run_append_arg_grows (P:=prog) w 95 o.type 105 i _ 4 64 underlying95 Y a9 aa ab rfl dC ⟨t,0,none⟩ 0 0 [] rfl (by simp) ⟨g,0,none⟩ n c (cs.take (n*4)) a7 ah oM (by unfold maxLen;omega) oM;rw[Nat.zero_add] at R;have a6:Below w.heap.size w w':=⟨G.os,G.tape,G.output,G.size,fun k O=>G.block k O (by simp)⟩
  rcases R.2 with ⟨_,e0⟩ | ⟨g',am,U,F,af,ae,X,E,h4,h5⟩
  ·omega
  ·subst F;unfold Oper.wp;simp[execOp,Z,resolve,invoke,builtin,hs,hx,a0,Result.andThen];refine h _ _ w' X E (fun _=>⟨g',rfl,af,U.toList,by unfold Row;simpa using ae,by rw[Array.length_toList,h4];omega,fun j M=> ?_⟩) (a6.mono oM);obtain⟨s1,A1,l1,c1,t1,B1,m1,d1,a1,a2,a3,a4,a5⟩:=ac j M
   have T:∀k u,k<n*4 -> cs[k]? =some u -> U.toList[k]? =some u:=by
    intro k u O hu;have e1:(U.toList.take (n*4))[k]? =(cs.take (n*4))[k]? :=by rw[h5];simp
    rw[List.getElem?_take,if_pos O,List.getElem?_take,if_pos O] at e1;rw[e1];exact hu
   exact⟨s1,A1,l1,c1,t1,B1,m1,d1,T _ _ oM a1,T _ _ oM a2,T _ _ oM a3,T _ _ oM a4,a5.below a6⟩
theorem nX(w:World){o:Oper}{a:Act}{K:Act -> World -> Prop}{Q:Exit -> Act -> World -> Prop}
  (l c:Operand) (R:o.op=Op.makeSlice 95 l c) (L C:Int) (n:Nat) (O:a.eval l= .int .i64 L) (G:a.eval c= .int .i64 C) (F:L=(n:Int)) (t:C=(n:Int)) (b2:n <= 4398046511104)
  (E:∀w',RB w' w.heap.size n (fun _=>0) -> Below w.heap.size w w' -> w.heap.size<w'.heap.size -> K (a.put o.dst (.slice (some ⟨w.heap.size,0,none⟩) n n)) w'):
  Oper.wp prog o a w K Q:=by
 obtain⟨i,M,U,X,Y⟩:=info_parts qM;obtain⟨w',T,Z,r2⟩:=run_make_full (P:=prog) w w.heap.size _ _ i _ 4 underlying95 M U X .i64 .i64 n (by rw[Y];omega) (by unfold maxLen;omega) (Nat.le_refl _);subst F;subst t;unfold Oper.wp;simp[execOp,R,O,G,T,Result.andThen];have h:=RB.made Z;exact E w' h ((Below.refl _ _).grown r2 (Nat.le_refl _) (by simp)) h.lt
theorem jL{P:Program}{ops:Array Oper}{Q:Exit -> Act -> World -> Prop}{md:Region.Mode}{S:World -> Prop}{late:Nat -> Bool}{fuel:Nat}{listed:Array Bool}{a:Act}{w:World}(i:Nat){o:Oper}
  (G:Region.ready md ops listed= [i]) (F:ops[i]? =some o) (M:Region.wanted o (yielded ops a.tmps)=true)
  (h:∀t:Act -> World -> Prop,Shut (∀a w,(late i=false -> S w) -> gF P md ops Q S late fuel (listed.setIfInBounds i true) a w -> t a w) -> Oper.wp P o a w t Q):gF P md ops Q S late (fuel+1) listed a w:=
 lw G (by simp) (gG.cons F (fun K E=>by rw[if_pos M];exact h K E) gG.nil)
theorem zn:(prog.info? 3).map (fun i=>(i.zero,i.size,i.bytes))=some (some (.int .i64 0),1,8):=by kernel_rfl
theorem zo:(prog.info? 95).map (fun i=>(i.zero,i.size,i.bytes))=some (some (.slice none 0 0),1,24):=by kernel_rfl
end
section
open Go.RowKit
open Lp (RL upd eu)
def TS(w:World)(v:Value)(n:Nat)(s:Nat -> ByteArray):Prop:=∃A c,v= .slice A n c /\ n <= c /\ c <= maxLen /\ (n=0 \/ ∃g o,A=some ⟨g,o,none⟩ /\ ∀j,j<n -> w.cell? ⟨g,o+j,none⟩=some (.string (s j)))
def fZ(w:World)(v:Value)(m:Nat)(k:Nat -> Nat)(s:Nat -> Nat -> ByteArray)(b:Nat -> ByteArray):Prop:=
 ∃A c,v= .slice A m c /\ m <= c /\ c <= maxLen /\ (m=0 \/ ∃g o,A=some ⟨g,o,none⟩ /\ ∀i,i<m -> ∃u,w.cell? ⟨g,o+i*2,none⟩=some u /\ w.cell? ⟨g,o+i*2+1,none⟩=some (.string (b i)) /\ TS w u (k i) (s i))
def iD(w:World)(v:Value)(m n:Nat)(A:Nat -> Nat -> Rat):Prop:=
 ∃A' c,v= .slice A' m c /\ m <= c /\ c <= maxLen /\ (m=0 \/ ∃g,A'=some ⟨g,0,none⟩ /\ ∀i,i<m -> ∃X x,w.cell? ⟨g,i,none⟩=some (.slice X n x) /\ (X=none -> x=0) /\ eZ w (.slice X n x) n (A i))
section
variable {w w':World} {v:Value} {n m:Nat} {s:Nat -> ByteArray}
theorem TS.below(h:TS w v n s)(G:Below w.heap.size w w'):TS w' v n s:=by
 obtain⟨A,c,R,h1,t,E⟩:=h;exact⟨A,c,R,h1,t,E.imp id fun⟨g,o,F,M⟩=>⟨g,o,F,fun j O=>cell_below G (M j O)⟩⟩
theorem fZ.below{k:Nat -> Nat}{t:Nat -> Nat -> ByteArray}{b:Nat -> ByteArray}(h:fZ w v m k t b)(E:Below w.heap.size w w'):fZ w' v m k t b:=by
 obtain⟨A,c,Y,h1,O,R⟩:=h;refine⟨A,c,Y,h1,O,R.imp id fun⟨g,o,T,U⟩=>⟨g,o,T,fun i X=> ?_⟩⟩;obtain⟨u,F,G,M⟩:=U i X;exact⟨u,cell_below E F,cell_below E G,M.below E⟩
theorem iD.below{A:Nat -> Nat -> Rat}(h:iD w v m n A)(t:Below w.heap.size w w'):iD w' v m n A:=by
 obtain⟨A',c,Y,h1,M,O⟩:=h;refine⟨A',c,Y,h1,M,O.imp id fun⟨g,R,T⟩=>⟨g,R,fun i U=> ?_⟩⟩;obtain⟨X,x,E,F,G⟩:=T i U;exact⟨X,x,cell_below t E,F,G.below t⟩
theorem TS.congr{s':Nat -> ByteArray}(h:TS w v n s)(O:∀j,j<n -> s j=s' j):TS w v n s':=by
 obtain⟨A,c,R,h1,E,F⟩:=h;exact⟨A,c,R,h1,E,F.imp id fun⟨g,o,G,M⟩=>⟨g,o,G,fun j t=>by rw[<- O j t];exact M j t⟩⟩
theorem TS.shape(h:TS w v n s):∃A c,v= .slice A n c /\ n <= c /\ c <= maxLen:=by obtain⟨A,c,E,h1,t,_⟩:=h;exact⟨A,c,E,h1,t⟩
theorem fZ.shape{k:Nat -> Nat}{t:Nat -> Nat -> ByteArray}{b:Nat -> ByteArray}(h:fZ w v m k t b):∃A c,v= .slice A m c /\ m <= c /\ c <= maxLen:=by obtain⟨A,c,F,h1,E,_⟩:=h;exact⟨A,c,F,h1,E⟩
theorem iD.shape{A:Nat -> Nat -> Rat}(h:iD w v m n A):∃A c,v= .slice A m c /\ m <= c /\ c <= maxLen:=by obtain⟨A,c,E,h1,t,_⟩:=h;exact⟨A,c,E,h1,t⟩
theorem eZ.shape{f:Nat -> Rat}(h:eZ w v n f):∃A c,v= .slice A n c /\ n <= c /\ c <= maxLen:=by obtain⟨A,c,E,h1,t,_⟩:=h;exact⟨A,c,E,h1,t⟩
theorem TS.at_{A:Option Addr}{c:Nat}(h:TS w (.slice A n c) n s)(F:0<n):∃g o,A=some ⟨g,o,none⟩ /\ ∀j,j<n -> w.cell? ⟨g,o+j,none⟩=some (.string (s j)):=by
 obtain⟨A',c',E,_,_,t⟩:=h;simp only[Value.slice.injEq,true_and] at E;obtain⟨rfl,rfl⟩:=E
 rcases t with t | t
 ·omega
 ·exact t
theorem eZ.at_{A:Option Addr}{c:Nat}{f:Nat -> Rat}(h:eZ w (.slice A n c) n f)(F:0<n):∃g,A=some ⟨g,0,none⟩ /\ RB w g n f:=by
 obtain⟨A',c',E,_,_,t⟩:=h;simp only[Value.slice.injEq,true_and] at E;obtain⟨rfl,rfl⟩:=E
 rcases t with t | t
 ·omega
 ·exact t
theorem iD.at_{A:Option Addr}{c:Nat}{f:Nat -> Nat -> Rat}(h:iD w (.slice A m c) m n f)(F:0<m):∃g,A=some ⟨g,0,none⟩ /\ ∀i,i<m -> ∃X x,w.cell? ⟨g,i,none⟩=some (.slice X n x) /\ (X=none -> x=0) /\ eZ w (.slice X n x) n (f i):=by
 obtain⟨A',c',E,_,_,t⟩:=h;simp only[Value.slice.injEq,true_and] at E;obtain⟨rfl,rfl⟩:=E
 rcases t with t | t
 ·omega
 ·exact t
theorem fZ.at_{A:Option Addr}{c:Nat}{k:Nat -> Nat}{t:Nat -> Nat -> ByteArray}{b:Nat -> ByteArray}(h:fZ w (.slice A m c) m k t b)(G:0<m):
  ∃g o,A=some ⟨g,o,none⟩ /\ ∀i,i<m -> ∃u,w.cell? ⟨g,o+i*2,none⟩=some u /\ w.cell? ⟨g,o+i*2+1,none⟩=some (.string (b i)) /\ TS w u (k i) (t i):=by
 obtain⟨A',c',F,_,_,E⟩:=h;simp only[Value.slice.injEq,true_and] at F;obtain⟨rfl,rfl⟩:=F
 rcases E with E | E
 ·omega
 ·exact E
end
def TSA(w:World)(v:Value)(n:Nat)(s:Nat -> ByteArray):Prop:=TS w v n s /\ ((v= .slice none 0 0 /\ n=0) \/ (∃g o c,v= .slice (some ⟨g,o,none⟩) n c) \/ (n=0 /\ ∃ad c,v= .slice (some ad) 0 c))
theorem TSA.below{w w':World}{v:Value}{n:Nat}{s:Nat -> ByteArray}(h:TSA w v n s)(t:Below w.heap.size w w'):TSA w' v n s:=⟨h.1.below t,h.2⟩
theorem sQ(w:World)(s:Nat -> ByteArray):TSA w (.slice none 0 0) 0 s:=⟨⟨none,0,rfl,Nat.le_refl _,by unfold maxLen;omega, .inl rfl⟩, .inl ⟨rfl,rfl⟩⟩
end
end Go.Proofs.YtdefghfjhgmpfaaGreatDoor
