/- Parts of this proof: Outc. -/
import Derived.Test.YtdefghfjhgmpfaaGreatDoorMAY
import Derived.Test.YtdefghfjhgmpfaaGreatDoorMAP
namespace Go.Proofs.YtdefghfjhgmpfaaGreatDoor
open Go.RowKit
open Lp (RL upd eu)
theorem Row.iL{w:World}{g:Nat}{e:TypeId}{r t C E F G M O v0 v1 v2 v3 v4 v5 v6 v7:Value}(h:Row w g e [r,t,C,E,F,G,M,O]):
  Row ((((((((w.setCell ⟨g,0,none⟩ v0).setCell ⟨g,1,none⟩ v1).setCell ⟨g,2,none⟩ v2).setCell ⟨g,3,none⟩ v3).setCell ⟨g,4,none⟩ v4).setCell ⟨g,5,none⟩ v5).setCell ⟨g,6,none⟩ v6).setCell ⟨g,7,none⟩ v7) g e [v0,v1,v2,v3,v4,v5,v6,v7]:=
 (((((((h.set 0 v0).set 1 v1).set 2 v2).set 3 v3).set 4 v4).set 5 v5).set 6 v6).set 7 v7
theorem iM(w:World)(g:Nat)(v0 v1 v2 v3 v4 v5 v6 v7:Value):
  w.grownBy ((((((((w.setCell ⟨g,0,none⟩ v0).setCell ⟨g,1,none⟩ v1).setCell ⟨g,2,none⟩ v2).setCell ⟨g,3,none⟩ v3).setCell ⟨g,4,none⟩ v4).setCell ⟨g,5,none⟩ v5).setCell ⟨g,6,none⟩ v6).setCell ⟨g,7,none⟩ v7) (some g):=
 grownBy_trans (grownBy_trans (grownBy_trans (grownBy_trans (grownBy_trans (grownBy_trans (grownBy_trans (grownBy_set _ _ _ _) (grownBy_set _ _ _ _)) (grownBy_set _ _ _ _)) (grownBy_set _ _ _ _)) (grownBy_set _ _ _ _)) (grownBy_set _ _ _ _)) (grownBy_set _ _ _ _)) (grownBy_set _ _ _ _)
theorem eZ.other{w w':World}{v:Value}{n g:Nat}{e:TypeId}{cs:List Value}{f:Nat -> Rat}(h:eZ w v n f)(O:w.grownBy w' (some g))(t:Row w g e cs)(G:e≠160)(M:e≠105):eZ w' v n f:=by
 obtain⟨A,c,T,h1,C,E⟩:=h;refine⟨A,c,T,h1,C,E.imp id fun⟨g',F,r⟩=>⟨g',F,?_⟩⟩;obtain⟨U,R⟩:=r.row;exact r.other O t G (fV R t (fun e=>M e.symm))
theorem RB.ky{w:World}{g n c:Nat}{f:Nat -> Rat}(h:RB w g n f)(r:n <= c)(t:c <= maxLen):eZ w (.slice (some ⟨g,0,none⟩) n c) n f:=⟨_,_,rfl,r,t, .inr ⟨g,rfl,h⟩⟩
def J6(w:World)(L:Lay)(m n:Nat)(D1:eu)(e:Ending)(w':World):Prop:=∃N D,Lp.Reach m n D1 N D /\ fq w' L m n D /\ Chg (L.blocks m) w w' /\ tY w' L m n D e
def wu(wr:World)(L:Lay)(m n M:Nat)(D1:eu)(g:Nat):Prop:=∃N D,g+N=M /\ Lp.Reach m n D1 N D /\ fq wr L m n D
theorem fq.jN{w w':World}{L:Lay}{m n g:Nat}{D:eu}{e:TypeId}{cs:List Value}(h:fq w L m n D)(C:w.grownBy w' (some g))(F:Row w g e cs)(h0:e≠160)(h1:e≠148)(h2:e≠3)(h3:e≠105)(h4:e≠95):fq w' L m n D:=by
 obtain⟨⟨s,A,l,c,t,B,d,x,a0,hv⟩,a2,a3,T,U,V,W,a8,X,a1,aa,ab,ac⟩:=h
 have R:∀ {k j:Nat} {f:Nat -> Rat},RB w k j f -> k≠g:=fun M=>by
  obtain⟨_,O⟩:=M.row;exact fV O F (fun e=>h3 e.symm)
 have ni:∀ {k j:Nat} {f:Nat -> Nat},IB w k j f -> k≠g:=fun M=>by
  obtain⟨_,O⟩:=M.row;exact fV O F (fun e=>h2 e.symm)
 refine⟨⟨s,A,l,c,t,B,d,x,a0.other C (fV a0 F (fun e=>h1 e.symm)),hv.other C F h0⟩,a2,a3,fun G=>(T G).other C (ni (T G)),fun E=>(U E).other C (ni (U E)),fun G=>(V G).other C F h0 (R (V G)),fun E=>(W E).other C F h0 (R (W E)),fun G=> ?_,fun E r Z=>(X E r Z).other C F h0 (R (X E r Z)),a1,aa,ab,ac⟩;obtain⟨ad,Y,hh⟩:=a8 G;exact⟨ad,Y.other C (fV Y F (fun e=>h4 e.symm)),hh⟩
theorem J7{n:Nat}{o:Nat -> Nat}{f b:Nat -> Rat}(i:Nat):mf n o f b n i=b i+Lp.spread n o f (n+i):=rfl
theorem J8{n:Nat}{o:Nat -> Nat}{f:Nat -> Rat}(i:Nat):mf n o f (fun _=>0) n i=Lp.spread n o f (n+i):=by
 show(0:Rat)+Lp.spread n o f (n+i)=_;grind
end Go.Proofs.YtdefghfjhgmpfaaGreatDoor
