/- Parts of this proof: Outc. -/
import Derived.Test.YtdefghfjhgmpfaaGreatDoorMAY
import Derived.Test.YtdefghfjhgmpfaaGreatDoorMAP
namespace Go.Proofs.YtdefghfjhgmpfaaGreatDoor
open Go.RowKit
open Lp (RL upd eu)
theorem Row.iL{w:World}{g:Nat}{e:TypeId}{t E F G M O R T v0 v1 v2 v3 v4 v5 v6 v7:Value}(h:Row w g e [t,E,F,G,M,O,R,T]):
  Row ((((((((w.setCell ⟨g,0,none⟩ v0).setCell ⟨g,1,none⟩ v1).setCell ⟨g,2,none⟩ v2).setCell ⟨g,3,none⟩ v3).setCell ⟨g,4,none⟩ v4).setCell ⟨g,5,none⟩ v5).setCell ⟨g,6,none⟩ v6).setCell ⟨g,7,none⟩ v7) g e [v0,v1,v2,v3,v4,v5,v6,v7]:=
 (((((((h.set 0 v0).set 1 v1).set 2 v2).set 3 v3).set 4 v4).set 5 v5).set 6 v6).set 7 v7
theorem iM(w:World)(g:Nat)(v0 v1 v2 v3 v4 v5 v6 v7:Value):
  w.grownBy ((((((((w.setCell ⟨g,0,none⟩ v0).setCell ⟨g,1,none⟩ v1).setCell ⟨g,2,none⟩ v2).setCell ⟨g,3,none⟩ v3).setCell ⟨g,4,none⟩ v4).setCell ⟨g,5,none⟩ v5).setCell ⟨g,6,none⟩ v6).setCell ⟨g,7,none⟩ v7) (some g):=
 grownBy_trans (grownBy_trans (grownBy_trans (grownBy_trans (grownBy_trans (grownBy_trans (grownBy_trans (grownBy_set _ _ _ _) (grownBy_set _ _ _ _)) (grownBy_set _ _ _ _)) (grownBy_set _ _ _ _)) (grownBy_set _ _ _ _)) (grownBy_set _ _ _ _)) (grownBy_set _ _ _ _)) (grownBy_set _ _ _ _)
theorem eZ.other{w w':World}{v:Value}{n g:Nat}{e:TypeId}{cs:List Value}{f:Nat -> Rat}(h:eZ w v n f)(T:w.grownBy w' (some g))(E:Row w g e cs)(O:e≠160)(R:e≠105):eZ w' v n f:=by
 obtain⟨A,c,X,h1,F,G⟩:=h;refine⟨A,c,X,h1,F,G.imp id fun⟨g',M,t⟩=>⟨g',M,?_⟩⟩;obtain⟨Y,U⟩:=t.row;exact t.other T E O (fV U E (fun e=>R e.symm))
theorem RB.ky{w:World}{g n c:Nat}{f:Nat -> Rat}(h:RB w g n f)(t:n <= c)(E:c <= maxLen):eZ w (.slice (some ⟨g,0,none⟩) n c) n f:=⟨_,_,rfl,t,E, .inr ⟨g,rfl,h⟩⟩
def J6(w:World)(L:Lay)(m n:Nat)(D1:eu)(e:Ending)(w':World):Prop:=∃N D,Lp.Reach m n D1 N D /\ fq w' L m n D /\ Chg (L.blocks m) w w' /\ tY w' L m n D e
def wu(wr:World)(L:Lay)(m n M:Nat)(D1:eu)(g:Nat):Prop:=∃N D,g+N=M /\ Lp.Reach m n D1 N D /\ fq wr L m n D
theorem fq.jN{w w':World}{L:Lay}{m n g:Nat}{D:eu}{e:TypeId}{cs:List Value}(h:fq w L m n D)(E:w.grownBy w' (some g))(G:Row w g e cs)(h0:e≠160)(h1:e≠148)(h2:e≠3)(h3:e≠105)(h4:e≠95):fq w' L m n D:=by
 obtain⟨⟨s,A,l,c,t,B,d,x,aa,hv⟩,a2,a3,U,X,Y,Z,a8,a9,ab,ac,ad,ae⟩:=h
 have T:∀ {k j:Nat} {f:Nat -> Rat},RB w k j f -> k≠g:=fun O=>by
  obtain⟨_,R⟩:=O.row;exact fV R G (fun e=>h3 e.symm)
 have ni:∀ {k j:Nat} {f:Nat -> Nat},IB w k j f -> k≠g:=fun O=>by
  obtain⟨_,R⟩:=O.row;exact fV R G (fun e=>h2 e.symm)
 refine⟨⟨s,A,l,c,t,B,d,x,aa.other E (fV aa G (fun e=>h1 e.symm)),hv.other E G h0⟩,a2,a3,fun M=>(U M).other E (ni (U M)),fun F=>(X F).other E (ni (X F)),fun M=>(Y M).other E G h0 (T (Y M)),fun F=>(Z F).other E G h0 (T (Z F)),fun M=> ?_,fun F r a1=>(a9 F r a1).other E G h0 (T (a9 F r a1)),ab,ac,ad,ae⟩;obtain⟨af,a0,hh⟩:=a8 M;exact⟨af,a0.other E (fV a0 G (fun e=>h4 e.symm)),hh⟩
theorem J7{n:Nat}{o:Nat -> Nat}{f b:Nat -> Rat}(i:Nat):mf n o f b n i=b i+Lp.spread n o f (n+i):=rfl
theorem J8{n:Nat}{o:Nat -> Nat}{f:Nat -> Rat}(i:Nat):mf n o f (fun _=>0) n i=Lp.spread n o f (n+i):=by
 show(0:Rat)+Lp.spread n o f (n+i)=_;grind
end Go.Proofs.YtdefghfjhgmpfaaGreatDoor
