/- Parts of this proof: Outc. -/
import Derived.Test.YtdefghfjhgmpfaaGreatDoorQBI
import Derived.Test.YtdefghfjhgmpfaaGreatDoorQAS
namespace Go.Proofs.YtdefghfjhgmpfaaGreatDoor
open Go.RowKit
open Lp (RL upd Dict)
theorem Row.put8{w:World}{g:Nat}{e:TypeId}{a0 a1 a2 a3 a4 a5 a6 a7 v0 v1 v2 v3 v4 v5 v6 v7:Value}(h:Row w g e [a0,a1,a2,a3,a4,a5,a6,a7]):
  Row ((((((((w.setCell ⟨g,0,none⟩ v0).setCell ⟨g,1,none⟩ v1).setCell ⟨g,2,none⟩ v2).setCell ⟨g,3,none⟩ v3).setCell ⟨g,4,none⟩ v4).setCell ⟨g,5,none⟩ v5).setCell ⟨g,6,none⟩ v6).setCell ⟨g,7,none⟩ v7) g e [v0,v1,v2,v3,v4,v5,v6,v7]:=
 (((((((h.set 0 v0).set 1 v1).set 2 v2).set 3 v3).set 4 v4).set 5 v5).set 6 v6).set 7 v7
theorem grownBy_set8(w:World)(g:Nat)(v0 v1 v2 v3 v4 v5 v6 v7:Value):
  w.grownBy ((((((((w.setCell ⟨g,0,none⟩ v0).setCell ⟨g,1,none⟩ v1).setCell ⟨g,2,none⟩ v2).setCell ⟨g,3,none⟩ v3).setCell ⟨g,4,none⟩ v4).setCell ⟨g,5,none⟩ v5).setCell ⟨g,6,none⟩ v6).setCell ⟨g,7,none⟩ v7) (some g):=
 grownBy_trans (grownBy_trans (grownBy_trans (grownBy_trans (grownBy_trans (grownBy_trans (grownBy_trans (grownBy_set _ _ _ _) (grownBy_set _ _ _ _)) (grownBy_set _ _ _ _)) (grownBy_set _ _ _ _)) (grownBy_set _ _ _ _)) (grownBy_set _ _ _ _)) (grownBy_set _ _ _ _)) (grownBy_set _ _ _ _)
theorem IsRats.other{w w':World}{v:Value}{n g:Nat}{e:TypeId}{cs:List Value}{f:Nat -> Rat}(h:IsRats w v n f)(hg:w.grownBy w' (some g))(hr:Row w g e cs)(he:e≠160)(he':e≠105):IsRats w' v n f:=by
 obtain⟨A,c,hv,h1,h2,h3⟩:=h;refine⟨A,c,hv,h1,h2,h3.imp id fun⟨g',hA,hb⟩=>⟨g',hA,?_⟩⟩;obtain⟨cs',hr'⟩:=hb.row;exact hb.other hg hr he (ne_ty hr' hr (fun e=>he' e.symm))
theorem RB.rats{w:World}{g n c:Nat}{f:Nat -> Rat}(h:RB w g n f)(hc:n <= c)(hm:c <= maxLen):IsRats w (.slice (some ⟨g,0,none⟩) n c) n f:=⟨_,_,rfl,hc,hm, .inr ⟨g,rfl,h⟩⟩
def RunPost(w:World)(L:Lay)(m n:Nat)(D1:Dict)(e:Ending)(w':World):Prop:=∃N D,Lp.Reach m n D1 N D /\ Tabl w' L m n D /\ Chg (L.blocks m) w w' /\ RunEnd w' L m n D e
def RunRel(wr:World)(L:Lay)(m n M:Nat)(D1:Dict)(g:Nat):Prop:=∃N D,g+N=M /\ Lp.Reach m n D1 N D /\ Tabl wr L m n D
theorem Tabl.otherT{w w':World}{L:Lay}{m n g:Nat}{D:Dict}{e:TypeId}{cs:List Value}(h:Tabl w L m n D)(hg:w.grownBy w' (some g))(hr:Row w g e cs)(h0:e≠160)(h1:e≠148)(h2:e≠3)(h3:e≠105)(h4:e≠95):Tabl w' L m n D:=by
 obtain⟨⟨s,A,l,c,t,B,d,x,hrt,hv⟩,a2,a3,a4,a5,a6,a7,a8,a9,a10,a11,a12,a13⟩:=h
 have nr:∀ {k j:Nat} {f:Nat -> Rat},RB w k j f -> k≠g:=fun hb=>by
  obtain⟨_,hb'⟩:=hb.row;exact ne_ty hb' hr (fun e=>h3 e.symm)
 have ni:∀ {k j:Nat} {f:Nat -> Nat},IB w k j f -> k≠g:=fun hb=>by
  obtain⟨_,hb'⟩:=hb.row;exact ne_ty hb' hr (fun e=>h2 e.symm)
 refine⟨⟨s,A,l,c,t,B,d,x,hrt.other hg (ne_ty hrt hr (fun e=>h1 e.symm)),hv.other hg hr h0⟩,a2,a3,fun hm=>(a4 hm).other hg (ni (a4 hm)),fun hn=>(a5 hn).other hg (ni (a5 hn)),fun hm=>(a6 hm).other hg hr h0 (nr (a6 hm)),fun hn=>(a7 hn).other hg hr h0 (nr (a7 hn)),fun hm=> ?_,fun hn r hrm=>(a9 hn r hrm).other hg hr h0 (nr (a9 hn r hrm)),a10,a11,a12,a13⟩;obtain⟨cs',hr',hh⟩:=a8 hm;exact⟨cs',hr'.other hg (ne_ty hr' hr (fun e=>h4 e.symm)),hh⟩
theorem dual_done{n:Nat}{o:Nat -> Nat}{f b:Nat -> Rat}(i:Nat):dualTo n o f b n i=b i+Lp.spread n o f (n+i):=rfl
theorem dual_done0{n:Nat}{o:Nat -> Nat}{f:Nat -> Rat}(i:Nat):dualTo n o f (fun _=>0) n i=Lp.spread n o f (n+i):=by
 show(0:Rat)+Lp.spread n o f (n+i)=_;grind
end Go.Proofs.YtdefghfjhgmpfaaGreatDoor
