/- Parts of this proof: Equ. -/
import Derived.Test.YtdefghfjhgmpfaaGreatDoorQAE
import Derived.Test.YtdefghfjhgmpfaaGreatDoorQBI
import Derived.Test.YtdefghfjhgmpfaaGreatDoorQAS
import Derived.Test.YtdefghfjhgmpfaaGreatDoorQAX
import Derived.Test.YtdefghfjhgmpfaaGreatDoorQBB
import Derived.Test.YtdefghfjhgmpfaaGreatDoorQAY
namespace Go.Proofs.YtdefghfjhgmpfaaGreatDoor
open Go.RowKit
open Lp (RL upd Dict)
theorem infoRow:(Tryz.prog.info? 53).map (fun i=>(i.zero,i.size,i.bytes))=some (some (.agg #[.slice none 0 0, .string ⟨#[]⟩]),2,40):=by kernel_rfl
theorem own_cells{w:World}{n size:Nat}{e:TypeId}{v:Value}{xs:List Value}(h:w.ownsRow 0 e size v n xs)(hn:0<n):∃ (g cap:Nat) (cs:List Value),v= .slice (some ⟨g,0,none⟩) n cap /\ Row w g e cs /\ ∀ (i:Nat) (x:Value),xs[i]? =some x -> cs[i]? =some x:=by
 rcases h.2 with ⟨_,h0⟩ | ⟨g,cap,cur,hv,_,hg,_,_,_,ht⟩
 ·omega
 ·refine⟨g,cap,cur.toList,hv,hg,fun i x hx=> ?_⟩;have hi:=(List.getElem?_eq_some_iff.1 hx).1;rw[<- ht,List.length_take] at hi;rw[<- ht,List.getElem?_take_of_lt (by omega)] at hx;exact hx
theorem ratsOf{w:World}{g n:Nat}{f:Nat -> Rat}(h:RB w g n f)(hn:n <= 1000000000):IsRats w (.slice (some ⟨g,0,none⟩) n n) n f:=⟨_,_,rfl,Nat.le_refl _,by unfold maxLen;omega, .inr ⟨g,rfl,h⟩⟩
theorem SK.turned{w w':World}{g n:Nat}{s:Nat -> ByteArray}{v v':Value}(h:SK w g n s)(ht:Turned w w' v v')(hne:v.ownBlock≠some g):SK w' g n s:=by
 obtain⟨cs,hr,h1,h2⟩:=h;exact⟨cs,hr.turned ht hne,h1,h2⟩
end Go.Proofs.YtdefghfjhgmpfaaGreatDoor
