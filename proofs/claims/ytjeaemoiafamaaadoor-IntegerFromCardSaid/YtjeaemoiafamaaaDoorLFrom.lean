/- IntegerFrom: the law holds at every int. -/
import Derived.Test.YtjeaemoiafamaaaDoorPkE
import Derived.Test.YtjeaemoiafamaaaDoorIntR
namespace Go.Proofs.YtjeaemoiafamaaaDoor
open Go.RowKit

theorem cmpI_zero : cmpI 0 0 = 0 := by decide

set_option maxHeartbeats 3200000 in
theorem From_law (n : Int) (w : World) (ht : Tab w) (h1 : -9223372036854775808 ≤ n) (h2 : n ≤ 9223372036854775807) :
    Calls Tryd.prog 3 #[.int .i64 n] w fun e w' => e = .returned (.bool true) ∧ Below w.heap.size w w' := by
  have HT := Lib.hid ht
  have HB : Hid (Below w.heap.size w w) := Lib.hid (Below.refl _ _)
  have H1 := Lib.hid h1
  have H2 := Lib.hid h2
  have Ln : Hid (Lim 20 n) := Lib.hid (by unfold Lim; omega)
  have hr := And.intro h1 h2
  have HR := Lib.hid hr
  clear ht h1 h2 hr
  go_enter Tryd.func3, Tryd.ntmps3
  go_wp2_with fail
  refine (known_walk _ HT.out).mono ?_
  rintro e w1 ⟨rfl, hb1⟩
  replace HB := Lib.hid (HB.out.trans (hb1.mono HB.out.size))
  replace HT := Lib.hid (HT.out.below hb1)
  clear hb1
  go_wp2_with fail
  refine (from_walk n _ H1.out H2.out).mono ?_
  rintro e w2 ⟨va, rfl, hva, hb2⟩
  obtain ⟨sa, Aa, la, ca, rfl⟩ := hva.shape
  have Va := Lib.hid hva
  clear hva
  replace HB := Lib.hid (HB.out.trans (hb2.mono HB.out.size))
  replace HT := Lib.hid (HT.out.below hb2)
  clear hb2
  have Ba := Lib.hid (Box.made Va.out)
  have hn3 := below_new w2 (.cells #[.bool sa, .slice Aa la ca] 25)
  replace HB := Lib.hid (HB.out.trans (hn3.mono HB.out.size))
  replace HT := Lib.hid (HT.out.below hn3)
  obtain ⟨w3, hw3⟩ : ∃ w3, w3 = w2.alloc (.cells #[.bool sa, .slice Aa la ca] 25) := ⟨_, rfl⟩
  rw [← hw3] at Ba HB HT
  clear hn3 Va
  go_wp2_with fail
  rw [← hw3]
  clear hw3
  refine (int_in _ n _ Ba.out.2 (Ln.out.l1 (by decide)) HR.out).mono ?_
  rintro e w4 ⟨rfl, hb4⟩
  replace Ba := Lib.hid (Ba.out.below hb4)
  replace HB := Lib.hid (HB.out.trans (hb4.mono HB.out.size))
  replace HT := Lib.hid (HT.out.below hb4)
  clear hb4
  have k0Ba := Ba.out.c0
  have k1Ba := Ba.out.c1
  have k2Ba := Ba.out.1.lt
  have Bz := Lib.hid (Box.made (zero_int w4))
  have hn5 := below_new w4 (.cells #[.bool false, .slice none 0 0] 25)
  replace Ba := Lib.hid (Ba.out.below hn5)
  replace HB := Lib.hid (HB.out.trans (hn5.mono HB.out.size))
  replace HT := Lib.hid (HT.out.below hn5)
  obtain ⟨w5, hw5⟩ : ∃ w5, w5 = w4.alloc (.cells #[.bool false, .slice none 0 0] 25) := ⟨_, rfl⟩
  rw [← hw5] at Ba Bz HB HT
  clear hn5
  have h48d : (txt (0 : Int)).toList = [48] := by rw [txt_zero, ByteArray.toList_eq]
  have h48c : ((txt (0 : Int)).toList == [48]) = true := by rw [h48d]; rfl
  go_wp2_with fail
  rw [← hw5]
  clear hw5
  clear k0Ba k1Ba k2Ba
  have HRG : Hid (Below w5.heap.size w5 w5) := Lib.hid (Below.refl _ _)
  have g0Ba := Ba.out.c0
  have g1Ba := Ba.out.c1
  have glBa := Ba.out.1.lt
  have g0Bz := Bz.out.c0
  have g1Bz := Bz.out.c1
  have glBz := Bz.out.1.lt
  have KS : Hid (∀ w', Below w5.heap.size w5 w' → (w'.cell? ⟨w2.heap.size, 0, none⟩ = some (.bool sa) ∧ w'.cell? ⟨w2.heap.size, 1, none⟩ = some (.slice Aa la ca) ∧ w'.cell? ⟨w4.heap.size, 0, none⟩ = some (.bool false) ∧ w'.cell? ⟨w4.heap.size, 1, none⟩ = some (.slice none 0 0))) := Lib.hid (fun w' hb => ⟨((bbelow hb).1 w2.heap.size 0 glBa).trans g0Ba, ((bbelow hb).1 w2.heap.size 1 glBa).trans g1Ba, ((bbelow hb).1 w4.heap.size 0 glBz).trans g0Bz, ((bbelow hb).1 w4.heap.size 1 glBz).trans g1Bz⟩)
  have tok0 : True := trivial
  have tok1 : True := trivial
  have tok2 : True := trivial
  have tok3 : True := trivial
  have tok4 : True := trivial
  have tok5 : True := trivial
  go_region_held3 (fun w' => w'.cell? ⟨w2.heap.size, 0, none⟩ = some (.bool sa) ∧ w'.cell? ⟨w2.heap.size, 1, none⟩ = some (.slice Aa la ca) ∧ w'.cell? ⟨w4.heap.size, 0, none⟩ = some (.bool false) ∧ w'.cell? ⟨w4.heap.size, 1, none⟩ = some (.slice none 0 0))
    (first | (with_reducible exact ⟨g0Ba, g1Ba, g0Bz, g1Bz⟩) | (with_reducible exact KS.out _ HRG.out) | go_keep)
    (first
      | (go_at_call 17
         have _t := tok0
         refine (text_lim _ n 20 _ (by exact Ba.out.2) Ln.out (by decide) (by exact HT.out)).mono ?_
         rintro e w6 ⟨rfl, hb6⟩
         have hb6 : Below w5.heap.size w5 w6 := by first | exact hb6 | exact (Below.refl _ _).drew.trans hb6 | exact (below_drewN _ _ _).trans hb6
         replace Ba := Lib.hid (Ba.out.below hb6)
         replace Bz := Lib.hid (Bz.out.below hb6)
         replace HB := Lib.hid (HB.out.trans (hb6.mono HB.out.size))
         replace HT := Lib.hid (HT.out.below hb6)
         replace HRG := Lib.hid (HRG.out.trans (hb6.mono HRG.out.size))
         clear hb6 tok0 _t)
      | (go_at_call 18
         have _t := tok1
         refine (rfrom_walk n _ H1.out H2.out).mono ?_
         rintro e w7 ⟨rfl, hb7⟩
         have hb7 : Below w6.heap.size w6 w7 := by first | exact hb7 | exact (Below.refl _ _).drew.trans hb7 | exact (below_drewN _ _ _).trans hb7
         replace Ba := Lib.hid (Ba.out.below hb7)
         replace Bz := Lib.hid (Bz.out.below hb7)
         replace HB := Lib.hid (HB.out.trans (hb7.mono HB.out.size))
         replace HT := Lib.hid (HT.out.below hb7)
         replace HRG := Lib.hid (HRG.out.trans (hb7.mono HRG.out.size))
         clear hb7 tok1 _t)
      | (go_at_call 17
         have _t := tok2
         refine (text_lim _ 0 10 _ (by exact Bz.out.2) (lim_small (by decide)) (by decide) (by exact HT.out)).mono ?_
         rintro e w8 ⟨rfl, hb8⟩
         have hb8 : Below w7.heap.size w7 w8 := by first | exact hb8 | exact (Below.refl _ _).drew.trans hb8 | exact (below_drewN _ _ _).trans hb8
         replace Ba := Lib.hid (Ba.out.below hb8)
         replace Bz := Lib.hid (Bz.out.below hb8)
         replace HB := Lib.hid (HB.out.trans (hb8.mono HB.out.size))
         replace HT := Lib.hid (HT.out.below hb8)
         replace HRG := Lib.hid (HRG.out.trans (hb8.mono HRG.out.size))
         clear hb8 tok2 _t)
      | (go_at_call 19
         have _t := tok3
         refine (sign_walk _ 0 _ (by exact Bz.out.2)).mono ?_
         rintro e w9 ⟨rfl, hb9⟩
         rw [show sgI 0 = 0 from rfl]
         have hb9 : Below w8.heap.size w8 w9 := by first | exact hb9 | exact (Below.refl _ _).drew.trans hb9 | exact (below_drewN _ _ _).trans hb9
         replace Ba := Lib.hid (Ba.out.below hb9)
         replace Bz := Lib.hid (Bz.out.below hb9)
         replace HB := Lib.hid (HB.out.trans (hb9.mono HB.out.size))
         replace HT := Lib.hid (HT.out.below hb9)
         replace HRG := Lib.hid (HRG.out.trans (hb9.mono HRG.out.size))
         clear hb9 tok3 _t)
      | (go_at_call 15
         have _t := tok4
         refine (from_walk 0 _ (by decide) (by decide)).mono ?_
         rintro e w10 ⟨vo, rfl, hvo, hb10⟩
         have hb10 : Below w9.heap.size w9 w10 := by first | exact hb10 | exact (Below.refl _ _).drew.trans hb10 | exact (below_drewN _ _ _).trans hb10
         have Vo := Lib.hid hvo
         replace Ba := Lib.hid (Ba.out.below hb10)
         replace Bz := Lib.hid (Bz.out.below hb10)
         replace HB := Lib.hid (HB.out.trans (hb10.mono HB.out.size))
         replace HT := Lib.hid (HT.out.below hb10)
         replace HRG := Lib.hid (HRG.out.trans (hb10.mono HRG.out.size))
         clear hb10 tok4 _t hvo)
      | (go_at_call 20
         have _t := tok5
         refine (compare_walk _ _ 0 0 _ (by exact Bz.out.2) (by exact Vo.out) ((lim_small (by decide)).l1 (by decide)) ((lim_small (by decide)).l1 (by decide))).mono ?_
         rintro e w11 ⟨rfl, hb11⟩
         rw [cmpI_zero]
         have hb11 : Below w10.heap.size w10 w11 := by first | exact hb11 | exact (Below.refl _ _).drew.trans hb11 | exact (below_drewN _ _ _).trans hb11
         replace Ba := Lib.hid (Ba.out.below hb11)
         replace Bz := Lib.hid (Bz.out.below hb11)
         replace Vo := Lib.hid (Vo.out.below hb11)
         replace HB := Lib.hid (HB.out.trans (hb11.mono HB.out.size))
         replace HT := Lib.hid (HT.out.below hb11)
         replace HRG := Lib.hid (HRG.out.trans (hb11.mono HRG.out.size))
         clear hb11 tok5 _t))
  clear g0Ba g1Ba glBa g0Bz g1Bz glBz KS HRG
  have k0Ba := Ba.out.c0
  have k1Ba := Ba.out.c1
  have k2Ba := Ba.out.1.lt
  have k0Bz := Bz.out.c0
  have k1Bz := Bz.out.c1
  have k2Bz := Bz.out.1.lt
  go_wp2_with fail
  go_returns
  exact ⟨rfl, HB.out⟩
end Go.Proofs.YtjeaemoiafamaaaDoor
