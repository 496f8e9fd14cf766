/- IntegerInts: the law holds at every string. -/
import Derived.Test.YtjeaemoiafamaaaDoorPkE
import Derived.Test.YtjeaemoiafamaaaDoorIntR
namespace Go.Proofs.YtjeaemoiafamaaaDoor
open Go.RowKit

set_option maxHeartbeats 1600000 in
theorem Ints_law (s : ByteArray) (w : World) (ht : Tab w) (hzs : s.size ≤ 9223372036854775807) :
    Calls Tryd.prog 12 #[.string s] w fun e w' => e = .returned (.bool true) ∧ Below w.heap.size w w' := by
  have HT := Lib.hid ht
  have HB : Hid (Below w.heap.size w w) := Lib.hid (Below.refl _ _)
  clear ht
  by_cases hs : okS s
  · skip
    obtain ⟨xs, hts, _, _⟩ := chk_ok hs.2
    have hxs : s = txt xs := by apply ByteArray.ext; apply Array.toList_inj.1; rw [hts, txt_list]
    have Ls := Lib.hid (lim_text hxs hs.1)
    have HXs := Lib.hid hxs
    have HKs := Lib.hid hs
    clear hts hxs hs
    go_enter Tryd.func12, Tryd.ntmps12
    go_wp2_with fail
    refine (known_walk _ HT.out).mono ?_
    rintro e w1 ⟨rfl, hb1⟩
    replace HB := Lib.hid (HB.out.trans (hb1.mono HB.out.size))
    replace HT := Lib.hid (HT.out.below hb1)
    clear hb1
    go_wp2_with fail
    refine (right_yes s _ HKs.out).mono ?_
    rintro e w2 ⟨rfl, rfl⟩
    have hxs := HXs.out
    subst hxs
    go_wp2_with fail
    refine (read_ok _ xs _ HKs.out rfl).mono ?_
    rintro e w3 ⟨vs, rfl, hvs, hb3⟩
    obtain ⟨ss, As, ls, cs, rfl⟩ := hvs.shape
    have Vs := Lib.hid hvs
    clear hvs
    replace HB := Lib.hid (HB.out.trans (hb3.mono HB.out.size))
    replace HT := Lib.hid (HT.out.below hb3)
    clear hb3
    have Bs := Lib.hid (Box.made Vs.out)
    have hn4 := below_new w3 (.cells #[.bool ss, .slice As ls cs] 25)
    replace HB := Lib.hid (HB.out.trans (hn4.mono HB.out.size))
    replace HT := Lib.hid (HT.out.below hn4)
    obtain ⟨w4, hw4⟩ : ∃ w4, w4 = w3.alloc (.cells #[.bool ss, .slice As ls cs] 25) := ⟨_, rfl⟩
    rw [← hw4] at Bs HB HT
    clear hn4 Vs
    obtain ⟨SL, hSL⟩ : ∃ S, S = txt (-9223372036854775808) := ⟨_, rfl⟩
    obtain ⟨SH, hSH⟩ : ∃ S, S = txt 9223372036854775807 := ⟨_, rfl⟩
    have hf1 := fun W => rfrom_walk (-9223372036854775808) W (by decide) (by decide)
    have hf2 := fun W => rfrom_walk 9223372036854775807 W (by decide) (by decide)
    have hcm1 := fun W => rcompare_walk xs (-9223372036854775808) W (Ls.out.few (by decide)).few ((show Lim 20 (-9223372036854775808) from by unfold Lim; decide).few (by decide)).few
    have hcm2 := fun W => rcompare_walk xs 9223372036854775807 W (Ls.out.few (by decide)).few ((show Lim 20 9223372036854775807 from by unfold Lim; decide).few (by decide)).few
    rw [← hSL] at hf1 hcm1
    rw [← hSH] at hf2 hcm2
    obtain ⟨c1, hc1e⟩ : ∃ c, c = cmpI xs (-9223372036854775808) := ⟨_, rfl⟩
    obtain ⟨c2, hc2e⟩ : ∃ c, c = cmpI xs 9223372036854775807 := ⟨_, rfl⟩
    rw [← hc1e] at hcm1
    rw [← hc2e] at hcm2
    have HF1 := Lib.hid hf1
    have HF2 := Lib.hid hf2
    have HC1 := Lib.hid hcm1
    have HC2 := Lib.hid hcm2
    clear hSL hSH hf1 hf2 hcm1 hcm2
    by_cases hr : -9223372036854775808 ≤ xs ∧ xs ≤ 9223372036854775807
    · have hc1 : 0 ≤ c1 := by rw [hc1e]; unfold cmpI; split <;> (try split) <;> omega
      have hc1d : decide (c1 < 0) = false := decide_eq_false (by omega)
      have hc2 : c2 ≤ 0 := by rw [hc2e]; unfold cmpI; split <;> (try split) <;> omega
      have hc2d : decide (0 < c2) = false := decide_eq_false (by omega)
      clear hc1e hc2e
      have HR := Lib.hid hr
      clear hr
      go_wp2_with fail
      rw [← hw4]
      clear hw4
      refine (int_in _ xs _ Bs.out.2 (Ls.out.l1 (by decide)) HR.out).mono ?_
      rintro e w5 ⟨rfl, hb5⟩
      replace Bs := Lib.hid (Bs.out.below hb5)
      replace HB := Lib.hid (HB.out.trans (hb5.mono HB.out.size))
      replace HT := Lib.hid (HT.out.below hb5)
      clear hb5
      have k0Bs := Bs.out.c0
      have k1Bs := Bs.out.c1
      have k2Bs := Bs.out.1.lt
      go_wp2_with fail
      clear k0Bs k1Bs k2Bs
      refine (bits_walk _ xs _ Bs.out.2 (Ls.out.l1 (by decide))).mono ?_
      rintro e w6 ⟨kb, rfl, hkb, hb6⟩
      replace Bs := Lib.hid (Bs.out.below hb6)
      replace HB := Lib.hid (HB.out.trans (hb6.mono HB.out.size))
      replace HT := Lib.hid (HT.out.below hb6)
      clear hb6
      have k0Bs := Bs.out.c0
      have k1Bs := Bs.out.c1
      have k2Bs := Bs.out.1.lt
      have HKB := Lib.hid hkb
      clear hkb
      go_wp2_with fail
      clear k0Bs k1Bs k2Bs
      refine (rbits_walk xs _ (Ls.out.few (by decide))).mono ?_
      rintro e w7 ⟨kr, rfl, hkr, hb7⟩
      replace Bs := Lib.hid (Bs.out.below hb7)
      replace HB := Lib.hid (HB.out.trans (hb7.mono HB.out.size))
      replace HT := Lib.hid (HT.out.below hb7)
      clear hb7
      have k0Bs := Bs.out.c0
      have k1Bs := Bs.out.c1
      have k2Bs := Bs.out.1.lt
      obtain rfl : kb = kr := HKB.out.one hkr
      clear hkr
      go_wp2_with fail
      clear k0Bs k1Bs k2Bs
      refine (HF1.out _).mono ?_
      rintro e w8 ⟨rfl, hb8⟩
      replace Bs := Lib.hid (Bs.out.below hb8)
      replace HB := Lib.hid (HB.out.trans (hb8.mono HB.out.size))
      replace HT := Lib.hid (HT.out.below hb8)
      clear hb8
      have k0Bs := Bs.out.c0
      have k1Bs := Bs.out.c1
      have k2Bs := Bs.out.1.lt
      go_wp2_with fail
      clear k0Bs k1Bs k2Bs
      refine (HF2.out _).mono ?_
      rintro e w9 ⟨rfl, hb9⟩
      replace Bs := Lib.hid (Bs.out.below hb9)
      replace HB := Lib.hid (HB.out.trans (hb9.mono HB.out.size))
      replace HT := Lib.hid (HT.out.below hb9)
      clear hb9
      have k0Bs := Bs.out.c0
      have k1Bs := Bs.out.c1
      have k2Bs := Bs.out.1.lt
      go_wp2_with fail
      clear k0Bs k1Bs k2Bs
      refine (HC1.out _).mono ?_
      rintro e w10 ⟨rfl, hb10⟩
      replace Bs := Lib.hid (Bs.out.below hb10)
      replace HB := Lib.hid (HB.out.trans (hb10.mono HB.out.size))
      replace HT := Lib.hid (HT.out.below hb10)
      clear hb10
      have k0Bs := Bs.out.c0
      have k1Bs := Bs.out.c1
      have k2Bs := Bs.out.1.lt
      go_wp2_with fail
      clear k0Bs k1Bs k2Bs
      refine (HC2.out _).mono ?_
      rintro e w11 ⟨rfl, hb11⟩
      replace Bs := Lib.hid (Bs.out.below hb11)
      replace HB := Lib.hid (HB.out.trans (hb11.mono HB.out.size))
      replace HT := Lib.hid (HT.out.below hb11)
      clear hb11
      have k0Bs := Bs.out.c0
      have k1Bs := Bs.out.c1
      have k2Bs := Bs.out.1.lt
      go_wp2_with fail
      clear k0Bs k1Bs k2Bs
      refine (rfrom_walk xs _ HR.out.1 HR.out.2).mono ?_
      rintro e w12 ⟨rfl, hb12⟩
      replace Bs := Lib.hid (Bs.out.below hb12)
      replace HB := Lib.hid (HB.out.trans (hb12.mono HB.out.size))
      replace HT := Lib.hid (HT.out.below hb12)
      clear hb12
      have k0Bs := Bs.out.c0
      have k1Bs := Bs.out.c1
      have k2Bs := Bs.out.1.lt
      go_wp2_with fail
      go_returns
      exact ⟨rfl, HB.out⟩
    · by_cases hlo : xs < -9223372036854775808
      · have hc1 : c1 < 0 := by rw [hc1e]; unfold cmpI; rw [if_pos hlo]; decide
        clear hc1e hc2e hlo
        have HR := Lib.hid hr
        clear hr
        go_wp2_with fail
        rw [← hw4]
        clear hw4
        refine (int_out _ xs _ Bs.out.2 (Ls.out.l1 (by decide)) HR.out).mono ?_
        rintro e w5 ⟨rfl, hb5⟩
        replace Bs := Lib.hid (Bs.out.below hb5)
        replace HB := Lib.hid (HB.out.trans (hb5.mono HB.out.size))
        replace HT := Lib.hid (HT.out.below hb5)
        clear hb5
        have k0Bs := Bs.out.c0
        have k1Bs := Bs.out.c1
        have k2Bs := Bs.out.1.lt
        go_wp2_with fail
        clear k0Bs k1Bs k2Bs
        refine (bits_walk _ xs _ Bs.out.2 (Ls.out.l1 (by decide))).mono ?_
        rintro e w6 ⟨kb, rfl, hkb, hb6⟩
        replace Bs := Lib.hid (Bs.out.below hb6)
        replace HB := Lib.hid (HB.out.trans (hb6.mono HB.out.size))
        replace HT := Lib.hid (HT.out.below hb6)
        clear hb6
        have k0Bs := Bs.out.c0
        have k1Bs := Bs.out.c1
        have k2Bs := Bs.out.1.lt
        have HKB := Lib.hid hkb
        clear hkb
        go_wp2_with fail
        clear k0Bs k1Bs k2Bs
        refine (rbits_walk xs _ (Ls.out.few (by decide))).mono ?_
        rintro e w7 ⟨kr, rfl, hkr, hb7⟩
        replace Bs := Lib.hid (Bs.out.below hb7)
        replace HB := Lib.hid (HB.out.trans (hb7.mono HB.out.size))
        replace HT := Lib.hid (HT.out.below hb7)
        clear hb7
        have k0Bs := Bs.out.c0
        have k1Bs := Bs.out.c1
        have k2Bs := Bs.out.1.lt
        obtain rfl : kb = kr := HKB.out.one hkr
        clear hkr
        go_wp2_with fail
        clear k0Bs k1Bs k2Bs
        refine (HF1.out _).mono ?_
        rintro e w8 ⟨rfl, hb8⟩
        replace Bs := Lib.hid (Bs.out.below hb8)
        replace HB := Lib.hid (HB.out.trans (hb8.mono HB.out.size))
        replace HT := Lib.hid (HT.out.below hb8)
        clear hb8
        have k0Bs := Bs.out.c0
        have k1Bs := Bs.out.c1
        have k2Bs := Bs.out.1.lt
        go_wp2_with fail
        clear k0Bs k1Bs k2Bs
        refine (HF2.out _).mono ?_
        rintro e w9 ⟨rfl, hb9⟩
        replace Bs := Lib.hid (Bs.out.below hb9)
        replace HB := Lib.hid (HB.out.trans (hb9.mono HB.out.size))
        replace HT := Lib.hid (HT.out.below hb9)
        clear hb9
        have k0Bs := Bs.out.c0
        have k1Bs := Bs.out.c1
        have k2Bs := Bs.out.1.lt
        go_wp2_with fail
        clear k0Bs k1Bs k2Bs
        refine (HC1.out _).mono ?_
        rintro e w10 ⟨rfl, hb10⟩
        replace Bs := Lib.hid (Bs.out.below hb10)
        replace HB := Lib.hid (HB.out.trans (hb10.mono HB.out.size))
        replace HT := Lib.hid (HT.out.below hb10)
        clear hb10
        have k0Bs := Bs.out.c0
        have k1Bs := Bs.out.c1
        have k2Bs := Bs.out.1.lt
        go_wp2_with fail
        go_returns
        exact ⟨rfl, HB.out⟩
      · have hc1 : 0 ≤ c1 := by rw [hc1e]; unfold cmpI; split <;> (try split) <;> omega
        have hc1d : decide (c1 < 0) = false := decide_eq_false (by omega)
        have hc2 : 0 < c2 := by rw [hc2e]; unfold cmpI; rw [if_neg (by omega), if_neg (by omega)]; decide
        clear hc1e hc2e hlo
        have HR := Lib.hid hr
        clear hr
        go_wp2_with fail
        rw [← hw4]
        clear hw4
        refine (int_out _ xs _ Bs.out.2 (Ls.out.l1 (by decide)) HR.out).mono ?_
        rintro e w5 ⟨rfl, hb5⟩
        replace Bs := Lib.hid (Bs.out.below hb5)
        replace HB := Lib.hid (HB.out.trans (hb5.mono HB.out.size))
        replace HT := Lib.hid (HT.out.below hb5)
        clear hb5
        have k0Bs := Bs.out.c0
        have k1Bs := Bs.out.c1
        have k2Bs := Bs.out.1.lt
        go_wp2_with fail
        clear k0Bs k1Bs k2Bs
        refine (bits_walk _ xs _ Bs.out.2 (Ls.out.l1 (by decide))).mono ?_
        rintro e w6 ⟨kb, rfl, hkb, hb6⟩
        replace Bs := Lib.hid (Bs.out.below hb6)
        replace HB := Lib.hid (HB.out.trans (hb6.mono HB.out.size))
        replace HT := Lib.hid (HT.out.below hb6)
        clear hb6
        have k0Bs := Bs.out.c0
        have k1Bs := Bs.out.c1
        have k2Bs := Bs.out.1.lt
        have HKB := Lib.hid hkb
        clear hkb
        go_wp2_with fail
        clear k0Bs k1Bs k2Bs
        refine (rbits_walk xs _ (Ls.out.few (by decide))).mono ?_
        rintro e w7 ⟨kr, rfl, hkr, hb7⟩
        replace Bs := Lib.hid (Bs.out.below hb7)
        replace HB := Lib.hid (HB.out.trans (hb7.mono HB.out.size))
        replace HT := Lib.hid (HT.out.below hb7)
        clear hb7
        have k0Bs := Bs.out.c0
        have k1Bs := Bs.out.c1
        have k2Bs := Bs.out.1.lt
        obtain rfl : kb = kr := HKB.out.one hkr
        clear hkr
        go_wp2_with fail
        clear k0Bs k1Bs k2Bs
        refine (HF1.out _).mono ?_
        rintro e w8 ⟨rfl, hb8⟩
        replace Bs := Lib.hid (Bs.out.below hb8)
        replace HB := Lib.hid (HB.out.trans (hb8.mono HB.out.size))
        replace HT := Lib.hid (HT.out.below hb8)
        clear hb8
        have k0Bs := Bs.out.c0
        have k1Bs := Bs.out.c1
        have k2Bs := Bs.out.1.lt
        go_wp2_with fail
        clear k0Bs k1Bs k2Bs
        refine (HF2.out _).mono ?_
        rintro e w9 ⟨rfl, hb9⟩
        replace Bs := Lib.hid (Bs.out.below hb9)
        replace HB := Lib.hid (HB.out.trans (hb9.mono HB.out.size))
        replace HT := Lib.hid (HT.out.below hb9)
        clear hb9
        have k0Bs := Bs.out.c0
        have k1Bs := Bs.out.c1
        have k2Bs := Bs.out.1.lt
        go_wp2_with fail
        clear k0Bs k1Bs k2Bs
        refine (HC1.out _).mono ?_
        rintro e w10 ⟨rfl, hb10⟩
        replace Bs := Lib.hid (Bs.out.below hb10)
        replace HB := Lib.hid (HB.out.trans (hb10.mono HB.out.size))
        replace HT := Lib.hid (HT.out.below hb10)
        clear hb10
        have k0Bs := Bs.out.c0
        have k1Bs := Bs.out.c1
        have k2Bs := Bs.out.1.lt
        go_wp2_with fail
        clear k0Bs k1Bs k2Bs
        refine (HC2.out _).mono ?_
        rintro e w11 ⟨rfl, hb11⟩
        replace Bs := Lib.hid (Bs.out.below hb11)
        replace HB := Lib.hid (HB.out.trans (hb11.mono HB.out.size))
        replace HT := Lib.hid (HT.out.below hb11)
        clear hb11
        have k0Bs := Bs.out.c0
        have k1Bs := Bs.out.c1
        have k2Bs := Bs.out.1.lt
        go_wp2_with fail
        go_returns
        exact ⟨rfl, HB.out⟩
  · have HNs := Lib.hid hs
    clear hs
    go_enter Tryd.func12, Tryd.ntmps12
    go_wp2_with fail
    refine (known_walk _ HT.out).mono ?_
    rintro e w1 ⟨rfl, hb1⟩
    replace HB := Lib.hid (HB.out.trans (hb1.mono HB.out.size))
    replace HT := Lib.hid (HT.out.below hb1)
    clear hb1
    go_wp2_with fail
    refine (right_no s _ HNs.out hzs).mono ?_
    rintro e w2 ⟨rfl, rfl⟩
    go_wp2_with fail
    refine (known_walk _ HT.out).mono ?_
    rintro e w3 ⟨rfl, hb3⟩
    replace HB := Lib.hid (HB.out.trans (hb3.mono HB.out.size))
    replace HT := Lib.hid (HT.out.below hb3)
    clear hb3
    go_wp2_with fail
    go_returns
    exact ⟨rfl, HB.out⟩
end Go.Proofs.YtjeaemoiafamaaaDoor
