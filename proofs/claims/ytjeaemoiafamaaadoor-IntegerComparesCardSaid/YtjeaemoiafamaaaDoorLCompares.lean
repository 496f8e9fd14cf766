/- IntegerCompares: the law holds at every two strings. -/
import Derived.Test.YtjeaemoiafamaaaDoorPkE
namespace Go.Proofs.YtjeaemoiafamaaaDoor
open Go.RowKit

theorem cmpI_self (a : Int) : cmpI a a = 0 := by unfold cmpI; rw [if_neg (by omega), if_pos rfl]

set_option maxHeartbeats 1600000 in
theorem Compares_law (s t : ByteArray) (w : World) (ht : Tab w) (hzs : s.size ≤ 9223372036854775807) (hzt : t.size ≤ 9223372036854775807) :
    Calls Tryd.prog 10 #[.string s, .string t] w fun e w' => e = .returned (.bool true) ∧ Below w.heap.size w w' := by
  have HT := Lib.hid ht
  have HB : Hid (Below w.heap.size w w) := Lib.hid (Below.refl _ _)
  clear ht
  by_cases hs : okS s
  · skip
    by_cases ht : okS t
    · skip
      obtain ⟨xs, hts, _, _⟩ := chk_ok hs.2
      have hxs : s = txt xs := by apply ByteArray.ext; apply Array.toList_inj.1; rw [hts, txt_list]
      have Ls := Lib.hid (lim_text hxs hs.1)
      have HXs := Lib.hid hxs
      have HKs := Lib.hid hs
      clear hts hxs hs
      obtain ⟨xt, htt, _, _⟩ := chk_ok ht.2
      have hxt : t = txt xt := by apply ByteArray.ext; apply Array.toList_inj.1; rw [htt, txt_list]
      have Lt := Lib.hid (lim_text hxt ht.1)
      have HXt := Lib.hid hxt
      have HKt := Lib.hid ht
      clear htt hxt ht
      go_enter Tryd.func10, Tryd.ntmps10
      go_wp2_with fail
      refine (known_walk _ HT.out).mono ?_
      rintro e w1 ⟨rfl, hb1⟩
      replace HB := Lib.hid (HB.out.trans (hb1.mono HB.out.size))
      replace HT := Lib.hid (HT.out.below hb1)
      clear hb1
      go_wp2_with fail
      refine (right_yes s _ HKs.out).mono ?_
      rintro e w2 ⟨rfl, rfl⟩
      go_wp2_with fail
      refine (right_yes t _ HKt.out).mono ?_
      rintro e w3 ⟨rfl, rfl⟩
      have hxs := HXs.out
      subst hxs
      have hxt := HXt.out
      subst hxt
      go_wp2_with fail
      refine (read_ok _ xs _ HKs.out rfl).mono ?_
      rintro e w4 ⟨vs, rfl, hvs, hb4⟩
      obtain ⟨ss, As, ls, cs, rfl⟩ := hvs.shape
      have Vs := Lib.hid hvs
      clear hvs
      replace HB := Lib.hid (HB.out.trans (hb4.mono HB.out.size))
      replace HT := Lib.hid (HT.out.below hb4)
      clear hb4
      have Bs := Lib.hid (Box.made Vs.out)
      have hn5 := below_new w4 (.cells #[.bool ss, .slice As ls cs] 25)
      replace HB := Lib.hid (HB.out.trans (hn5.mono HB.out.size))
      replace HT := Lib.hid (HT.out.below hn5)
      obtain ⟨w5, hw5⟩ : ∃ w5, w5 = w4.alloc (.cells #[.bool ss, .slice As ls cs] 25) := ⟨_, rfl⟩
      rw [← hw5] at Bs HB HT
      clear hn5 Vs
      go_wp2_with fail
      rw [← hw5]
      clear hw5
      refine (read_ok _ xt _ HKt.out rfl).mono ?_
      rintro e w6 ⟨vt, rfl, hvt, hb6⟩
      obtain ⟨st, At, lt, ct, rfl⟩ := hvt.shape
      have Vt := Lib.hid hvt
      clear hvt
      replace Bs := Lib.hid (Bs.out.below hb6)
      replace HB := Lib.hid (HB.out.trans (hb6.mono HB.out.size))
      replace HT := Lib.hid (HT.out.below hb6)
      clear hb6
      have k0Bs := Bs.out.c0
      have k1Bs := Bs.out.c1
      have k2Bs := Bs.out.1.lt
      have Bt := Lib.hid (Box.made Vt.out)
      have hn7 := below_new w6 (.cells #[.bool st, .slice At lt ct] 25)
      replace Bs := Lib.hid (Bs.out.below hn7)
      replace HB := Lib.hid (HB.out.trans (hn7.mono HB.out.size))
      replace HT := Lib.hid (HT.out.below hn7)
      obtain ⟨w7, hw7⟩ : ∃ w7, w7 = w6.alloc (.cells #[.bool st, .slice At lt ct] 25) := ⟨_, rfl⟩
      rw [← hw7] at Bs Bt HB HT
      clear hn7 Vt
      go_wp2_with fail
      rw [← hw7]
      clear hw7
      clear k0Bs k1Bs k2Bs
      refine (compare_walk _ _ xs xt _ Bs.out.2 Bt.out.2 (Ls.out.l1 (by decide)) (Lt.out.l1 (by decide))).mono ?_
      rintro e w8 ⟨rfl, hb8⟩
      replace Bs := Lib.hid (Bs.out.below hb8)
      replace Bt := Lib.hid (Bt.out.below hb8)
      replace HB := Lib.hid (HB.out.trans (hb8.mono HB.out.size))
      replace HT := Lib.hid (HT.out.below hb8)
      clear hb8
      have k0Bs := Bs.out.c0
      have k1Bs := Bs.out.c1
      have k2Bs := Bs.out.1.lt
      have k0Bt := Bt.out.c0
      have k1Bt := Bt.out.c1
      have k2Bt := Bt.out.1.lt
      go_wp2_with fail
      clear k0Bs k1Bs k2Bs k0Bt k1Bt k2Bt
      refine (rcompare_walk xs xt _ (Ls.out.few (by decide)).few (Lt.out.few (by decide)).few).mono ?_
      rintro e w9 ⟨rfl, hb9⟩
      replace Bs := Lib.hid (Bs.out.below hb9)
      replace Bt := Lib.hid (Bt.out.below hb9)
      replace HB := Lib.hid (HB.out.trans (hb9.mono HB.out.size))
      replace HT := Lib.hid (HT.out.below hb9)
      clear hb9
      have k0Bs := Bs.out.c0
      have k1Bs := Bs.out.c1
      have k2Bs := Bs.out.1.lt
      have k0Bt := Bt.out.c0
      have k1Bt := Bt.out.c1
      have k2Bt := Bt.out.1.lt
      go_wp2_with fail
      clear k0Bs k1Bs k2Bs k0Bt k1Bt k2Bt
      refine (compare_walk _ _ xt xs _ Bt.out.2 Bs.out.2 (Lt.out.l1 (by decide)) (Ls.out.l1 (by decide))).mono ?_
      rintro e w10 ⟨rfl, hb10⟩
      replace Bs := Lib.hid (Bs.out.below hb10)
      replace Bt := Lib.hid (Bt.out.below hb10)
      replace HB := Lib.hid (HB.out.trans (hb10.mono HB.out.size))
      replace HT := Lib.hid (HT.out.below hb10)
      clear hb10
      have k0Bs := Bs.out.c0
      have k1Bs := Bs.out.c1
      have k2Bs := Bs.out.1.lt
      have k0Bt := Bt.out.c0
      have k1Bt := Bt.out.c1
      have k2Bt := Bt.out.1.lt
      go_wp2_with fail
      clear k0Bs k1Bs k2Bs k0Bt k1Bt k2Bt
      refine (rcompare_walk xt xs _ (Lt.out.few (by decide)).few (Ls.out.few (by decide)).few).mono ?_
      rintro e w11 ⟨rfl, hb11⟩
      replace Bs := Lib.hid (Bs.out.below hb11)
      replace Bt := Lib.hid (Bt.out.below hb11)
      replace HB := Lib.hid (HB.out.trans (hb11.mono HB.out.size))
      replace HT := Lib.hid (HT.out.below hb11)
      clear hb11
      have k0Bs := Bs.out.c0
      have k1Bs := Bs.out.c1
      have k2Bs := Bs.out.1.lt
      have k0Bt := Bt.out.c0
      have k1Bt := Bt.out.c1
      have k2Bt := Bt.out.1.lt
      go_wp2_with fail
      clear k0Bs k1Bs k2Bs k0Bt k1Bt k2Bt
      refine (sign_walk _ xs _ Bs.out.2).mono ?_
      rintro e w12 ⟨rfl, hb12⟩
      replace Bs := Lib.hid (Bs.out.below hb12)
      replace Bt := Lib.hid (Bt.out.below hb12)
      replace HB := Lib.hid (HB.out.trans (hb12.mono HB.out.size))
      replace HT := Lib.hid (HT.out.below hb12)
      clear hb12
      have k0Bs := Bs.out.c0
      have k1Bs := Bs.out.c1
      have k2Bs := Bs.out.1.lt
      have k0Bt := Bt.out.c0
      have k1Bt := Bt.out.c1
      have k2Bt := Bt.out.1.lt
      go_wp2_with fail
      clear k0Bs k1Bs k2Bs k0Bt k1Bt k2Bt
      refine (rsign_walk xs _).mono ?_
      rintro e w13 ⟨rfl, rfl⟩
      have k0Bs := Bs.out.c0
      have k1Bs := Bs.out.c1
      have k2Bs := Bs.out.1.lt
      have k0Bt := Bt.out.c0
      have k1Bt := Bt.out.c1
      have k2Bt := Bt.out.1.lt
      go_wp2_with fail
      clear k0Bs k1Bs k2Bs k0Bt k1Bt k2Bt
      refine (compare_walk _ _ xs xs _ Bs.out.2 Bs.out.2 (Ls.out.l1 (by decide)) (Ls.out.l1 (by decide))).mono ?_
      rintro e w14 ⟨rfl, hb14⟩
      rw [cmpI_self xs]
      replace Bs := Lib.hid (Bs.out.below hb14)
      replace Bt := Lib.hid (Bt.out.below hb14)
      replace HB := Lib.hid (HB.out.trans (hb14.mono HB.out.size))
      replace HT := Lib.hid (HT.out.below hb14)
      clear hb14
      have k0Bs := Bs.out.c0
      have k1Bs := Bs.out.c1
      have k2Bs := Bs.out.1.lt
      have k0Bt := Bt.out.c0
      have k1Bt := Bt.out.c1
      have k2Bt := Bt.out.1.lt
      go_wp2_with fail
      go_returns
      exact ⟨rfl, HB.out⟩
    · have HNt := Lib.hid ht
      have HKs := Lib.hid hs
      clear hs ht
      go_enter Tryd.func10, Tryd.ntmps10
      go_wp2_with fail
      refine (known_walk _ HT.out).mono ?_
      rintro e w1 ⟨rfl, hb1⟩
      replace HB := Lib.hid (HB.out.trans (hb1.mono HB.out.size))
      replace HT := Lib.hid (HT.out.below hb1)
      clear hb1
      go_wp2_with fail
      refine (right_yes s _ HKs.out).mono ?_
      rintro e w2 ⟨rfl, rfl⟩
      go_wp2_with fail
      refine (right_no t _ HNt.out hzt).mono ?_
      rintro e w3 ⟨rfl, rfl⟩
      go_wp2_with fail
      refine (known_walk _ HT.out).mono ?_
      rintro e w4 ⟨rfl, hb4⟩
      replace HB := Lib.hid (HB.out.trans (hb4.mono HB.out.size))
      replace HT := Lib.hid (HT.out.below hb4)
      clear hb4
      go_wp2_with fail
      go_returns
      exact ⟨rfl, HB.out⟩
  · have HNs := Lib.hid hs
    clear hs
    go_enter Tryd.func10, Tryd.ntmps10
    go_wp2_with fail
    refine (known_walk _ HT.out).mono ?_
    rintro e w1 ⟨rfl, hb1⟩
    replace HB := Lib.hid (HB.out.trans (hb1.mono HB.out.size))
    replace HT := Lib.hid (HT.out.below hb1)
    clear hb1
    go_wp2_with fail
    refine (right_no s _ HNs.out hzs).mono ?_
    rintro e w2 ⟨rfl, rfl⟩
    go_wp2_with fail
    refine (known_walk _ HT.out).mono ?_
    rintro e w3 ⟨rfl, hb3⟩
    replace HB := Lib.hid (HB.out.trans (hb3.mono HB.out.size))
    replace HT := Lib.hid (HT.out.below hb3)
    clear hb3
    go_wp2_with fail
    go_returns
    exact ⟨rfl, HB.out⟩
end Go.Proofs.YtjeaemoiafamaaaDoor
