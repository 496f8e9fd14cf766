/- IntegerPowers: the law holds at every string and every int. -/
import Derived.Test.YtjeaemoiafamaaaDoorPkE
import Derived.Test.YtjeaemoiafamaaaDoorIntR
namespace Go.Proofs.YtjeaemoiafamaaaDoor
open Go.RowKit

set_option maxHeartbeats 1600000 in
theorem Powers_law (s : ByteArray) (n : Int) (w : World) (ht : Tab w) (hzs : s.size ≤ 9223372036854775807) (h1 : -9223372036854775808 ≤ n) (h2 : n ≤ 9223372036854775807) :
    Calls Tryd.prog 8 #[.string s, .int .i64 n] w fun e w' => e = .returned (.bool true) ∧ Below w.heap.size w w' := by
  have HT := Lib.hid ht
  have HB : Hid (Below w.heap.size w w) := Lib.hid (Below.refl _ _)
  clear ht
  have H1 := Lib.hid h1
  have H2 := Lib.hid h2
  clear h1 h2
  by_cases hs : okS s
  · skip
    obtain ⟨xs, hts, _, _⟩ := chk_ok hs.2
    have hxs : s = txt xs := by apply ByteArray.ext; apply Array.toList_inj.1; rw [hts, txt_list]
    have Ls := Lib.hid (lim_text hxs hs.1)
    have HXs := Lib.hid hxs
    have HKs := Lib.hid hs
    clear hts hxs hs
    go_enter Tryd.func8, Tryd.ntmps8
    go_wp2_with fail
    refine (known_walk _ HT.out).mono ?_
    rintro e w1 ⟨rfl, hb1⟩
    replace HB := Lib.hid (HB.out.trans (hb1.mono HB.out.size))
    replace HT := Lib.hid (HT.out.below hb1)
    clear hb1
    go_wp2_with fail
    refine (right_yes s _ HKs.out).mono ?_
    rintro e w2 ⟨rfl, rfl⟩
    by_cases hsz : ¬ s.size ≤ 20
    · have h20 : (20 : Int) < ((s.size : Nat) : Int) := by omega
      clear hsz
      go_wp2_with fail
      refine (known_walk _ HT.out).mono ?_
      rintro e w3 ⟨rfl, hb3⟩
      replace HB := Lib.hid (HB.out.trans (hb3.mono HB.out.size))
      replace HT := Lib.hid (HT.out.below hb3)
      clear hb3
      go_wp2_with fail
      go_returns
      exact ⟨rfl, HB.out⟩
    · replace hsz : s.size ≤ 20 := by omega
      have hs20 : ((s.size : Nat) : Int) ≤ 20 := by omega
      replace Ls := Lib.hid (lim_text HXs.out hsz)
      clear hsz
      have hsd : decide ((20 : Int) < ((s.size : Nat) : Int)) = false := decide_eq_false (by omega)
      go_wp2_with fail
      clear hsd hs20
      have hxs := HXs.out
      subst hxs
      refine (read_ok _ xs _ HKs.out rfl).mono ?_
      rintro e w3 ⟨vs, rfl, hvs, hb3⟩
      obtain ⟨ss, As, ls, cs, rfl⟩ := hvs.shape
      have Vs := Lib.hid hvs
      clear hvs
      replace HB := Lib.hid (HB.out.trans (hb3.mono HB.out.size))
      replace HT := Lib.hid (HT.out.below hb3)
      clear hb3
      have Bs := Lib.hid (Box.made Vs.out)
      have hn4 := below_new w3 (.cells #[.bool ss, .slice As ls cs] 25)
      replace HB := Lib.hid (HB.out.trans (hn4.mono HB.out.size))
      replace HT := Lib.hid (HT.out.below hn4)
      obtain ⟨w4, hw4⟩ : ∃ w4, w4 = w3.alloc (.cells #[.bool ss, .slice As ls cs] 25) := ⟨_, rfl⟩
      rw [← hw4] at Bs HB HT
      clear hn4 Vs
      by_cases hr : n < 0 ∨ 64 < n
      · have HR := Lib.hid hr
        clear hr
        go_wp2_with fail
        rw [← hw4]
        clear hw4
        refine (power_range _ xs n _ Bs.out.2 HR.out H1.out H2.out).mono ?_
        rintro e w5 ⟨vp, rfl, hvp, hb5⟩
        obtain ⟨sp, Ap, lp, cp, rfl⟩ := hvp.shape
        have Vp := Lib.hid hvp
        clear hvp
        replace Bs := Lib.hid (Bs.out.below hb5)
        replace HB := Lib.hid (HB.out.trans (hb5.mono HB.out.size))
        replace HT := Lib.hid (HT.out.below hb5)
        clear hb5
        have k0Bs := Bs.out.c0
        have k1Bs := Bs.out.c1
        have k2Bs := Bs.out.1.lt
        have Bp := Lib.hid (Box.made Vp.out)
        have hn6 := below_new w5 (.cells #[.bool sp, .slice Ap lp cp] 25)
        replace Bs := Lib.hid (Bs.out.below hn6)
        replace HB := Lib.hid (HB.out.trans (hn6.mono HB.out.size))
        replace HT := Lib.hid (HT.out.below hn6)
        obtain ⟨w6, hw6⟩ : ∃ w6, w6 = w5.alloc (.cells #[.bool sp, .slice Ap lp cp] 25) := ⟨_, rfl⟩
        rw [← hw6] at Bs Bp HB HT
        clear hn6 Vp
        have h48d : (txt (0 : Int)).toList = [48] := by rw [txt_zero, ByteArray.toList_eq]
        have h48c : ((txt (0 : Int)).toList == [48]) = true := by rw [h48d]; rfl
        have hnn := HR.out
        rcases hnn with hnn | hnn
        · go_wp2_with fail
          rw [← hw6]
          clear hw6
          clear k0Bs k1Bs k2Bs
          refine (text_lim _ 0 10 _ Bp.out.2 (lim_small (by decide)) (by decide) HT.out).mono ?_
          rintro e w7 ⟨rfl, hb7⟩
          replace Bs := Lib.hid (Bs.out.below hb7)
          replace Bp := Lib.hid (Bp.out.below hb7)
          replace HB := Lib.hid (HB.out.trans (hb7.mono HB.out.size))
          replace HT := Lib.hid (HT.out.below hb7)
          clear hb7
          have k0Bs := Bs.out.c0
          have k1Bs := Bs.out.c1
          have k2Bs := Bs.out.1.lt
          have k0Bp := Bp.out.c0
          have k1Bp := Bp.out.c1
          have k2Bp := Bp.out.1.lt
          go_wp2_with fail
          go_returns
          exact ⟨rfl, HB.out⟩
        · have hn0 : 0 ≤ n := by omega
          have hn0d : decide (n < 0) = false := decide_eq_false (by omega)
          go_wp2_with fail
          rw [← hw6]
          clear hw6
          clear k0Bs k1Bs k2Bs
          refine (text_lim _ 0 10 _ Bp.out.2 (lim_small (by decide)) (by decide) HT.out).mono ?_
          rintro e w7 ⟨rfl, hb7⟩
          replace Bs := Lib.hid (Bs.out.below hb7)
          replace Bp := Lib.hid (Bp.out.below hb7)
          replace HB := Lib.hid (HB.out.trans (hb7.mono HB.out.size))
          replace HT := Lib.hid (HT.out.below hb7)
          clear hb7
          have k0Bs := Bs.out.c0
          have k1Bs := Bs.out.c1
          have k2Bs := Bs.out.1.lt
          have k0Bp := Bp.out.c0
          have k1Bp := Bp.out.c1
          have k2Bp := Bp.out.1.lt
          go_wp2_with fail
          go_returns
          exact ⟨rfl, HB.out⟩
      · obtain ⟨m, hm⟩ : ∃ m : Nat, n = m := ⟨n.toNat, by omega⟩
        subst hm
        have hm64 : m ≤ 64 := by omega
        have hm64i : ((m : Nat) : Int) ≤ 64 := by omega
        have hm0d : decide (((m : Nat) : Int) < 0) = false := decide_eq_false (by omega)
        have hm6d : decide ((64 : Int) < ((m : Nat) : Int)) = false := decide_eq_false (by omega)
        have HM := Lib.hid hm64
        clear hr hm64
        go_wp2_with fail
        rw [← hw4]
        clear hw4
        refine (power_walk _ xs m _ Bs.out.2 (Ls.out.l3 (by decide)) HM.out).mono ?_
        rintro e w5 ⟨vp, rfl, hvp, hb5⟩
        obtain ⟨sp, Ap, lp, cp, rfl⟩ := hvp.shape
        have Vp := Lib.hid hvp
        clear hvp
        replace Bs := Lib.hid (Bs.out.below hb5)
        replace HB := Lib.hid (HB.out.trans (hb5.mono HB.out.size))
        replace HT := Lib.hid (HT.out.below hb5)
        clear hb5
        have k0Bs := Bs.out.c0
        have k1Bs := Bs.out.c1
        have k2Bs := Bs.out.1.lt
        have Bp := Lib.hid (Box.made Vp.out)
        have hn6 := below_new w5 (.cells #[.bool sp, .slice Ap lp cp] 25)
        replace Bs := Lib.hid (Bs.out.below hn6)
        replace HB := Lib.hid (HB.out.trans (hn6.mono HB.out.size))
        replace HT := Lib.hid (HT.out.below hn6)
        obtain ⟨w6, hw6⟩ : ∃ w6, w6 = w5.alloc (.cells #[.bool sp, .slice Ap lp cp] 25) := ⟨_, rfl⟩
        rw [← hw6] at Bs Bp HB HT
        clear hn6 Vp
        go_wp2_with fail
        rw [← hw6]
        clear hw6
        clear k0Bs k1Bs k2Bs
        refine (text_lim _ (xs ^ m) 1300 _ Bp.out.2 (Ls.out.pow.mono (by have := HM.out; omega)) (by decide) HT.out).mono ?_
        rintro e w7 ⟨rfl, hb7⟩
        replace Bs := Lib.hid (Bs.out.below hb7)
        replace Bp := Lib.hid (Bp.out.below hb7)
        replace HB := Lib.hid (HB.out.trans (hb7.mono HB.out.size))
        replace HT := Lib.hid (HT.out.below hb7)
        clear hb7
        have k0Bs := Bs.out.c0
        have k1Bs := Bs.out.c1
        have k2Bs := Bs.out.1.lt
        have k0Bp := Bp.out.c0
        have k1Bp := Bp.out.c1
        have k2Bp := Bp.out.1.lt
        go_wp2_with fail
        clear k0Bs k1Bs k2Bs k0Bp k1Bp k2Bp
        refine (rpower_walk xs m _ (by have := Ls.out.ten; omega) HM.out).mono ?_
        rintro e w8 ⟨rfl, hb8⟩
        replace Bs := Lib.hid (Bs.out.below hb8)
        replace Bp := Lib.hid (Bp.out.below hb8)
        replace HB := Lib.hid (HB.out.trans (hb8.mono HB.out.size))
        replace HT := Lib.hid (HT.out.below hb8)
        clear hb8
        have k0Bs := Bs.out.c0
        have k1Bs := Bs.out.c1
        have k2Bs := Bs.out.1.lt
        have k0Bp := Bp.out.c0
        have k1Bp := Bp.out.c1
        have k2Bp := Bp.out.1.lt
        go_wp2_with fail
        go_returns
        exact ⟨rfl, HB.out⟩
  · have HNs := Lib.hid hs
    clear hs
    go_enter Tryd.func8, Tryd.ntmps8
    go_wp2_with fail
    refine (known_walk _ HT.out).mono ?_
    rintro e w1 ⟨rfl, hb1⟩
    replace HB := Lib.hid (HB.out.trans (hb1.mono HB.out.size))
    replace HT := Lib.hid (HT.out.below hb1)
    clear hb1
    go_wp2_with fail
    refine (right_no s _ HNs.out hzs).mono ?_
    rintro e w2 ⟨rfl, rfl⟩
    go_wp2_with fail
    refine (known_walk _ HT.out).mono ?_
    rintro e w3 ⟨rfl, hb3⟩
    replace HB := Lib.hid (HB.out.trans (hb3.mono HB.out.size))
    replace HT := Lib.hid (HT.out.below hb3)
    clear hb3
    go_wp2_with fail
    go_returns
    exact ⟨rfl, HB.out⟩
end Go.Proofs.YtjeaemoiafamaaaDoor
