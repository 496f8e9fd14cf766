/- IntegerAdds: the law holds at every two strings. -/
import Derived.Test.YtjeaemoiafamaaaDoorPkE
namespace Go.Proofs.YtjeaemoiafamaaaDoor
open Go.RowKit

set_option maxHeartbeats 1600000 in
theorem Adds_law (s t : ByteArray) (w : World) (ht : Tab w) (hzs : s.size ≤ 9223372036854775807) (hzt : t.size ≤ 9223372036854775807) :
    Calls Tryd.prog 9 #[.string s, .string t] w fun e w' => e = .returned (.bool true) ∧ Below w.heap.size w w' := by
  have HT := Lib.hid ht
  have HB : Hid (Below w.heap.size w w) := Lib.hid (Below.refl _ _)
  clear ht
  by_cases hs : okS s
  · skip
    by_cases ht : okS t
    · skip
      obtain ⟨xs, hts, _, _⟩ := chk_ok hs.2
      have hxs : s = txt xs := by apply ByteArray.ext; apply Array.toList_inj.1; rw [hts, txt_list]
      have Ls := Lib.hid (lim_text hxs hs.1)
      have HXs := Lib.hid hxs
      have HKs := Lib.hid hs
      clear hts hxs hs
      obtain ⟨xt, htt, _, _⟩ := chk_ok ht.2
      have hxt : t = txt xt := by apply ByteArray.ext; apply Array.toList_inj.1; rw [htt, txt_list]
      have Lt := Lib.hid (lim_text hxt ht.1)
      have HXt := Lib.hid hxt
      have HKt := Lib.hid ht
      clear htt hxt ht
      go_enter Tryd.func9, Tryd.ntmps9
      go_wp2_with fail
      refine (known_walk _ HT.out).mono ?_
      rintro e w1 ⟨rfl, hb1⟩
      replace HB := Lib.hid (HB.out.trans (hb1.mono HB.out.size))
      replace HT := Lib.hid (HT.out.below hb1)
      clear hb1
      go_wp2_with fail
      refine (right_yes s _ HKs.out).mono ?_
      rintro e w2 ⟨rfl, rfl⟩
      go_wp2_with fail
      refine (right_yes t _ HKt.out).mono ?_
      rintro e w3 ⟨rfl, rfl⟩
      have hxs := HXs.out
      subst hxs
      have hxt := HXt.out
      subst hxt
      go_wp2_with fail
      refine (read_ok _ xs _ HKs.out rfl).mono ?_
      rintro e w4 ⟨vs, rfl, hvs, hb4⟩
      obtain ⟨ss, As, ls, cs, rfl⟩ := hvs.shape
      have Vs := Lib.hid hvs
      clear hvs
      replace HB := Lib.hid (HB.out.trans (hb4.mono HB.out.size))
      replace HT := Lib.hid (HT.out.below hb4)
      clear hb4
      have Bs := Lib.hid (Box.made Vs.out)
      have hn5 := below_new w4 (.cells #[.bool ss, .slice As ls cs] 25)
      replace HB := Lib.hid (HB.out.trans (hn5.mono HB.out.size))
      replace HT := Lib.hid (HT.out.below hn5)
      obtain ⟨w5, hw5⟩ : ∃ w5, w5 = w4.alloc (.cells #[.bool ss, .slice As ls cs] 25) := ⟨_, rfl⟩
      rw [← hw5] at Bs HB HT
      clear hn5 Vs
      go_wp2_with fail
      rw [← hw5]
      clear hw5
      refine (read_ok _ xt _ HKt.out rfl).mono ?_
      rintro e w6 ⟨vt, rfl, hvt, hb6⟩
      obtain ⟨st, At, lt, ct, rfl⟩ := hvt.shape
      have Vt := Lib.hid hvt
      clear hvt
      replace Bs := Lib.hid (Bs.out.below hb6)
      replace HB := Lib.hid (HB.out.trans (hb6.mono HB.out.size))
      replace HT := Lib.hid (HT.out.below hb6)
      clear hb6
      have k0Bs := Bs.out.c0
      have k1Bs := Bs.out.c1
      have k2Bs := Bs.out.1.lt
      have Bt := Lib.hid (Box.made Vt.out)
      have hn7 := below_new w6 (.cells #[.bool st, .slice At lt ct] 25)
      replace Bs := Lib.hid (Bs.out.below hn7)
      replace HB := Lib.hid (HB.out.trans (hn7.mono HB.out.size))
      replace HT := Lib.hid (HT.out.below hn7)
      obtain ⟨w7, hw7⟩ : ∃ w7, w7 = w6.alloc (.cells #[.bool st, .slice At lt ct] 25) := ⟨_, rfl⟩
      rw [← hw7] at Bs Bt HB HT
      clear hn7 Vt
      by_cases hn : xs < 0
      · have hsg : sgI xs < 0 := sgI_neg.2 hn
        have HN := Lib.hid hn
        clear hn
        go_wp2_with fail
        rw [← hw7]
        clear hw7
        clear k0Bs k1Bs k2Bs
        refine (rsign_walk xs _).mono ?_
        rintro e w8 ⟨rfl, rfl⟩
        have k0Bs := Bs.out.c0
        have k1Bs := Bs.out.c1
        have k2Bs := Bs.out.1.lt
        have k0Bt := Bt.out.c0
        have k1Bt := Bt.out.c1
        have k2Bt := Bt.out.1.lt
        go_wp2_with fail
        clear k0Bs k1Bs k2Bs k0Bt k1Bt k2Bt
        refine (rneg_walk xs _ (Ls.out.few (by decide)).few).mono ?_
        rintro e w9 ⟨rfl, hb9⟩
        replace Bs := Lib.hid (Bs.out.below hb9)
        replace Bt := Lib.hid (Bt.out.below hb9)
        replace HB := Lib.hid (HB.out.trans (hb9.mono HB.out.size))
        replace HT := Lib.hid (HT.out.below hb9)
        clear hb9
        have k0Bs := Bs.out.c0
        have k1Bs := Bs.out.c1
        have k2Bs := Bs.out.1.lt
        have k0Bt := Bt.out.c0
        have k1Bt := Bt.out.c1
        have k2Bt := Bt.out.1.lt
        go_wp2_with fail
        clear k0Bs k1Bs k2Bs k0Bt k1Bt k2Bt
        refine (add_walk _ _ xs xt _ Bs.out.2 Bt.out.2 (Ls.out.l1 (by decide)) (Lt.out.l1 (by decide))).mono ?_
        rintro e w10 ⟨vp, rfl, hvp, hb10⟩
        obtain ⟨sp, Ap, lp, cp, rfl⟩ := hvp.shape
        have Vp := Lib.hid hvp
        clear hvp
        replace Bs := Lib.hid (Bs.out.below hb10)
        replace Bt := Lib.hid (Bt.out.below hb10)
        replace HB := Lib.hid (HB.out.trans (hb10.mono HB.out.size))
        replace HT := Lib.hid (HT.out.below hb10)
        clear hb10
        have k0Bs := Bs.out.c0
        have k1Bs := Bs.out.c1
        have k2Bs := Bs.out.1.lt
        have k0Bt := Bt.out.c0
        have k1Bt := Bt.out.c1
        have k2Bt := Bt.out.1.lt
        go_wp2_with fail
        clear k0Bs k1Bs k2Bs k0Bt k1Bt k2Bt
        refine (text_lim _ (xs + xt) 121 _ Vp.out (Ls.out.add Lt.out) (by decide) HT.out).mono ?_
        rintro e w11 ⟨rfl, hb11⟩
        replace Bs := Lib.hid (Bs.out.below hb11)
        replace Bt := Lib.hid (Bt.out.below hb11)
        replace Vp := Lib.hid (Vp.out.below hb11)
        replace HB := Lib.hid (HB.out.trans (hb11.mono HB.out.size))
        replace HT := Lib.hid (HT.out.below hb11)
        clear hb11
        have k0Bs := Bs.out.c0
        have k1Bs := Bs.out.c1
        have k2Bs := Bs.out.1.lt
        have k0Bt := Bt.out.c0
        have k1Bt := Bt.out.c1
        have k2Bt := Bt.out.1.lt
        go_wp2_with fail
        clear k0Bs k1Bs k2Bs k0Bt k1Bt k2Bt
        refine (radd_walk xs xt _ (Ls.out.few (by decide)).few (Lt.out.few (by decide)).few).mono ?_
        rintro e w12 ⟨rfl, hb12⟩
        replace Bs := Lib.hid (Bs.out.below hb12)
        replace Bt := Lib.hid (Bt.out.below hb12)
        replace Vp := Lib.hid (Vp.out.below hb12)
        replace HB := Lib.hid (HB.out.trans (hb12.mono HB.out.size))
        replace HT := Lib.hid (HT.out.below hb12)
        clear hb12
        have k0Bs := Bs.out.c0
        have k1Bs := Bs.out.c1
        have k2Bs := Bs.out.1.lt
        have k0Bt := Bt.out.c0
        have k1Bt := Bt.out.c1
        have k2Bt := Bt.out.1.lt
        go_wp2_with fail
        clear k0Bs k1Bs k2Bs k0Bt k1Bt k2Bt
        refine (sub_walk _ _ xs xt _ Bs.out.2 Bt.out.2 (Ls.out.l1 (by decide)) (Lt.out.l1 (by decide))).mono ?_
        rintro e w13 ⟨vm, rfl, hvm, hb13⟩
        obtain ⟨sm, Am, lm, cm, rfl⟩ := hvm.shape
        have Vm := Lib.hid hvm
        clear hvm
        replace Bs := Lib.hid (Bs.out.below hb13)
        replace Bt := Lib.hid (Bt.out.below hb13)
        replace Vp := Lib.hid (Vp.out.below hb13)
        replace HB := Lib.hid (HB.out.trans (hb13.mono HB.out.size))
        replace HT := Lib.hid (HT.out.below hb13)
        clear hb13
        have k0Bs := Bs.out.c0
        have k1Bs := Bs.out.c1
        have k2Bs := Bs.out.1.lt
        have k0Bt := Bt.out.c0
        have k1Bt := Bt.out.c1
        have k2Bt := Bt.out.1.lt
        go_wp2_with fail
        clear k0Bs k1Bs k2Bs k0Bt k1Bt k2Bt
        refine (text_lim _ (xs - xt) 121 _ Vm.out (Ls.out.sub Lt.out) (by decide) HT.out).mono ?_
        rintro e w14 ⟨rfl, hb14⟩
        replace Bs := Lib.hid (Bs.out.below hb14)
        replace Bt := Lib.hid (Bt.out.below hb14)
        replace Vp := Lib.hid (Vp.out.below hb14)
        replace Vm := Lib.hid (Vm.out.below hb14)
        replace HB := Lib.hid (HB.out.trans (hb14.mono HB.out.size))
        replace HT := Lib.hid (HT.out.below hb14)
        clear hb14
        have k0Bs := Bs.out.c0
        have k1Bs := Bs.out.c1
        have k2Bs := Bs.out.1.lt
        have k0Bt := Bt.out.c0
        have k1Bt := Bt.out.c1
        have k2Bt := Bt.out.1.lt
        go_wp2_with fail
        clear k0Bs k1Bs k2Bs k0Bt k1Bt k2Bt
        refine (rsub_walk xs xt _ (Ls.out.few (by decide)).few (Lt.out.few (by decide)).few).mono ?_
        rintro e w15 ⟨rfl, hb15⟩
        replace Bs := Lib.hid (Bs.out.below hb15)
        replace Bt := Lib.hid (Bt.out.below hb15)
        replace Vp := Lib.hid (Vp.out.below hb15)
        replace Vm := Lib.hid (Vm.out.below hb15)
        replace HB := Lib.hid (HB.out.trans (hb15.mono HB.out.size))
        replace HT := Lib.hid (HT.out.below hb15)
        clear hb15
        have k0Bs := Bs.out.c0
        have k1Bs := Bs.out.c1
        have k2Bs := Bs.out.1.lt
        have k0Bt := Bt.out.c0
        have k1Bt := Bt.out.c1
        have k2Bt := Bt.out.1.lt
        go_wp2_with fail
        clear k0Bs k1Bs k2Bs k0Bt k1Bt k2Bt
        refine (neg_walk _ xs _ Bs.out.2).mono ?_
        rintro e w16 ⟨vn, rfl, hvn, hb16⟩
        obtain ⟨sn, An, ln, cn, rfl⟩ := hvn.shape
        have Vn := Lib.hid hvn
        clear hvn
        replace Bs := Lib.hid (Bs.out.below hb16)
        replace Bt := Lib.hid (Bt.out.below hb16)
        replace Vp := Lib.hid (Vp.out.below hb16)
        replace Vm := Lib.hid (Vm.out.below hb16)
        replace HB := Lib.hid (HB.out.trans (hb16.mono HB.out.size))
        replace HT := Lib.hid (HT.out.below hb16)
        clear hb16
        have k0Bs := Bs.out.c0
        have k1Bs := Bs.out.c1
        have k2Bs := Bs.out.1.lt
        have k0Bt := Bt.out.c0
        have k1Bt := Bt.out.c1
        have k2Bt := Bt.out.1.lt
        go_wp2_with fail
        clear k0Bs k1Bs k2Bs k0Bt k1Bt k2Bt
        refine (text_lim _ (-xs) 120 _ Vn.out Ls.out.neg (by decide) HT.out).mono ?_
        rintro e w17 ⟨rfl, hb17⟩
        replace Bs := Lib.hid (Bs.out.below hb17)
        replace Bt := Lib.hid (Bt.out.below hb17)
        replace Vp := Lib.hid (Vp.out.below hb17)
        replace Vm := Lib.hid (Vm.out.below hb17)
        replace Vn := Lib.hid (Vn.out.below hb17)
        replace HB := Lib.hid (HB.out.trans (hb17.mono HB.out.size))
        replace HT := Lib.hid (HT.out.below hb17)
        clear hb17
        have k0Bs := Bs.out.c0
        have k1Bs := Bs.out.c1
        have k2Bs := Bs.out.1.lt
        have k0Bt := Bt.out.c0
        have k1Bt := Bt.out.c1
        have k2Bt := Bt.out.1.lt
        go_wp2_with fail
        clear k0Bs k1Bs k2Bs k0Bt k1Bt k2Bt
        refine (rneg_walk xs _ (Ls.out.few (by decide)).few).mono ?_
        rintro e w18 ⟨rfl, hb18⟩
        replace Bs := Lib.hid (Bs.out.below hb18)
        replace Bt := Lib.hid (Bt.out.below hb18)
        replace Vp := Lib.hid (Vp.out.below hb18)
        replace Vm := Lib.hid (Vm.out.below hb18)
        replace Vn := Lib.hid (Vn.out.below hb18)
        replace HB := Lib.hid (HB.out.trans (hb18.mono HB.out.size))
        replace HT := Lib.hid (HT.out.below hb18)
        clear hb18
        have k0Bs := Bs.out.c0
        have k1Bs := Bs.out.c1
        have k2Bs := Bs.out.1.lt
        have k0Bt := Bt.out.c0
        have k1Bt := Bt.out.c1
        have k2Bt := Bt.out.1.lt
        go_wp2_with fail
        clear k0Bs k1Bs k2Bs k0Bt k1Bt k2Bt
        refine (abs_walk _ xs _ Bs.out.2).mono ?_
        rintro e w19 ⟨va, rfl, hva, hb19⟩
        obtain ⟨sa, Aa, la, ca, rfl⟩ := hva.shape
        have Va := Lib.hid hva
        clear hva
        replace Bs := Lib.hid (Bs.out.below hb19)
        replace Bt := Lib.hid (Bt.out.below hb19)
        replace Vp := Lib.hid (Vp.out.below hb19)
        replace Vm := Lib.hid (Vm.out.below hb19)
        replace Vn := Lib.hid (Vn.out.below hb19)
        replace HB := Lib.hid (HB.out.trans (hb19.mono HB.out.size))
        replace HT := Lib.hid (HT.out.below hb19)
        clear hb19
        have k0Bs := Bs.out.c0
        have k1Bs := Bs.out.c1
        have k2Bs := Bs.out.1.lt
        have k0Bt := Bt.out.c0
        have k1Bt := Bt.out.c1
        have k2Bt := Bt.out.1.lt
        go_wp2_with fail
        clear k0Bs k1Bs k2Bs k0Bt k1Bt k2Bt
        refine (text_lim _ (xs.natAbs : Nat) 120 _ Va.out Ls.out.abs (by decide) HT.out).mono ?_
        rintro e w20 ⟨rfl, hb20⟩
        rw [show ((xs.natAbs : Nat) : Int) = -xs by have := HN.out; omega]
        replace Bs := Lib.hid (Bs.out.below hb20)
        replace Bt := Lib.hid (Bt.out.below hb20)
        replace Vp := Lib.hid (Vp.out.below hb20)
        replace Vm := Lib.hid (Vm.out.below hb20)
        replace Vn := Lib.hid (Vn.out.below hb20)
        replace Va := Lib.hid (Va.out.below hb20)
        replace HB := Lib.hid (HB.out.trans (hb20.mono HB.out.size))
        replace HT := Lib.hid (HT.out.below hb20)
        clear hb20
        have k0Bs := Bs.out.c0
        have k1Bs := Bs.out.c1
        have k2Bs := Bs.out.1.lt
        have k0Bt := Bt.out.c0
        have k1Bt := Bt.out.c1
        have k2Bt := Bt.out.1.lt
        go_wp2_with fail
        clear k0Bs k1Bs k2Bs k0Bt k1Bt k2Bt
        refine (text_lim _ xs 120 _ Bs.out.2 Ls.out (by decide) HT.out).mono ?_
        rintro e w21 ⟨rfl, hb21⟩
        replace Bs := Lib.hid (Bs.out.below hb21)
        replace Bt := Lib.hid (Bt.out.below hb21)
        replace Vp := Lib.hid (Vp.out.below hb21)
        replace Vm := Lib.hid (Vm.out.below hb21)
        replace Vn := Lib.hid (Vn.out.below hb21)
        replace Va := Lib.hid (Va.out.below hb21)
        replace HB := Lib.hid (HB.out.trans (hb21.mono HB.out.size))
        replace HT := Lib.hid (HT.out.below hb21)
        clear hb21
        have k0Bs := Bs.out.c0
        have k1Bs := Bs.out.c1
        have k2Bs := Bs.out.1.lt
        have k0Bt := Bt.out.c0
        have k1Bt := Bt.out.c1
        have k2Bt := Bt.out.1.lt
        go_wp2_with fail
        clear k0Bs k1Bs k2Bs k0Bt k1Bt k2Bt
        refine (text_lim _ xt 120 _ Bt.out.2 Lt.out (by decide) HT.out).mono ?_
        rintro e w22 ⟨rfl, hb22⟩
        replace Bs := Lib.hid (Bs.out.below hb22)
        replace Bt := Lib.hid (Bt.out.below hb22)
        replace Vp := Lib.hid (Vp.out.below hb22)
        replace Vm := Lib.hid (Vm.out.below hb22)
        replace Vn := Lib.hid (Vn.out.below hb22)
        replace Va := Lib.hid (Va.out.below hb22)
        replace HB := Lib.hid (HB.out.trans (hb22.mono HB.out.size))
        replace HT := Lib.hid (HT.out.below hb22)
        clear hb22
        have k0Bs := Bs.out.c0
        have k1Bs := Bs.out.c1
        have k2Bs := Bs.out.1.lt
        have k0Bt := Bt.out.c0
        have k1Bt := Bt.out.c1
        have k2Bt := Bt.out.1.lt
        go_wp2_with fail
        go_returns
        exact ⟨rfl, HB.out⟩
      · have hsg : 0 ≤ sgI xs := by have := @sgI_neg xs; omega
        have hsd : decide (sgI xs < 0) = false := decide_eq_false (by omega)
        have HN := Lib.hid hn
        clear hn
        go_wp2_with fail
        rw [← hw7]
        clear hw7
        clear k0Bs k1Bs k2Bs
        refine (rsign_walk xs _).mono ?_
        rintro e w8 ⟨rfl, rfl⟩
        have k0Bs := Bs.out.c0
        have k1Bs := Bs.out.c1
        have k2Bs := Bs.out.1.lt
        have k0Bt := Bt.out.c0
        have k1Bt := Bt.out.c1
        have k2Bt := Bt.out.1.lt
        go_wp2_with fail
        clear k0Bs k1Bs k2Bs k0Bt k1Bt k2Bt
        refine (add_walk _ _ xs xt _ Bs.out.2 Bt.out.2 (Ls.out.l1 (by decide)) (Lt.out.l1 (by decide))).mono ?_
        rintro e w9 ⟨vp, rfl, hvp, hb9⟩
        obtain ⟨sp, Ap, lp, cp, rfl⟩ := hvp.shape
        have Vp := Lib.hid hvp
        clear hvp
        replace Bs := Lib.hid (Bs.out.below hb9)
        replace Bt := Lib.hid (Bt.out.below hb9)
        replace HB := Lib.hid (HB.out.trans (hb9.mono HB.out.size))
        replace HT := Lib.hid (HT.out.below hb9)
        clear hb9
        have k0Bs := Bs.out.c0
        have k1Bs := Bs.out.c1
        have k2Bs := Bs.out.1.lt
        have k0Bt := Bt.out.c0
        have k1Bt := Bt.out.c1
        have k2Bt := Bt.out.1.lt
        go_wp2_with fail
        clear k0Bs k1Bs k2Bs k0Bt k1Bt k2Bt
        refine (text_lim _ (xs + xt) 121 _ Vp.out (Ls.out.add Lt.out) (by decide) HT.out).mono ?_
        rintro e w10 ⟨rfl, hb10⟩
        replace Bs := Lib.hid (Bs.out.below hb10)
        replace Bt := Lib.hid (Bt.out.below hb10)
        replace Vp := Lib.hid (Vp.out.below hb10)
        replace HB := Lib.hid (HB.out.trans (hb10.mono HB.out.size))
        replace HT := Lib.hid (HT.out.below hb10)
        clear hb10
        have k0Bs := Bs.out.c0
        have k1Bs := Bs.out.c1
        have k2Bs := Bs.out.1.lt
        have k0Bt := Bt.out.c0
        have k1Bt := Bt.out.c1
        have k2Bt := Bt.out.1.lt
        go_wp2_with fail
        clear k0Bs k1Bs k2Bs k0Bt k1Bt k2Bt
        refine (radd_walk xs xt _ (Ls.out.few (by decide)).few (Lt.out.few (by decide)).few).mono ?_
        rintro e w11 ⟨rfl, hb11⟩
        replace Bs := Lib.hid (Bs.out.below hb11)
        replace Bt := Lib.hid (Bt.out.below hb11)
        replace Vp := Lib.hid (Vp.out.below hb11)
        replace HB := Lib.hid (HB.out.trans (hb11.mono HB.out.size))
        replace HT := Lib.hid (HT.out.below hb11)
        clear hb11
        have k0Bs := Bs.out.c0
        have k1Bs := Bs.out.c1
        have k2Bs := Bs.out.1.lt
        have k0Bt := Bt.out.c0
        have k1Bt := Bt.out.c1
        have k2Bt := Bt.out.1.lt
        go_wp2_with fail
        clear k0Bs k1Bs k2Bs k0Bt k1Bt k2Bt
        refine (sub_walk _ _ xs xt _ Bs.out.2 Bt.out.2 (Ls.out.l1 (by decide)) (Lt.out.l1 (by decide))).mono ?_
        rintro e w12 ⟨vm, rfl, hvm, hb12⟩
        obtain ⟨sm, Am, lm, cm, rfl⟩ := hvm.shape
        have Vm := Lib.hid hvm
        clear hvm
        replace Bs := Lib.hid (Bs.out.below hb12)
        replace Bt := Lib.hid (Bt.out.below hb12)
        replace Vp := Lib.hid (Vp.out.below hb12)
        replace HB := Lib.hid (HB.out.trans (hb12.mono HB.out.size))
        replace HT := Lib.hid (HT.out.below hb12)
        clear hb12
        have k0Bs := Bs.out.c0
        have k1Bs := Bs.out.c1
        have k2Bs := Bs.out.1.lt
        have k0Bt := Bt.out.c0
        have k1Bt := Bt.out.c1
        have k2Bt := Bt.out.1.lt
        go_wp2_with fail
        clear k0Bs k1Bs k2Bs k0Bt k1Bt k2Bt
        refine (text_lim _ (xs - xt) 121 _ Vm.out (Ls.out.sub Lt.out) (by decide) HT.out).mono ?_
        rintro e w13 ⟨rfl, hb13⟩
        replace Bs := Lib.hid (Bs.out.below hb13)
        replace Bt := Lib.hid (Bt.out.below hb13)
        replace Vp := Lib.hid (Vp.out.below hb13)
        replace Vm := Lib.hid (Vm.out.below hb13)
        replace HB := Lib.hid (HB.out.trans (hb13.mono HB.out.size))
        replace HT := Lib.hid (HT.out.below hb13)
        clear hb13
        have k0Bs := Bs.out.c0
        have k1Bs := Bs.out.c1
        have k2Bs := Bs.out.1.lt
        have k0Bt := Bt.out.c0
        have k1Bt := Bt.out.c1
        have k2Bt := Bt.out.1.lt
        go_wp2_with fail
        clear k0Bs k1Bs k2Bs k0Bt k1Bt k2Bt
        refine (rsub_walk xs xt _ (Ls.out.few (by decide)).few (Lt.out.few (by decide)).few).mono ?_
        rintro e w14 ⟨rfl, hb14⟩
        replace Bs := Lib.hid (Bs.out.below hb14)
        replace Bt := Lib.hid (Bt.out.below hb14)
        replace Vp := Lib.hid (Vp.out.below hb14)
        replace Vm := Lib.hid (Vm.out.below hb14)
        replace HB := Lib.hid (HB.out.trans (hb14.mono HB.out.size))
        replace HT := Lib.hid (HT.out.below hb14)
        clear hb14
        have k0Bs := Bs.out.c0
        have k1Bs := Bs.out.c1
        have k2Bs := Bs.out.1.lt
        have k0Bt := Bt.out.c0
        have k1Bt := Bt.out.c1
        have k2Bt := Bt.out.1.lt
        go_wp2_with fail
        clear k0Bs k1Bs k2Bs k0Bt k1Bt k2Bt
        refine (neg_walk _ xs _ Bs.out.2).mono ?_
        rintro e w15 ⟨vn, rfl, hvn, hb15⟩
        obtain ⟨sn, An, ln, cn, rfl⟩ := hvn.shape
        have Vn := Lib.hid hvn
        clear hvn
        replace Bs := Lib.hid (Bs.out.below hb15)
        replace Bt := Lib.hid (Bt.out.below hb15)
        replace Vp := Lib.hid (Vp.out.below hb15)
        replace Vm := Lib.hid (Vm.out.below hb15)
        replace HB := Lib.hid (HB.out.trans (hb15.mono HB.out.size))
        replace HT := Lib.hid (HT.out.below hb15)
        clear hb15
        have k0Bs := Bs.out.c0
        have k1Bs := Bs.out.c1
        have k2Bs := Bs.out.1.lt
        have k0Bt := Bt.out.c0
        have k1Bt := Bt.out.c1
        have k2Bt := Bt.out.1.lt
        go_wp2_with fail
        clear k0Bs k1Bs k2Bs k0Bt k1Bt k2Bt
        refine (text_lim _ (-xs) 120 _ Vn.out Ls.out.neg (by decide) HT.out).mono ?_
        rintro e w16 ⟨rfl, hb16⟩
        replace Bs := Lib.hid (Bs.out.below hb16)
        replace Bt := Lib.hid (Bt.out.below hb16)
        replace Vp := Lib.hid (Vp.out.below hb16)
        replace Vm := Lib.hid (Vm.out.below hb16)
        replace Vn := Lib.hid (Vn.out.below hb16)
        replace HB := Lib.hid (HB.out.trans (hb16.mono HB.out.size))
        replace HT := Lib.hid (HT.out.below hb16)
        clear hb16
        have k0Bs := Bs.out.c0
        have k1Bs := Bs.out.c1
        have k2Bs := Bs.out.1.lt
        have k0Bt := Bt.out.c0
        have k1Bt := Bt.out.c1
        have k2Bt := Bt.out.1.lt
        go_wp2_with fail
        clear k0Bs k1Bs k2Bs k0Bt k1Bt k2Bt
        refine (rneg_walk xs _ (Ls.out.few (by decide)).few).mono ?_
        rintro e w17 ⟨rfl, hb17⟩
        replace Bs := Lib.hid (Bs.out.below hb17)
        replace Bt := Lib.hid (Bt.out.below hb17)
        replace Vp := Lib.hid (Vp.out.below hb17)
        replace Vm := Lib.hid (Vm.out.below hb17)
        replace Vn := Lib.hid (Vn.out.below hb17)
        replace HB := Lib.hid (HB.out.trans (hb17.mono HB.out.size))
        replace HT := Lib.hid (HT.out.below hb17)
        clear hb17
        have k0Bs := Bs.out.c0
        have k1Bs := Bs.out.c1
        have k2Bs := Bs.out.1.lt
        have k0Bt := Bt.out.c0
        have k1Bt := Bt.out.c1
        have k2Bt := Bt.out.1.lt
        go_wp2_with fail
        clear k0Bs k1Bs k2Bs k0Bt k1Bt k2Bt
        refine (abs_walk _ xs _ Bs.out.2).mono ?_
        rintro e w18 ⟨va, rfl, hva, hb18⟩
        obtain ⟨sa, Aa, la, ca, rfl⟩ := hva.shape
        have Va := Lib.hid hva
        clear hva
        replace Bs := Lib.hid (Bs.out.below hb18)
        replace Bt := Lib.hid (Bt.out.below hb18)
        replace Vp := Lib.hid (Vp.out.below hb18)
        replace Vm := Lib.hid (Vm.out.below hb18)
        replace Vn := Lib.hid (Vn.out.below hb18)
        replace HB := Lib.hid (HB.out.trans (hb18.mono HB.out.size))
        replace HT := Lib.hid (HT.out.below hb18)
        clear hb18
        have k0Bs := Bs.out.c0
        have k1Bs := Bs.out.c1
        have k2Bs := Bs.out.1.lt
        have k0Bt := Bt.out.c0
        have k1Bt := Bt.out.c1
        have k2Bt := Bt.out.1.lt
        go_wp2_with fail
        clear k0Bs k1Bs k2Bs k0Bt k1Bt k2Bt
        refine (text_lim _ (xs.natAbs : Nat) 120 _ Va.out Ls.out.abs (by decide) HT.out).mono ?_
        rintro e w19 ⟨rfl, hb19⟩
        rw [show ((xs.natAbs : Nat) : Int) = xs by have := HN.out; omega]
        replace Bs := Lib.hid (Bs.out.below hb19)
        replace Bt := Lib.hid (Bt.out.below hb19)
        replace Vp := Lib.hid (Vp.out.below hb19)
        replace Vm := Lib.hid (Vm.out.below hb19)
        replace Vn := Lib.hid (Vn.out.below hb19)
        replace Va := Lib.hid (Va.out.below hb19)
        replace HB := Lib.hid (HB.out.trans (hb19.mono HB.out.size))
        replace HT := Lib.hid (HT.out.below hb19)
        clear hb19
        have k0Bs := Bs.out.c0
        have k1Bs := Bs.out.c1
        have k2Bs := Bs.out.1.lt
        have k0Bt := Bt.out.c0
        have k1Bt := Bt.out.c1
        have k2Bt := Bt.out.1.lt
        go_wp2_with fail
        clear k0Bs k1Bs k2Bs k0Bt k1Bt k2Bt
        refine (text_lim _ xs 120 _ Bs.out.2 Ls.out (by decide) HT.out).mono ?_
        rintro e w20 ⟨rfl, hb20⟩
        replace Bs := Lib.hid (Bs.out.below hb20)
        replace Bt := Lib.hid (Bt.out.below hb20)
        replace Vp := Lib.hid (Vp.out.below hb20)
        replace Vm := Lib.hid (Vm.out.below hb20)
        replace Vn := Lib.hid (Vn.out.below hb20)
        replace Va := Lib.hid (Va.out.below hb20)
        replace HB := Lib.hid (HB.out.trans (hb20.mono HB.out.size))
        replace HT := Lib.hid (HT.out.below hb20)
        clear hb20
        have k0Bs := Bs.out.c0
        have k1Bs := Bs.out.c1
        have k2Bs := Bs.out.1.lt
        have k0Bt := Bt.out.c0
        have k1Bt := Bt.out.c1
        have k2Bt := Bt.out.1.lt
        go_wp2_with fail
        clear k0Bs k1Bs k2Bs k0Bt k1Bt k2Bt
        refine (text_lim _ xt 120 _ Bt.out.2 Lt.out (by decide) HT.out).mono ?_
        rintro e w21 ⟨rfl, hb21⟩
        replace Bs := Lib.hid (Bs.out.below hb21)
        replace Bt := Lib.hid (Bt.out.below hb21)
        replace Vp := Lib.hid (Vp.out.below hb21)
        replace Vm := Lib.hid (Vm.out.below hb21)
        replace Vn := Lib.hid (Vn.out.below hb21)
        replace Va := Lib.hid (Va.out.below hb21)
        replace HB := Lib.hid (HB.out.trans (hb21.mono HB.out.size))
        replace HT := Lib.hid (HT.out.below hb21)
        clear hb21
        have k0Bs := Bs.out.c0
        have k1Bs := Bs.out.c1
        have k2Bs := Bs.out.1.lt
        have k0Bt := Bt.out.c0
        have k1Bt := Bt.out.c1
        have k2Bt := Bt.out.1.lt
        go_wp2_with fail
        go_returns
        exact ⟨rfl, HB.out⟩
    · have HNt := Lib.hid ht
      have HKs := Lib.hid hs
      clear hs ht
      go_enter Tryd.func9, Tryd.ntmps9
      go_wp2_with fail
      refine (known_walk _ HT.out).mono ?_
      rintro e w1 ⟨rfl, hb1⟩
      replace HB := Lib.hid (HB.out.trans (hb1.mono HB.out.size))
      replace HT := Lib.hid (HT.out.below hb1)
      clear hb1
      go_wp2_with fail
      refine (right_yes s _ HKs.out).mono ?_
      rintro e w2 ⟨rfl, rfl⟩
      go_wp2_with fail
      refine (right_no t _ HNt.out hzt).mono ?_
      rintro e w3 ⟨rfl, rfl⟩
      go_wp2_with fail
      refine (known_walk _ HT.out).mono ?_
      rintro e w4 ⟨rfl, hb4⟩
      replace HB := Lib.hid (HB.out.trans (hb4.mono HB.out.size))
      replace HT := Lib.hid (HT.out.below hb4)
      clear hb4
      go_wp2_with fail
      go_returns
      exact ⟨rfl, HB.out⟩
  · have HNs := Lib.hid hs
    clear hs
    go_enter Tryd.func9, Tryd.ntmps9
    go_wp2_with fail
    refine (known_walk _ HT.out).mono ?_
    rintro e w1 ⟨rfl, hb1⟩
    replace HB := Lib.hid (HB.out.trans (hb1.mono HB.out.size))
    replace HT := Lib.hid (HT.out.below hb1)
    clear hb1
    go_wp2_with fail
    refine (right_no s _ HNs.out hzs).mono ?_
    rintro e w2 ⟨rfl, rfl⟩
    go_wp2_with fail
    refine (known_walk _ HT.out).mono ?_
    rintro e w3 ⟨rfl, hb3⟩
    replace HB := Lib.hid (HB.out.trans (hb3.mono HB.out.size))
    replace HT := Lib.hid (HT.out.below hb3)
    clear hb3
    go_wp2_with fail
    go_returns
    exact ⟨rfl, HB.out⟩
end Go.Proofs.YtjeaemoiafamaaaDoor
