/- IntegerOrder: the law holds at every three strings. -/
import Derived.Test.YtjeaemoiafamaaaDoorPkE
namespace Go.Proofs.YtjeaemoiafamaaaDoor
open Go.RowKit

theorem cmp_sub {n a b : Int} (h : n = cmpI a b) : sgI (a - b) = n := by
  rw [h]; unfold sgI cmpI
  by_cases h1 : a < b
  · rw [if_pos (by omega), if_pos h1]
  · by_cases h2 : a = b
    · rw [if_neg (by omega), if_pos (by omega), if_neg h1, if_pos h2]
    · rw [if_neg (by omega), if_neg (by omega), if_neg h1, if_neg h2]
theorem cmp_of {a b c d : Int} (h1 : a < b ↔ c < d) (h2 : a = b ↔ c = d) : cmpI a b = cmpI c d := by unfold cmpI; simp only [h1, h2]
theorem cmp_add {n a b c : Int} (h : n = cmpI a b) : cmpI (a + c) (b + c) = n := by
  rw [h]; exact cmp_of (by omega) (by omega)
theorem cmp_mul {n a b c : Int} (h : n = cmpI a b) (hc : 0 < c) : cmpI (a * c) (b * c) = n := by
  rw [h]
  refine cmp_of ⟨fun h => Int.lt_of_mul_lt_mul_right h (by omega), fun h => Int.mul_lt_mul_of_pos_right h hc⟩ ⟨fun h => Int.eq_of_mul_eq_mul_right (by omega) h, fun h => by rw [h]⟩
theorem cmp_le {n a b : Int} (h : n = cmpI a b) : n ≤ 0 ↔ a ≤ b := by
  rw [h]; unfold cmpI; split <;> (try split) <;> omega
theorem cmp_trans {n m o a b c : Int} (h1 : n = cmpI a b) (h2 : m = cmpI b c) (h3 : o = cmpI a c) (hn : n ≤ 0) (hm : m ≤ 0) : o ≤ 0 := by
  have := (cmp_le h1).1 hn
  have := (cmp_le h2).1 hm
  exact (cmp_le h3).2 (by omega)

set_option maxHeartbeats 3200000 in
theorem Order_law (s t u : ByteArray) (w : World) (ht : Tab w) (hzs : s.size ≤ 9223372036854775807) (hzt : t.size ≤ 9223372036854775807) (hzu : u.size ≤ 9223372036854775807) :
    Calls Tryd.prog 11 #[.string s, .string t, .string u] w fun e w' => e = .returned (.bool true) ∧ Below w.heap.size w w' := by
  have HT := Lib.hid ht
  have HB : Hid (Below w.heap.size w w) := Lib.hid (Below.refl _ _)
  clear ht
  by_cases hs : okS s
  · skip
    by_cases ht : okS t
    · skip
      by_cases hu : okS u
      · skip
        obtain ⟨xs, hts, _, _⟩ := chk_ok hs.2
        have hxs : s = txt xs := by apply ByteArray.ext; apply Array.toList_inj.1; rw [hts, txt_list]
        have Ls := Lib.hid (lim_text hxs hs.1)
        have HXs := Lib.hid hxs
        have HKs := Lib.hid hs
        clear hts hxs hs
        obtain ⟨xt, htt, _, _⟩ := chk_ok ht.2
        have hxt : t = txt xt := by apply ByteArray.ext; apply Array.toList_inj.1; rw [htt, txt_list]
        have Lt := Lib.hid (lim_text hxt ht.1)
        have HXt := Lib.hid hxt
        have HKt := Lib.hid ht
        clear htt hxt ht
        obtain ⟨xu, htu, _, _⟩ := chk_ok hu.2
        have hxu : u = txt xu := by apply ByteArray.ext; apply Array.toList_inj.1; rw [htu, txt_list]
        have Lu := Lib.hid (lim_text hxu hu.1)
        have HXu := Lib.hid hxu
        have HKu := Lib.hid hu
        clear htu hxu hu
        go_enter Tryd.func11, Tryd.ntmps11
        go_wp2_with fail
        refine (known_walk _ HT.out).mono ?_
        rintro e w1 ⟨rfl, hb1⟩
        replace HB := Lib.hid (HB.out.trans (hb1.mono HB.out.size))
        replace HT := Lib.hid (HT.out.below hb1)
        clear hb1
        go_wp2_with fail
        refine (right_yes s _ HKs.out).mono ?_
        rintro e w2 ⟨rfl, rfl⟩
        go_wp2_with fail
        refine (right_yes t _ HKt.out).mono ?_
        rintro e w3 ⟨rfl, rfl⟩
        go_wp2_with fail
        refine (right_yes u _ HKu.out).mono ?_
        rintro e w4 ⟨rfl, rfl⟩
        have hxs := HXs.out
        subst hxs
        have hxt := HXt.out
        subst hxt
        have hxu := HXu.out
        subst hxu
        go_wp2_with fail
        refine (read_ok _ xs _ HKs.out rfl).mono ?_
        rintro e w5 ⟨vs, rfl, hvs, hb5⟩
        obtain ⟨ss, As, ls, cs, rfl⟩ := hvs.shape
        have Vs := Lib.hid hvs
        clear hvs
        replace HB := Lib.hid (HB.out.trans (hb5.mono HB.out.size))
        replace HT := Lib.hid (HT.out.below hb5)
        clear hb5
        have Bs := Lib.hid (Box.made Vs.out)
        have hn6 := below_new w5 (.cells #[.bool ss, .slice As ls cs] 25)
        replace HB := Lib.hid (HB.out.trans (hn6.mono HB.out.size))
        replace HT := Lib.hid (HT.out.below hn6)
        obtain ⟨w6, hw6⟩ : ∃ w6, w6 = w5.alloc (.cells #[.bool ss, .slice As ls cs] 25) := ⟨_, rfl⟩
        rw [← hw6] at Bs HB HT
        clear hn6 Vs
        go_wp2_with fail
        rw [← hw6]
        clear hw6
        refine (read_ok _ xt _ HKt.out rfl).mono ?_
        rintro e w7 ⟨vt, rfl, hvt, hb7⟩
        obtain ⟨st, At, lt, ct, rfl⟩ := hvt.shape
        have Vt := Lib.hid hvt
        clear hvt
        replace Bs := Lib.hid (Bs.out.below hb7)
        replace HB := Lib.hid (HB.out.trans (hb7.mono HB.out.size))
        replace HT := Lib.hid (HT.out.below hb7)
        clear hb7
        have k0Bs := Bs.out.c0
        have k1Bs := Bs.out.c1
        have k2Bs := Bs.out.1.lt
        have Bt := Lib.hid (Box.made Vt.out)
        have hn8 := below_new w7 (.cells #[.bool st, .slice At lt ct] 25)
        replace Bs := Lib.hid (Bs.out.below hn8)
        replace HB := Lib.hid (HB.out.trans (hn8.mono HB.out.size))
        replace HT := Lib.hid (HT.out.below hn8)
        obtain ⟨w8, hw8⟩ : ∃ w8, w8 = w7.alloc (.cells #[.bool st, .slice At lt ct] 25) := ⟨_, rfl⟩
        rw [← hw8] at Bs Bt HB HT
        clear hn8 Vt
        go_wp2_with fail
        rw [← hw8]
        clear hw8
        clear k0Bs k1Bs k2Bs
        refine (read_ok _ xu _ HKu.out rfl).mono ?_
        rintro e w9 ⟨vu, rfl, hvu, hb9⟩
        obtain ⟨su, Au, lu, cu, rfl⟩ := hvu.shape
        have Vu := Lib.hid hvu
        clear hvu
        replace Bs := Lib.hid (Bs.out.below hb9)
        replace Bt := Lib.hid (Bt.out.below hb9)
        replace HB := Lib.hid (HB.out.trans (hb9.mono HB.out.size))
        replace HT := Lib.hid (HT.out.below hb9)
        clear hb9
        have k0Bs := Bs.out.c0
        have k1Bs := Bs.out.c1
        have k2Bs := Bs.out.1.lt
        have k0Bt := Bt.out.c0
        have k1Bt := Bt.out.c1
        have k2Bt := Bt.out.1.lt
        have Bu := Lib.hid (Box.made Vu.out)
        have hn10 := below_new w9 (.cells #[.bool su, .slice Au lu cu] 25)
        replace Bs := Lib.hid (Bs.out.below hn10)
        replace Bt := Lib.hid (Bt.out.below hn10)
        replace HB := Lib.hid (HB.out.trans (hn10.mono HB.out.size))
        replace HT := Lib.hid (HT.out.below hn10)
        obtain ⟨w10, hw10⟩ : ∃ w10, w10 = w9.alloc (.cells #[.bool su, .slice Au lu cu] 25) := ⟨_, rfl⟩
        rw [← hw10] at Bs Bt Bu HB HT
        clear hn10 Vu
        obtain ⟨n, hn⟩ : ∃ n, n = cmpI xs xt := ⟨_, rfl⟩
        have HNE := Lib.hid hn
        have hcab := fun va vb W h1 h2 => compare_walk va vb xs xt W h1 h2 (Ls.out.l1 (by decide)) (Lt.out.l1 (by decide))
        rw [← hn] at hcab
        have HCAB := Lib.hid hcab
        clear hcab hn
        go_wp2_with fail
        rw [← hw10]
        clear hw10
        clear k0Bs k1Bs k2Bs k0Bt k1Bt k2Bt
        refine (HCAB.out _ _ _ Bs.out.2 Bt.out.2).mono ?_
        rintro e w11 ⟨rfl, hb11⟩
        replace Bs := Lib.hid (Bs.out.below hb11)
        replace Bt := Lib.hid (Bt.out.below hb11)
        replace Bu := Lib.hid (Bu.out.below hb11)
        replace HB := Lib.hid (HB.out.trans (hb11.mono HB.out.size))
        replace HT := Lib.hid (HT.out.below hb11)
        clear hb11
        have k0Bs := Bs.out.c0
        have k1Bs := Bs.out.c1
        have k2Bs := Bs.out.1.lt
        have k0Bt := Bt.out.c0
        have k1Bt := Bt.out.c1
        have k2Bt := Bt.out.1.lt
        have k0Bu := Bu.out.c0
        have k1Bu := Bu.out.c1
        have k2Bu := Bu.out.1.lt
        go_wp2_with fail
        clear k0Bs k1Bs k2Bs k0Bt k1Bt k2Bt k0Bu k1Bu k2Bu
        have HRG : Hid (Below w11.heap.size w11 w11) := Lib.hid (Below.refl _ _)
        have g0Bs := Bs.out.c0
        have g1Bs := Bs.out.c1
        have glBs := Bs.out.1.lt
        have g0Bt := Bt.out.c0
        have g1Bt := Bt.out.c1
        have glBt := Bt.out.1.lt
        have g0Bu := Bu.out.c0
        have g1Bu := Bu.out.c1
        have glBu := Bu.out.1.lt
        have KS : Hid (∀ w', Below w11.heap.size w11 w' → (w'.cell? ⟨w5.heap.size, 0, none⟩ = some (.bool ss) ∧ w'.cell? ⟨w5.heap.size, 1, none⟩ = some (.slice As ls cs) ∧ w'.cell? ⟨w7.heap.size, 0, none⟩ = some (.bool st) ∧ w'.cell? ⟨w7.heap.size, 1, none⟩ = some (.slice At lt ct) ∧ w'.cell? ⟨w9.heap.size, 0, none⟩ = some (.bool su) ∧ w'.cell? ⟨w9.heap.size, 1, none⟩ = some (.slice Au lu cu))) := Lib.hid (fun w' hb => ⟨((bbelow hb).1 w5.heap.size 0 glBs).trans g0Bs, ((bbelow hb).1 w5.heap.size 1 glBs).trans g1Bs, ((bbelow hb).1 w7.heap.size 0 glBt).trans g0Bt, ((bbelow hb).1 w7.heap.size 1 glBt).trans g1Bt, ((bbelow hb).1 w9.heap.size 0 glBu).trans g0Bu, ((bbelow hb).1 w9.heap.size 1 glBu).trans g1Bu⟩)
        have tok0 : True := trivial
        have tok1 : True := trivial
        have tok2 : True := trivial
        have tok3 : True := trivial
        have tok4 : True := trivial
        go_region_held3 (fun w' => w'.cell? ⟨w5.heap.size, 0, none⟩ = some (.bool ss) ∧ w'.cell? ⟨w5.heap.size, 1, none⟩ = some (.slice As ls cs) ∧ w'.cell? ⟨w7.heap.size, 0, none⟩ = some (.bool st) ∧ w'.cell? ⟨w7.heap.size, 1, none⟩ = some (.slice At lt ct) ∧ w'.cell? ⟨w9.heap.size, 0, none⟩ = some (.bool su) ∧ w'.cell? ⟨w9.heap.size, 1, none⟩ = some (.slice Au lu cu))
          (first | (with_reducible exact ⟨g0Bs, g1Bs, g0Bt, g1Bt, g0Bu, g1Bu⟩) | (with_reducible exact KS.out _ HRG.out) | (exact KS.out _ (HRG.out.trans ((below_new _ _).mono HRG.out.size))) | (exact KS.out _ (HRG.out.trans (((below_new _ _).drew).mono HRG.out.size))) | go_keep)
          (first
            | (go_at_call 37
               have _t := tok0
               refine (sub_walk _ _ xs xt _ (by exact Bs.out.2) (by exact Bt.out.2) (Ls.out.l1 (by decide)) (Lt.out.l1 (by decide))).mono ?_
               rintro e w12 ⟨vd, rfl, hvd, hb12⟩
               have hb12 : Below w11.heap.size w11 w12 := by first | exact hb12 | exact (Below.refl _ _).drew.trans hb12 | exact (below_drewN _ _ _).trans hb12 | exact (below_new _ _).trans (hb12.mono (below_new _ _).size)
               have Vd := Lib.hid hvd
               replace Bs := Lib.hid (Bs.out.below hb12)
               replace Bt := Lib.hid (Bt.out.below hb12)
               replace Bu := Lib.hid (Bu.out.below hb12)
               replace HB := Lib.hid (HB.out.trans (hb12.mono HB.out.size))
               replace HT := Lib.hid (HT.out.below hb12)
               replace HRG := Lib.hid (HRG.out.trans (hb12.mono HRG.out.size))
               clear hb12 tok0 _t hvd)
            | (go_at_call 19
               have _t := tok1
               refine (sign_walk _ (xs - xt) _ (by exact Vd.out)).mono ?_
               rintro e w13 ⟨rfl, hb13⟩
               rw [cmp_sub HNE.out]
               have hb13 : Below w12.heap.size w12 w13 := by first | exact hb13 | exact (Below.refl _ _).drew.trans hb13 | exact (below_drewN _ _ _).trans hb13 | exact (below_new _ _).trans (hb13.mono (below_new _ _).size)
               replace Bs := Lib.hid (Bs.out.below hb13)
               replace Bt := Lib.hid (Bt.out.below hb13)
               replace Bu := Lib.hid (Bu.out.below hb13)
               replace Vd := Lib.hid (Vd.out.below hb13)
               replace HB := Lib.hid (HB.out.trans (hb13.mono HB.out.size))
               replace HT := Lib.hid (HT.out.below hb13)
               replace HRG := Lib.hid (HRG.out.trans (hb13.mono HRG.out.size))
               clear hb13 tok1 _t)
            | (go_at_call 35
               have _t := tok2
               refine (add_walk _ _ xs xu _ (by exact Bs.out.2) (by exact Bu.out.2) (Ls.out.l1 (by decide)) (Lu.out.l1 (by decide))).mono ?_
               rintro e w14 ⟨vp, rfl, hvp, hb14⟩
               have hb14 : Below w13.heap.size w13 w14 := by first | exact hb14 | exact (Below.refl _ _).drew.trans hb14 | exact (below_drewN _ _ _).trans hb14 | exact (below_new _ _).trans (hb14.mono (below_new _ _).size)
               have Vp := Lib.hid hvp
               replace Bs := Lib.hid (Bs.out.below hb14)
               replace Bt := Lib.hid (Bt.out.below hb14)
               replace Bu := Lib.hid (Bu.out.below hb14)
               replace Vd := Lib.hid (Vd.out.below hb14)
               replace HB := Lib.hid (HB.out.trans (hb14.mono HB.out.size))
               replace HT := Lib.hid (HT.out.below hb14)
               replace HRG := Lib.hid (HRG.out.trans (hb14.mono HRG.out.size))
               clear hb14 tok2 _t hvp)
            | (go_at_call 35
               have _t := tok3
               refine (add_walk _ _ xt xu _ (by exact Bt.out.2) (by exact Bu.out.2) (Lt.out.l1 (by decide)) (Lu.out.l1 (by decide))).mono ?_
               rintro e w15 ⟨vq, rfl, hvq, hb15⟩
               have hb15 : Below w14.heap.size w14 w15 := by first | exact hb15 | exact (Below.refl _ _).drew.trans hb15 | exact (below_drewN _ _ _).trans hb15 | exact (below_new _ _).trans (hb15.mono (below_new _ _).size)
               have Vq := Lib.hid hvq
               replace Bs := Lib.hid (Bs.out.below hb15)
               replace Bt := Lib.hid (Bt.out.below hb15)
               replace Bu := Lib.hid (Bu.out.below hb15)
               replace Vd := Lib.hid (Vd.out.below hb15)
               replace Vp := Lib.hid (Vp.out.below hb15)
               replace HB := Lib.hid (HB.out.trans (hb15.mono HB.out.size))
               replace HT := Lib.hid (HT.out.below hb15)
               replace HRG := Lib.hid (HRG.out.trans (hb15.mono HRG.out.size))
               clear hb15 tok3 _t hvq)
            | (go_at_call 20
               have _t := tok4
               refine (compare_walk _ _ (xs + xu) (xt + xu) _ (by exact Vp.out) (by exact Vq.out) ((Ls.out.add Lu.out).l1 (by decide)) ((Lt.out.add Lu.out).l1 (by decide))).mono ?_
               rintro e w16 ⟨rfl, hb16⟩
               rw [cmp_add HNE.out]
               have hb16 : Below w15.heap.size w15 w16 := by first | exact hb16 | exact (Below.refl _ _).drew.trans hb16 | exact (below_drewN _ _ _).trans hb16 | exact (below_new _ _).trans (hb16.mono (below_new _ _).size)
               replace Bs := Lib.hid (Bs.out.below hb16)
               replace Bt := Lib.hid (Bt.out.below hb16)
               replace Bu := Lib.hid (Bu.out.below hb16)
               replace Vd := Lib.hid (Vd.out.below hb16)
               replace Vp := Lib.hid (Vp.out.below hb16)
               replace Vq := Lib.hid (Vq.out.below hb16)
               replace HB := Lib.hid (HB.out.trans (hb16.mono HB.out.size))
               replace HT := Lib.hid (HT.out.below hb16)
               replace HRG := Lib.hid (HRG.out.trans (hb16.mono HRG.out.size))
               clear hb16 tok4 _t))
        clear g0Bs g1Bs glBs g0Bt g1Bt glBt g0Bu g1Bu glBu KS HRG
        have k0Bs := Bs.out.c0
        have k1Bs := Bs.out.c1
        have k2Bs := Bs.out.1.lt
        have k0Bt := Bt.out.c0
        have k1Bt := Bt.out.c1
        have k2Bt := Bt.out.1.lt
        have k0Bu := Bu.out.c0
        have k1Bu := Bu.out.c1
        have k2Bu := Bu.out.1.lt
        clear Vd Vp Vq
        by_cases hu : 0 < xu
        · have hup : 0 < sgI xu := sgI_pos.2 hu
          have HU := Lib.hid hu
          clear hu
          go_wp2_with fail
          clear k0Bs k1Bs k2Bs k0Bt k1Bt k2Bt k0Bu k1Bu k2Bu
          have HRG : Hid (Below w16.heap.size w16 w16) := Lib.hid (Below.refl _ _)
          have g0Bs := Bs.out.c0
          have g1Bs := Bs.out.c1
          have glBs := Bs.out.1.lt
          have g0Bt := Bt.out.c0
          have g1Bt := Bt.out.c1
          have glBt := Bt.out.1.lt
          have g0Bu := Bu.out.c0
          have g1Bu := Bu.out.c1
          have glBu := Bu.out.1.lt
          have KS : Hid (∀ w', Below w16.heap.size w16 w' → (w'.cell? ⟨w5.heap.size, 0, none⟩ = some (.bool ss) ∧ w'.cell? ⟨w5.heap.size, 1, none⟩ = some (.slice As ls cs) ∧ w'.cell? ⟨w7.heap.size, 0, none⟩ = some (.bool st) ∧ w'.cell? ⟨w7.heap.size, 1, none⟩ = some (.slice At lt ct) ∧ w'.cell? ⟨w9.heap.size, 0, none⟩ = some (.bool su) ∧ w'.cell? ⟨w9.heap.size, 1, none⟩ = some (.slice Au lu cu))) := Lib.hid (fun w' hb => ⟨((bbelow hb).1 w5.heap.size 0 glBs).trans g0Bs, ((bbelow hb).1 w5.heap.size 1 glBs).trans g1Bs, ((bbelow hb).1 w7.heap.size 0 glBt).trans g0Bt, ((bbelow hb).1 w7.heap.size 1 glBt).trans g1Bt, ((bbelow hb).1 w9.heap.size 0 glBu).trans g0Bu, ((bbelow hb).1 w9.heap.size 1 glBu).trans g1Bu⟩)
          have tok0 : True := trivial
          have tok1 : True := trivial
          have tok2 : True := trivial
          have tok3 : True := trivial
          go_region_held3 (fun w' => w'.cell? ⟨w5.heap.size, 0, none⟩ = some (.bool ss) ∧ w'.cell? ⟨w5.heap.size, 1, none⟩ = some (.slice As ls cs) ∧ w'.cell? ⟨w7.heap.size, 0, none⟩ = some (.bool st) ∧ w'.cell? ⟨w7.heap.size, 1, none⟩ = some (.slice At lt ct) ∧ w'.cell? ⟨w9.heap.size, 0, none⟩ = some (.bool su) ∧ w'.cell? ⟨w9.heap.size, 1, none⟩ = some (.slice Au lu cu))
            (first | (with_reducible exact ⟨g0Bs, g1Bs, g0Bt, g1Bt, g0Bu, g1Bu⟩) | (with_reducible exact KS.out _ HRG.out) | (exact KS.out _ (HRG.out.trans ((below_new _ _).mono HRG.out.size))) | (exact KS.out _ (HRG.out.trans (((below_new _ _).drew).mono HRG.out.size))) | go_keep)
            (first
              | (go_at_call 19
                 have _t := tok0
                 refine (sign_walk _ xu _ (by exact Bu.out.2)).mono ?_
                 rintro e w17 ⟨rfl, hb17⟩
                 have hb17 : Below w16.heap.size w16 w17 := by first | exact hb17 | exact (Below.refl _ _).drew.trans hb17 | exact (below_drewN _ _ _).trans hb17 | exact (below_new _ _).trans (hb17.mono (below_new _ _).size)
                 replace Bs := Lib.hid (Bs.out.below hb17)
                 replace Bt := Lib.hid (Bt.out.below hb17)
                 replace Bu := Lib.hid (Bu.out.below hb17)
                 replace HB := Lib.hid (HB.out.trans (hb17.mono HB.out.size))
                 replace HT := Lib.hid (HT.out.below hb17)
                 replace HRG := Lib.hid (HRG.out.trans (hb17.mono HRG.out.size))
                 clear hb17 tok0 _t)
              | (go_at_call 25
                 have _t := tok1
                 refine (mul_walk _ _ xs xu _ (by exact Bs.out.2) (by exact Bu.out.2) (Ls.out.l1 (by decide)) (Lu.out.l1 (by decide))).mono ?_
                 rintro e w18 ⟨vp, rfl, hvp, hb18⟩
                 have hb18 : Below w17.heap.size w17 w18 := by first | exact hb18 | exact (Below.refl _ _).drew.trans hb18 | exact (below_drewN _ _ _).trans hb18 | exact (below_new _ _).trans (hb18.mono (below_new _ _).size)
                 have Vp := Lib.hid hvp
                 replace Bs := Lib.hid (Bs.out.below hb18)
                 replace Bt := Lib.hid (Bt.out.below hb18)
                 replace Bu := Lib.hid (Bu.out.below hb18)
                 replace HB := Lib.hid (HB.out.trans (hb18.mono HB.out.size))
                 replace HT := Lib.hid (HT.out.below hb18)
                 replace HRG := Lib.hid (HRG.out.trans (hb18.mono HRG.out.size))
                 clear hb18 tok1 _t hvp)
              | (go_at_call 25
                 have _t := tok2
                 refine (mul_walk _ _ xt xu _ (by exact Bt.out.2) (by exact Bu.out.2) (Lt.out.l1 (by decide)) (Lu.out.l1 (by decide))).mono ?_
                 rintro e w19 ⟨vq, rfl, hvq, hb19⟩
                 have hb19 : Below w18.heap.size w18 w19 := by first | exact hb19 | exact (Below.refl _ _).drew.trans hb19 | exact (below_drewN _ _ _).trans hb19 | exact (below_new _ _).trans (hb19.mono (below_new _ _).size)
                 have Vq := Lib.hid hvq
                 replace Bs := Lib.hid (Bs.out.below hb19)
                 replace Bt := Lib.hid (Bt.out.below hb19)
                 replace Bu := Lib.hid (Bu.out.below hb19)
                 replace Vp := Lib.hid (Vp.out.below hb19)
                 replace HB := Lib.hid (HB.out.trans (hb19.mono HB.out.size))
                 replace HT := Lib.hid (HT.out.below hb19)
                 replace HRG := Lib.hid (HRG.out.trans (hb19.mono HRG.out.size))
                 clear hb19 tok2 _t hvq)
              | (go_at_call 20
                 have _t := tok3
                 refine (compare_walk _ _ (xs * xu) (xt * xu) _ (by exact Vp.out) (by exact Vq.out) ((Ls.out.mul Lu.out).l1 (by decide)) ((Lt.out.mul Lu.out).l1 (by decide))).mono ?_
                 rintro e w20 ⟨rfl, hb20⟩
                 rw [cmp_mul HNE.out HU.out]
                 have hb20 : Below w19.heap.size w19 w20 := by first | exact hb20 | exact (Below.refl _ _).drew.trans hb20 | exact (below_drewN _ _ _).trans hb20 | exact (below_new _ _).trans (hb20.mono (below_new _ _).size)
                 replace Bs := Lib.hid (Bs.out.below hb20)
                 replace Bt := Lib.hid (Bt.out.below hb20)
                 replace Bu := Lib.hid (Bu.out.below hb20)
                 replace Vp := Lib.hid (Vp.out.below hb20)
                 replace Vq := Lib.hid (Vq.out.below hb20)
                 replace HB := Lib.hid (HB.out.trans (hb20.mono HB.out.size))
                 replace HT := Lib.hid (HT.out.below hb20)
                 replace HRG := Lib.hid (HRG.out.trans (hb20.mono HRG.out.size))
                 clear hb20 tok3 _t))
          clear g0Bs g1Bs glBs g0Bt g1Bt glBt g0Bu g1Bu glBu KS HRG
          have k0Bs := Bs.out.c0
          have k1Bs := Bs.out.c1
          have k2Bs := Bs.out.1.lt
          have k0Bt := Bt.out.c0
          have k1Bt := Bt.out.c1
          have k2Bt := Bt.out.1.lt
          have k0Bu := Bu.out.c0
          have k1Bu := Bu.out.c1
          have k2Bu := Bu.out.1.lt
          clear Vp Vq hup
          by_cases hnp : 0 < n
          · have hn1 : 0 < n := hnp
            go_wp2_with fail
            go_returns
            exact ⟨rfl, HB.out⟩
          · have hn1 : n ≤ 0 := by omega
            have hn1d : decide (0 < n) = false := decide_eq_false hnp
            clear hnp
            obtain ⟨m, hm⟩ : ∃ m, m = cmpI xt xu := ⟨_, rfl⟩
            obtain ⟨o, ho⟩ : ∃ o, o = cmpI xs xu := ⟨_, rfl⟩
            have hc2 := fun va vb W h1 h2 => compare_walk va vb xt xu W h1 h2 (Lt.out.l1 (by decide)) (Lu.out.l1 (by decide))
            have hc3 := fun va vb W h1 h2 => compare_walk va vb xs xu W h1 h2 (Ls.out.l1 (by decide)) (Lu.out.l1 (by decide))
            rw [← hm] at hc2
            rw [← ho] at hc3
            have HC2 := Lib.hid hc2
            have HC3 := Lib.hid hc3
            have HM := Lib.hid hm
            have HO := Lib.hid ho
            clear hm ho hc2 hc3
            go_wp2_with fail
            clear k0Bs k1Bs k2Bs k0Bt k1Bt k2Bt k0Bu k1Bu k2Bu
            refine (HC2.out _ _ _ Bt.out.2 Bu.out.2).mono ?_
            rintro e w21 ⟨rfl, hb21⟩
            replace Bs := Lib.hid (Bs.out.below hb21)
            replace Bt := Lib.hid (Bt.out.below hb21)
            replace Bu := Lib.hid (Bu.out.below hb21)
            replace HB := Lib.hid (HB.out.trans (hb21.mono HB.out.size))
            replace HT := Lib.hid (HT.out.below hb21)
            clear hb21
            have k0Bs := Bs.out.c0
            have k1Bs := Bs.out.c1
            have k2Bs := Bs.out.1.lt
            have k0Bt := Bt.out.c0
            have k1Bt := Bt.out.c1
            have k2Bt := Bt.out.1.lt
            have k0Bu := Bu.out.c0
            have k1Bu := Bu.out.c1
            have k2Bu := Bu.out.1.lt
            by_cases hmp : 0 < m
            · have hm1 : 0 < m := hmp
              go_wp2_with fail
              go_returns
              exact ⟨rfl, HB.out⟩
            · have hm1 : m ≤ 0 := by omega
              have hm1d : decide (0 < m) = false := decide_eq_false hmp
              clear hmp
              have ho1 : o ≤ 0 := by have h1 := HNE.out; have h2 := HM.out; have h3 := HO.out; exact cmp_trans h1 h2 h3 hn1 hm1
              have ho1d : decide (o ≤ 0) = true := decide_eq_true ho1
              go_wp2_with fail
              clear k0Bs k1Bs k2Bs k0Bt k1Bt k2Bt k0Bu k1Bu k2Bu
              refine (HC3.out _ _ _ Bs.out.2 Bu.out.2).mono ?_
              rintro e w22 ⟨rfl, hb22⟩
              replace Bs := Lib.hid (Bs.out.below hb22)
              replace Bt := Lib.hid (Bt.out.below hb22)
              replace Bu := Lib.hid (Bu.out.below hb22)
              replace HB := Lib.hid (HB.out.trans (hb22.mono HB.out.size))
              replace HT := Lib.hid (HT.out.below hb22)
              clear hb22
              have k0Bs := Bs.out.c0
              have k1Bs := Bs.out.c1
              have k2Bs := Bs.out.1.lt
              have k0Bt := Bt.out.c0
              have k1Bt := Bt.out.c1
              have k2Bt := Bt.out.1.lt
              have k0Bu := Bu.out.c0
              have k1Bu := Bu.out.c1
              have k2Bu := Bu.out.1.lt
              go_wp2_with fail
              go_returns
              exact ⟨rfl, HB.out⟩
        · by_cases hu0 : xu = 0
          · have hsv : sgI xu = 0 := by unfold sgI; rw [if_neg (by omega), if_pos (by omega)]
            have HSV := Lib.hid hsv
            clear hsv hu hu0
            go_wp2_with fail
            clear k0Bs k1Bs k2Bs k0Bt k1Bt k2Bt k0Bu k1Bu k2Bu
            have g0 := Bu.out.c0
            have g1 := Bu.out.c1
            refine wp_region_late (fun w' => w'.cell? ⟨w9.heap.size, 0, none⟩ = some (.bool su) ∧ w'.cell? ⟨w9.heap.size, 1, none⟩ = some (.slice Au lu cu)) (fun _ => false) (by kernel_rfl) ?_
            refine wpAnyE_taked (i := 0) (v := .agg #[.bool su, .slice Au lu cu]) (some 67) rfl (by rfl) (by kernel_rfl) (by kernel_rfl) (by kernel_rfl) (by kernel_rfl) (fun _ _ _ h => h) (Or.inl ⟨by rfl, ?_⟩) ⟨g0, g1⟩ ?_
            · (rintro w' ⟨m1, m2⟩; go_simp; try with_reducible rfl)
            simp only [Act.put, List.setIfInBounds_toArray, List.set_cons_zero, List.set_cons_succ]
            refine wpAnyE_ready (rs := [1]) (by kernel_rfl) (by simp) (AllReadyE.cons rfl (fun K hK => ?_) AllReadyE.nil)
            go_simp
            refine (sign_walk _ xu _ (by exact Bu.out.2)).mono ?_
            rintro e w17 ⟨rfl, hb17⟩
            rw [HSV.out]
            have hb17 : Below w16.heap.size w16 w17 := by first | exact hb17 | exact (Below.refl _ _).drew.trans hb17
            replace Bs := Lib.hid (Bs.out.below hb17)
            replace Bt := Lib.hid (Bt.out.below hb17)
            replace Bu := Lib.hid (Bu.out.below hb17)
            replace HB := Lib.hid (HB.out.trans (hb17.mono HB.out.size))
            replace HT := Lib.hid (HT.out.below hb17)
            clear hb17 g0 g1
            have g0 := Bu.out.c0
            have g1 := Bu.out.c1
            refine hK.out _ _ (fun _ => ⟨g0, g1⟩) ?_
            clear hK K
            refine wpAnyE_taked (i := 2) (v := .bool false) (some 69) rfl (by rfl) (by kernel_rfl) (by kernel_rfl) (by kernel_rfl) (by kernel_rfl) (fun _ _ _ h => h) (Or.inl ⟨by rfl, ?_⟩) ⟨g0, g1⟩ ?_
            · (rintro w' ⟨m1, m2⟩; go_simp; try with_reducible rfl)
            simp only [Act.put, List.setIfInBounds_toArray, List.set_cons_zero, List.set_cons_succ]
            refine wpAnyE_taked (i := 3) (v := .bool false) (some 70) rfl (by rfl) (by kernel_rfl) (by kernel_rfl) (by kernel_rfl) (by kernel_rfl) (fun _ _ _ h => h) (Or.inl ⟨by rfl, ?_⟩) ⟨g0, g1⟩ ?_
            · (rintro w' ⟨m1, m2⟩; go_simp; try with_reducible rfl)
            simp only [Act.put, List.setIfInBounds_toArray, List.set_cons_zero, List.set_cons_succ]
            refine wpAnyE_taked (i := 4) (v := undef) (some 71) rfl (by rfl) (by kernel_rfl) (by kernel_rfl) (by kernel_rfl) (by kernel_rfl) (fun _ _ _ h => h) (Or.inr ⟨by rfl, rfl⟩) ⟨g0, g1⟩ ?_
            simp only [Act.put, List.setIfInBounds_toArray, List.set_cons_zero, List.set_cons_succ]
            refine wpAnyE_taked (i := 5) (v := undef) (some 72) rfl (by rfl) (by kernel_rfl) (by kernel_rfl) (by kernel_rfl) (by kernel_rfl) (fun _ _ _ h => h) (Or.inr ⟨by rfl, rfl⟩) ⟨g0, g1⟩ ?_
            simp only [Act.put, List.setIfInBounds_toArray, List.set_cons_zero, List.set_cons_succ]
            refine wpAnyE_taked (i := 6) (v := undef) (some 73) rfl (by rfl) (by kernel_rfl) (by kernel_rfl) (by kernel_rfl) (by kernel_rfl) (fun _ _ _ h => h) (Or.inr ⟨by rfl, rfl⟩) ⟨g0, g1⟩ ?_
            simp only [Act.put, List.setIfInBounds_toArray, List.set_cons_zero, List.set_cons_succ]
            refine wpAnyE_taked (i := 7) (v := undef) (some 74) rfl (by rfl) (by kernel_rfl) (by kernel_rfl) (by kernel_rfl) (by kernel_rfl) (fun _ _ _ h => h) (Or.inr ⟨by rfl, rfl⟩) ⟨g0, g1⟩ ?_
            simp only [Act.put, List.setIfInBounds_toArray, List.set_cons_zero, List.set_cons_succ]
            refine wpAnyE_taked (i := 8) (v := undef) (some 75) rfl (by rfl) (by kernel_rfl) (by kernel_rfl) (by kernel_rfl) (by kernel_rfl) (fun _ _ _ h => h) (Or.inr ⟨by rfl, rfl⟩) ⟨g0, g1⟩ ?_
            simp only [Act.put, List.setIfInBounds_toArray, List.set_cons_zero, List.set_cons_succ]
            refine wpAnyE_taked (i := 9) (v := undef) (some 76) rfl (by rfl) (by kernel_rfl) (by kernel_rfl) (by kernel_rfl) (by kernel_rfl) (fun _ _ _ h => h) (Or.inr ⟨by rfl, rfl⟩) ⟨g0, g1⟩ ?_
            simp only [Act.put, List.setIfInBounds_toArray, List.set_cons_zero, List.set_cons_succ]
            refine wpAnyE_taked (i := 10) (v := undef) (some 77) rfl (by rfl) (by kernel_rfl) (by kernel_rfl) (by kernel_rfl) (by kernel_rfl) (fun _ _ _ h => h) (Or.inr ⟨by rfl, rfl⟩) ⟨g0, g1⟩ ?_
            simp only [Act.put, List.setIfInBounds_toArray, List.set_cons_zero, List.set_cons_succ]
            refine wpAnyE_taked (i := 11) (v := undef) (some 78) rfl (by rfl) (by kernel_rfl) (by kernel_rfl) (by kernel_rfl) (by kernel_rfl) (fun _ _ _ h => h) (Or.inr ⟨by rfl, rfl⟩) ⟨g0, g1⟩ ?_
            simp only [Act.put, List.setIfInBounds_toArray, List.set_cons_zero, List.set_cons_succ]
            refine wpAnyE_taked (i := 12) (v := undef) (some 79) rfl (by rfl) (by kernel_rfl) (by kernel_rfl) (by kernel_rfl) (by kernel_rfl) (fun _ _ _ h => h) (Or.inr ⟨by rfl, rfl⟩) ⟨g0, g1⟩ ?_
            simp only [Act.put, List.setIfInBounds_toArray, List.set_cons_zero, List.set_cons_succ]
            refine wpAnyE_taked (i := 13) (v := .bool false) (some 80) rfl (by rfl) (by kernel_rfl) (by kernel_rfl) (by kernel_rfl) (by kernel_rfl) (fun _ _ _ h => h) (Or.inl ⟨by rfl, ?_⟩) ⟨g0, g1⟩ ?_
            · (rintro w' ⟨m1, m2⟩; go_simp; try with_reducible rfl)
            simp only [Act.put, List.setIfInBounds_toArray, List.set_cons_zero, List.set_cons_succ]
            refine wpAnyE_done (by kernel_rfl) ?_ _
            clear g0 g1
            have k0Bs := Bs.out.c0
            have k1Bs := Bs.out.c1
            have k2Bs := Bs.out.1.lt
            have k0Bt := Bt.out.c0
            have k1Bt := Bt.out.c1
            have k2Bt := Bt.out.1.lt
            have k0Bu := Bu.out.c0
            have k1Bu := Bu.out.c1
            have k2Bu := Bu.out.1.lt
            by_cases hnp : 0 < n
            · have hn1 : 0 < n := hnp
              go_wp2_with fail
              go_returns
              exact ⟨rfl, HB.out⟩
            · have hn1 : n ≤ 0 := by omega
              have hn1d : decide (0 < n) = false := decide_eq_false hnp
              clear hnp
              obtain ⟨m, hm⟩ : ∃ m, m = cmpI xt xu := ⟨_, rfl⟩
              obtain ⟨o, ho⟩ : ∃ o, o = cmpI xs xu := ⟨_, rfl⟩
              have hc2 := fun va vb W h1 h2 => compare_walk va vb xt xu W h1 h2 (Lt.out.l1 (by decide)) (Lu.out.l1 (by decide))
              have hc3 := fun va vb W h1 h2 => compare_walk va vb xs xu W h1 h2 (Ls.out.l1 (by decide)) (Lu.out.l1 (by decide))
              rw [← hm] at hc2
              rw [← ho] at hc3
              have HC2 := Lib.hid hc2
              have HC3 := Lib.hid hc3
              have HM := Lib.hid hm
              have HO := Lib.hid ho
              clear hm ho hc2 hc3
              go_wp2_with fail
              clear k0Bs k1Bs k2Bs k0Bt k1Bt k2Bt k0Bu k1Bu k2Bu
              refine (HC2.out _ _ _ Bt.out.2 Bu.out.2).mono ?_
              rintro e w18 ⟨rfl, hb18⟩
              replace Bs := Lib.hid (Bs.out.below hb18)
              replace Bt := Lib.hid (Bt.out.below hb18)
              replace Bu := Lib.hid (Bu.out.below hb18)
              replace HB := Lib.hid (HB.out.trans (hb18.mono HB.out.size))
              replace HT := Lib.hid (HT.out.below hb18)
              clear hb18
              have k0Bs := Bs.out.c0
              have k1Bs := Bs.out.c1
              have k2Bs := Bs.out.1.lt
              have k0Bt := Bt.out.c0
              have k1Bt := Bt.out.c1
              have k2Bt := Bt.out.1.lt
              have k0Bu := Bu.out.c0
              have k1Bu := Bu.out.c1
              have k2Bu := Bu.out.1.lt
              by_cases hmp : 0 < m
              · have hm1 : 0 < m := hmp
                go_wp2_with fail
                go_returns
                exact ⟨rfl, HB.out⟩
              · have hm1 : m ≤ 0 := by omega
                have hm1d : decide (0 < m) = false := decide_eq_false hmp
                clear hmp
                have ho1 : o ≤ 0 := by have h1 := HNE.out; have h2 := HM.out; have h3 := HO.out; exact cmp_trans h1 h2 h3 hn1 hm1
                have ho1d : decide (o ≤ 0) = true := decide_eq_true ho1
                go_wp2_with fail
                clear k0Bs k1Bs k2Bs k0Bt k1Bt k2Bt k0Bu k1Bu k2Bu
                refine (HC3.out _ _ _ Bs.out.2 Bu.out.2).mono ?_
                rintro e w19 ⟨rfl, hb19⟩
                replace Bs := Lib.hid (Bs.out.below hb19)
                replace Bt := Lib.hid (Bt.out.below hb19)
                replace Bu := Lib.hid (Bu.out.below hb19)
                replace HB := Lib.hid (HB.out.trans (hb19.mono HB.out.size))
                replace HT := Lib.hid (HT.out.below hb19)
                clear hb19
                have k0Bs := Bs.out.c0
                have k1Bs := Bs.out.c1
                have k2Bs := Bs.out.1.lt
                have k0Bt := Bt.out.c0
                have k1Bt := Bt.out.c1
                have k2Bt := Bt.out.1.lt
                have k0Bu := Bu.out.c0
                have k1Bu := Bu.out.c1
                have k2Bu := Bu.out.1.lt
                go_wp2_with fail
                go_returns
                exact ⟨rfl, HB.out⟩
          · have hsv : sgI xu = -1 := by unfold sgI; rw [if_pos (by omega)]
            have HSV := Lib.hid hsv
            clear hsv hu hu0
            go_wp2_with fail
            clear k0Bs k1Bs k2Bs k0Bt k1Bt k2Bt k0Bu k1Bu k2Bu
            have g0 := Bu.out.c0
            have g1 := Bu.out.c1
            refine wp_region_late (fun w' => w'.cell? ⟨w9.heap.size, 0, none⟩ = some (.bool su) ∧ w'.cell? ⟨w9.heap.size, 1, none⟩ = some (.slice Au lu cu)) (fun _ => false) (by kernel_rfl) ?_
            refine wpAnyE_taked (i := 0) (v := .agg #[.bool su, .slice Au lu cu]) (some 67) rfl (by rfl) (by kernel_rfl) (by kernel_rfl) (by kernel_rfl) (by kernel_rfl) (fun _ _ _ h => h) (Or.inl ⟨by rfl, ?_⟩) ⟨g0, g1⟩ ?_
            · (rintro w' ⟨m1, m2⟩; go_simp; try with_reducible rfl)
            simp only [Act.put, List.setIfInBounds_toArray, List.set_cons_zero, List.set_cons_succ]
            refine wpAnyE_ready (rs := [1]) (by kernel_rfl) (by simp) (AllReadyE.cons rfl (fun K hK => ?_) AllReadyE.nil)
            go_simp
            refine (sign_walk _ xu _ (by exact Bu.out.2)).mono ?_
            rintro e w17 ⟨rfl, hb17⟩
            rw [HSV.out]
            have hb17 : Below w16.heap.size w16 w17 := by first | exact hb17 | exact (Below.refl _ _).drew.trans hb17
            replace Bs := Lib.hid (Bs.out.below hb17)
            replace Bt := Lib.hid (Bt.out.below hb17)
            replace Bu := Lib.hid (Bu.out.below hb17)
            replace HB := Lib.hid (HB.out.trans (hb17.mono HB.out.size))
            replace HT := Lib.hid (HT.out.below hb17)
            clear hb17 g0 g1
            have g0 := Bu.out.c0
            have g1 := Bu.out.c1
            refine hK.out _ _ (fun _ => ⟨g0, g1⟩) ?_
            clear hK K
            refine wpAnyE_taked (i := 2) (v := .bool false) (some 69) rfl (by rfl) (by kernel_rfl) (by kernel_rfl) (by kernel_rfl) (by kernel_rfl) (fun _ _ _ h => h) (Or.inl ⟨by rfl, ?_⟩) ⟨g0, g1⟩ ?_
            · (rintro w' ⟨m1, m2⟩; go_simp; try with_reducible rfl)
            simp only [Act.put, List.setIfInBounds_toArray, List.set_cons_zero, List.set_cons_succ]
            refine wpAnyE_taked (i := 3) (v := .bool false) (some 70) rfl (by rfl) (by kernel_rfl) (by kernel_rfl) (by kernel_rfl) (by kernel_rfl) (fun _ _ _ h => h) (Or.inl ⟨by rfl, ?_⟩) ⟨g0, g1⟩ ?_
            · (rintro w' ⟨m1, m2⟩; go_simp; try with_reducible rfl)
            simp only [Act.put, List.setIfInBounds_toArray, List.set_cons_zero, List.set_cons_succ]
            refine wpAnyE_taked (i := 4) (v := undef) (some 71) rfl (by rfl) (by kernel_rfl) (by kernel_rfl) (by kernel_rfl) (by kernel_rfl) (fun _ _ _ h => h) (Or.inr ⟨by rfl, rfl⟩) ⟨g0, g1⟩ ?_
            simp only [Act.put, List.setIfInBounds_toArray, List.set_cons_zero, List.set_cons_succ]
            refine wpAnyE_taked (i := 5) (v := undef) (some 72) rfl (by rfl) (by kernel_rfl) (by kernel_rfl) (by kernel_rfl) (by kernel_rfl) (fun _ _ _ h => h) (Or.inr ⟨by rfl, rfl⟩) ⟨g0, g1⟩ ?_
            simp only [Act.put, List.setIfInBounds_toArray, List.set_cons_zero, List.set_cons_succ]
            refine wpAnyE_taked (i := 6) (v := undef) (some 73) rfl (by rfl) (by kernel_rfl) (by kernel_rfl) (by kernel_rfl) (by kernel_rfl) (fun _ _ _ h => h) (Or.inr ⟨by rfl, rfl⟩) ⟨g0, g1⟩ ?_
            simp only [Act.put, List.setIfInBounds_toArray, List.set_cons_zero, List.set_cons_succ]
            refine wpAnyE_taked (i := 7) (v := undef) (some 74) rfl (by rfl) (by kernel_rfl) (by kernel_rfl) (by kernel_rfl) (by kernel_rfl) (fun _ _ _ h => h) (Or.inr ⟨by rfl, rfl⟩) ⟨g0, g1⟩ ?_
            simp only [Act.put, List.setIfInBounds_toArray, List.set_cons_zero, List.set_cons_succ]
            refine wpAnyE_taked (i := 8) (v := undef) (some 75) rfl (by rfl) (by kernel_rfl) (by kernel_rfl) (by kernel_rfl) (by kernel_rfl) (fun _ _ _ h => h) (Or.inr ⟨by rfl, rfl⟩) ⟨g0, g1⟩ ?_
            simp only [Act.put, List.setIfInBounds_toArray, List.set_cons_zero, List.set_cons_succ]
            refine wpAnyE_taked (i := 9) (v := undef) (some 76) rfl (by rfl) (by kernel_rfl) (by kernel_rfl) (by kernel_rfl) (by kernel_rfl) (fun _ _ _ h => h) (Or.inr ⟨by rfl, rfl⟩) ⟨g0, g1⟩ ?_
            simp only [Act.put, List.setIfInBounds_toArray, List.set_cons_zero, List.set_cons_succ]
            refine wpAnyE_taked (i := 10) (v := undef) (some 77) rfl (by rfl) (by kernel_rfl) (by kernel_rfl) (by kernel_rfl) (by kernel_rfl) (fun _ _ _ h => h) (Or.inr ⟨by rfl, rfl⟩) ⟨g0, g1⟩ ?_
            simp only [Act.put, List.setIfInBounds_toArray, List.set_cons_zero, List.set_cons_succ]
            refine wpAnyE_taked (i := 11) (v := undef) (some 78) rfl (by rfl) (by kernel_rfl) (by kernel_rfl) (by kernel_rfl) (by kernel_rfl) (fun _ _ _ h => h) (Or.inr ⟨by rfl, rfl⟩) ⟨g0, g1⟩ ?_
            simp only [Act.put, List.setIfInBounds_toArray, List.set_cons_zero, List.set_cons_succ]
            refine wpAnyE_taked (i := 12) (v := undef) (some 79) rfl (by rfl) (by kernel_rfl) (by kernel_rfl) (by kernel_rfl) (by kernel_rfl) (fun _ _ _ h => h) (Or.inr ⟨by rfl, rfl⟩) ⟨g0, g1⟩ ?_
            simp only [Act.put, List.setIfInBounds_toArray, List.set_cons_zero, List.set_cons_succ]
            refine wpAnyE_taked (i := 13) (v := .bool false) (some 80) rfl (by rfl) (by kernel_rfl) (by kernel_rfl) (by kernel_rfl) (by kernel_rfl) (fun _ _ _ h => h) (Or.inl ⟨by rfl, ?_⟩) ⟨g0, g1⟩ ?_
            · (rintro w' ⟨m1, m2⟩; go_simp; try with_reducible rfl)
            simp only [Act.put, List.setIfInBounds_toArray, List.set_cons_zero, List.set_cons_succ]
            refine wpAnyE_done (by kernel_rfl) ?_ _
            clear g0 g1
            have k0Bs := Bs.out.c0
            have k1Bs := Bs.out.c1
            have k2Bs := Bs.out.1.lt
            have k0Bt := Bt.out.c0
            have k1Bt := Bt.out.c1
            have k2Bt := Bt.out.1.lt
            have k0Bu := Bu.out.c0
            have k1Bu := Bu.out.c1
            have k2Bu := Bu.out.1.lt
            by_cases hnp : 0 < n
            · have hn1 : 0 < n := hnp
              go_wp2_with fail
              go_returns
              exact ⟨rfl, HB.out⟩
            · have hn1 : n ≤ 0 := by omega
              have hn1d : decide (0 < n) = false := decide_eq_false hnp
              clear hnp
              obtain ⟨m, hm⟩ : ∃ m, m = cmpI xt xu := ⟨_, rfl⟩
              obtain ⟨o, ho⟩ : ∃ o, o = cmpI xs xu := ⟨_, rfl⟩
              have hc2 := fun va vb W h1 h2 => compare_walk va vb xt xu W h1 h2 (Lt.out.l1 (by decide)) (Lu.out.l1 (by decide))
              have hc3 := fun va vb W h1 h2 => compare_walk va vb xs xu W h1 h2 (Ls.out.l1 (by decide)) (Lu.out.l1 (by decide))
              rw [← hm] at hc2
              rw [← ho] at hc3
              have HC2 := Lib.hid hc2
              have HC3 := Lib.hid hc3
              have HM := Lib.hid hm
              have HO := Lib.hid ho
              clear hm ho hc2 hc3
              go_wp2_with fail
              clear k0Bs k1Bs k2Bs k0Bt k1Bt k2Bt k0Bu k1Bu k2Bu
              refine (HC2.out _ _ _ Bt.out.2 Bu.out.2).mono ?_
              rintro e w18 ⟨rfl, hb18⟩
              replace Bs := Lib.hid (Bs.out.below hb18)
              replace Bt := Lib.hid (Bt.out.below hb18)
              replace Bu := Lib.hid (Bu.out.below hb18)
              replace HB := Lib.hid (HB.out.trans (hb18.mono HB.out.size))
              replace HT := Lib.hid (HT.out.below hb18)
              clear hb18
              have k0Bs := Bs.out.c0
              have k1Bs := Bs.out.c1
              have k2Bs := Bs.out.1.lt
              have k0Bt := Bt.out.c0
              have k1Bt := Bt.out.c1
              have k2Bt := Bt.out.1.lt
              have k0Bu := Bu.out.c0
              have k1Bu := Bu.out.c1
              have k2Bu := Bu.out.1.lt
              by_cases hmp : 0 < m
              · have hm1 : 0 < m := hmp
                go_wp2_with fail
                go_returns
                exact ⟨rfl, HB.out⟩
              · have hm1 : m ≤ 0 := by omega
                have hm1d : decide (0 < m) = false := decide_eq_false hmp
                clear hmp
                have ho1 : o ≤ 0 := by have h1 := HNE.out; have h2 := HM.out; have h3 := HO.out; exact cmp_trans h1 h2 h3 hn1 hm1
                have ho1d : decide (o ≤ 0) = true := decide_eq_true ho1
                go_wp2_with fail
                clear k0Bs k1Bs k2Bs k0Bt k1Bt k2Bt k0Bu k1Bu k2Bu
                refine (HC3.out _ _ _ Bs.out.2 Bu.out.2).mono ?_
                rintro e w19 ⟨rfl, hb19⟩
                replace Bs := Lib.hid (Bs.out.below hb19)
                replace Bt := Lib.hid (Bt.out.below hb19)
                replace Bu := Lib.hid (Bu.out.below hb19)
                replace HB := Lib.hid (HB.out.trans (hb19.mono HB.out.size))
                replace HT := Lib.hid (HT.out.below hb19)
                clear hb19
                have k0Bs := Bs.out.c0
                have k1Bs := Bs.out.c1
                have k2Bs := Bs.out.1.lt
                have k0Bt := Bt.out.c0
                have k1Bt := Bt.out.c1
                have k2Bt := Bt.out.1.lt
                have k0Bu := Bu.out.c0
                have k1Bu := Bu.out.c1
                have k2Bu := Bu.out.1.lt
                go_wp2_with fail
                go_returns
                exact ⟨rfl, HB.out⟩
      · have HNu := Lib.hid hu
        have HKs := Lib.hid hs
        have HKt := Lib.hid ht
        clear hs ht hu
        go_enter Tryd.func11, Tryd.ntmps11
        go_wp2_with fail
        refine (known_walk _ HT.out).mono ?_
        rintro e w1 ⟨rfl, hb1⟩
        replace HB := Lib.hid (HB.out.trans (hb1.mono HB.out.size))
        replace HT := Lib.hid (HT.out.below hb1)
        clear hb1
        go_wp2_with fail
        refine (right_yes s _ HKs.out).mono ?_
        rintro e w2 ⟨rfl, rfl⟩
        go_wp2_with fail
        refine (right_yes t _ HKt.out).mono ?_
        rintro e w3 ⟨rfl, rfl⟩
        go_wp2_with fail
        refine (right_no u _ HNu.out hzu).mono ?_
        rintro e w4 ⟨rfl, rfl⟩
        go_wp2_with fail
        refine (known_walk _ HT.out).mono ?_
        rintro e w5 ⟨rfl, hb5⟩
        replace HB := Lib.hid (HB.out.trans (hb5.mono HB.out.size))
        replace HT := Lib.hid (HT.out.below hb5)
        clear hb5
        go_wp2_with fail
        go_returns
        exact ⟨rfl, HB.out⟩
    · have HNt := Lib.hid ht
      have HKs := Lib.hid hs
      clear hs ht
      go_enter Tryd.func11, Tryd.ntmps11
      go_wp2_with fail
      refine (known_walk _ HT.out).mono ?_
      rintro e w1 ⟨rfl, hb1⟩
      replace HB := Lib.hid (HB.out.trans (hb1.mono HB.out.size))
      replace HT := Lib.hid (HT.out.below hb1)
      clear hb1
      go_wp2_with fail
      refine (right_yes s _ HKs.out).mono ?_
      rintro e w2 ⟨rfl, rfl⟩
      go_wp2_with fail
      refine (right_no t _ HNt.out hzt).mono ?_
      rintro e w3 ⟨rfl, rfl⟩
      go_wp2_with fail
      refine (known_walk _ HT.out).mono ?_
      rintro e w4 ⟨rfl, hb4⟩
      replace HB := Lib.hid (HB.out.trans (hb4.mono HB.out.size))
      replace HT := Lib.hid (HT.out.below hb4)
      clear hb4
      go_wp2_with fail
      go_returns
      exact ⟨rfl, HB.out⟩
  · have HNs := Lib.hid hs
    clear hs
    go_enter Tryd.func11, Tryd.ntmps11
    go_wp2_with fail
    refine (known_walk _ HT.out).mono ?_
    rintro e w1 ⟨rfl, hb1⟩
    replace HB := Lib.hid (HB.out.trans (hb1.mono HB.out.size))
    replace HT := Lib.hid (HT.out.below hb1)
    clear hb1
    go_wp2_with fail
    refine (right_no s _ HNs.out hzs).mono ?_
    rintro e w2 ⟨rfl, rfl⟩
    go_wp2_with fail
    refine (known_walk _ HT.out).mono ?_
    rintro e w3 ⟨rfl, hb3⟩
    replace HB := Lib.hid (HB.out.trans (hb3.mono HB.out.size))
    replace HT := Lib.hid (HT.out.below hb3)
    clear hb3
    go_wp2_with fail
    go_returns
    exact ⟨rfl, HB.out⟩
end Go.Proofs.YtjeaemoiafamaaaDoor
