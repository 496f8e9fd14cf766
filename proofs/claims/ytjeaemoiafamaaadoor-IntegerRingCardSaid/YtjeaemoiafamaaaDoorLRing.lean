/- IntegerRing: the law holds at every three strings. -/
import Derived.Test.YtjeaemoiafamaaaDoorPkE
import Derived.Test.YtjeaemoiafamaaaDoorDivZero
namespace Go.Proofs.YtjeaemoiafamaaaDoor
open Go.RowKit

theorem box_put {w : World} {g : Nat} {s : Bool} {A : Option Addr} {l c : Nat} {n : Int} (RN : Row w g 25 [.bool false, .slice none 0 0]) (h : IsInt w (.agg #[.bool s, .slice A l c]) n) :
    Box ((w.setCell ⟨g, 0, none⟩ (.bool s)).setCell ⟨g, 1, none⟩ (.slice A l c)) g s A l c n := ⟨RN.put2, h.far RN (by simp) (by simp)⟩
theorem Box.far {w : World} {g g' : Nat} {s : Bool} {A : Option Addr} {l c : Nat} {n : Int} {x y : Value} (h : Box w g s A l c n) (hne : g ≠ g') (RN : Row w g' 25 [.bool false, .slice none 0 0]) :
    Box ((w.setCell ⟨g', 0, none⟩ x).setCell ⟨g', 1, none⟩ y) g s A l c n := ⟨h.1.far hne, h.2.far RN (by simp) (by simp)⟩

theorem cmpI_eq {a b : Int} (h : a = b) : cmpI a b = 0 := by unfold cmpI; rw [if_neg (by omega), if_pos h]
theorem cmpI_lt {a b : Int} (h : a < b) : cmpI a b = -1 := by unfold cmpI; rw [if_pos h]
theorem sum3_prem {a b c : Int} (ha : Lim 120 a) (hb : Lim 120 b) (hc : Lim 120 c) :
    (∀ j, j < [a, b, c].length → (digs ([a, b, c].getD j 0).natAbs).length < 8796093022208) ∧ (∀ k, k ≤ [a, b, c].length → (digs ([a, b, c].take k).sum.natAbs).length < 8796093022208) := by
  refine ⟨fun j hj => ?_, fun k hk => ?_⟩
  · rcases j with _ | _ | _ | j
    · exact ha.l1 (by decide)
    · exact hb.l1 (by decide)
    · exact hc.l1 (by decide)
    · simp at hj; omega
  · rcases k with _ | _ | _ | _ | k
    · simp [digs_zero]
    · have := ha.l1 (by decide); simpa using this
    · have := (ha.add hb).l1 (by decide); simpa using this
    · have := ((hb.add hc).add (ha.mono (by decide : 120 ≤ 121))).l1 (by decide)
      rw [show b + c + a = ([a, b, c].take (0 + 1 + 1 + 1)).sum by simp <;> omega] at this
      exact this
    · simp at hk
theorem ints0 {w : World} : IsInts w (.slice none 0 0) [] := ⟨none, 0, rfl, .inl rfl⟩
theorem ints3 {w : World} {s1 s2 s3 : Bool} {A1 A2 A3 : Option Addr} {l1 l2 l3 c1 c2 c3 : Nat} {n1 n2 n3 : Int} (h1 : IsInt w (.agg #[.bool s1, .slice A1 l1 c1]) n1) (h2 : IsInt w (.agg #[.bool s2, .slice A2 l2 c2]) n2) (h3 : IsInt w (.agg #[.bool s3, .slice A3 l3 c3]) n3) :
    IsInts (w.alloc (.cells #[.bool s1, .slice A1 l1 c1, .bool s2, .slice A2 l2 c2, .bool s3, .slice A3 l3 c3] 25)) (.slice (some ⟨w.heap.size, 0, none⟩) 3 3) [n1, n2, n3] := by
  have r : Row (w.alloc (.cells #[.bool s1, .slice A1 l1 c1, .bool s2, .slice A2 l2 c2, .bool s3, .slice A3 l3 c3] 25)) w.heap.size 25 [.bool s1, .slice A1 l1 c1, .bool s2, .slice A2 l2 c2, .bool s3, .slice A3 l3 c3] := heap_new _ _
  have hb := below_new w (.cells #[.bool s1, .slice A1 l1 c1, .bool s2, .slice A2 l2 c2, .bool s3, .slice A3 l3 c3] 25)
  refine ⟨some ⟨w.heap.size, 0, none⟩, 3, rfl, .inr ⟨w.heap.size, 0, rfl, fun j hj => ?_⟩⟩
  rcases j with _ | _ | _ | j
  · exact ⟨s1, A1, l1, c1, r.at_ 0 rfl, r.at_ 1 rfl, h1.below hb⟩
  · exact ⟨s2, A2, l2, c2, r.at_ 2 rfl, r.at_ 3 rfl, h2.below hb⟩
  · exact ⟨s3, A3, l3, c3, r.at_ 4 rfl, r.at_ 5 rfl, h3.below hb⟩
  · simp at hj; omega
theorem ring_rest {a b q r : Int} (hb : b ≠ 0) (hq : q = Int.fdiv a b) (hr : r = Int.fmod a b) : q * b + r = a ∧ ((r.natAbs : Nat) : Int) < ((b.natAbs : Nat) : Int) ∧ 0 ≤ sgI r * sgI b ∧ sgI r * sgI b ≤ 1 := by
  have h0 := Int.fmod_add_mul_fdiv a b
  have h1 : r.natAbs < b.natAbs ∧ (r = 0 ∨ (r < 0 ↔ b < 0)) := by
    obtain ⟨q0, hq0⟩ : ∃ q0, q0 = sgn (decide (a < 0) != decide (b < 0)) (a.natAbs / b.natAbs) := ⟨_, rfl⟩
    obtain ⟨r0, hr0⟩ : ∃ r0, r0 = sgn (decide (a < 0)) (a.natAbs % b.natAbs) := ⟨_, rfl⟩
    have hqr := quot_rest a b hb q0 r0 hq0 hr0
    by_cases hz : r0 = 0
    · have := floor_same hqr (.inl hz); omega
    · by_cases hs : decide (r0 < 0) = decide (b < 0)
      · have h1 := floor_same hqr (.inr hs)
        have h2 : r0 < 0 ↔ b < 0 := by simpa using hs
        have h3 := hqr.2
        omega
      · have h1 := floor_other hqr hz hs
        have h2 : ¬ (r0 < 0 ↔ b < 0) := fun e => hs (by simpa using e)
        have h3 := hqr.2
        omega
  refine ⟨?_, by omega, ?_⟩
  · rw [hq, hr, Int.mul_comm, Int.add_comm]; exact h0
  · unfold sgI
    obtain ⟨_, h2⟩ := h1
    rcases h2 with h2 | h2
    · subst h2; simp
    · by_cases h3 : b < 0
      · rw [if_pos (h2.2 h3), if_pos h3]; decide
      · have h4 : ¬ r < 0 := fun h => h3 (h2.1 h)
        rw [if_neg h4, if_neg h3, if_neg hb]
        split <;> decide

set_option maxRecDepth 100000 in
set_option maxHeartbeats 6400000 in
theorem Ring_law (s t u : ByteArray) (w : World) (ht : Tab w) (hzs : s.size ≤ 9223372036854775807) (hzt : t.size ≤ 9223372036854775807) (hzu : u.size ≤ 9223372036854775807) :
    Calls Tryd.prog 13 #[.string s, .string t, .string u] w fun e w' => e = .returned (.bool true) ∧ Below w.heap.size w w' := by
  have HT := Lib.hid ht
  have HB : Hid (Below w.heap.size w w) := Lib.hid (Below.refl _ _)
  clear ht
  have HT0 := Lib.hid HT.out
  by_cases hs : okS s
  · skip
    by_cases ht : okS t
    · skip
      by_cases hu : okS u
      · skip
        obtain ⟨xs, hts, _, _⟩ := chk_ok hs.2
        have hxs : s = txt xs := by apply ByteArray.ext; apply Array.toList_inj.1; rw [hts, txt_list]
        have Ls := Lib.hid (lim_text hxs hs.1)
        have HXs := Lib.hid hxs
        have HKs := Lib.hid hs
        clear hts hxs hs
        obtain ⟨xt, htt, _, _⟩ := chk_ok ht.2
        have hxt : t = txt xt := by apply ByteArray.ext; apply Array.toList_inj.1; rw [htt, txt_list]
        have Lt := Lib.hid (lim_text hxt ht.1)
        have HXt := Lib.hid hxt
        have HKt := Lib.hid ht
        clear htt hxt ht
        obtain ⟨xu, htu, _, _⟩ := chk_ok hu.2
        have hxu : u = txt xu := by apply ByteArray.ext; apply Array.toList_inj.1; rw [htu, txt_list]
        have Lu := Lib.hid (lim_text hxu hu.1)
        have HXu := Lib.hid hxu
        have HKu := Lib.hid hu
        clear htu hxu hu
        go_enter Tryd.func13, Tryd.ntmps13
        go_wp2_with fail
        refine (known_walk _ HT.out).mono ?_
        rintro e w1 ⟨rfl, hb1⟩
        replace HB := Lib.hid (HB.out.trans (hb1.mono HB.out.size))
        replace HT := Lib.hid (HT.out.below hb1)
        clear hb1
        go_wp2_with fail
        refine (right_yes s _ HKs.out).mono ?_
        rintro e w2 ⟨rfl, rfl⟩
        go_wp2_with fail
        refine (right_yes t _ HKt.out).mono ?_
        rintro e w3 ⟨rfl, rfl⟩
        go_wp2_with fail
        refine (right_yes u _ HKu.out).mono ?_
        rintro e w4 ⟨rfl, rfl⟩
        have hxs := HXs.out
        subst hxs
        have hxt := HXt.out
        subst hxt
        have hxu := HXu.out
        subst hxu
        go_wp2_with fail
        refine (read_ok _ xs _ HKs.out rfl).mono ?_
        rintro e w5 ⟨vs, rfl, hvs, hb5⟩
        obtain ⟨ss, As, ls, cs, rfl⟩ := hvs.shape
        have Vs := Lib.hid hvs
        clear hvs
        replace HB := Lib.hid (HB.out.trans (hb5.mono HB.out.size))
        replace HT := Lib.hid (HT.out.below hb5)
        clear hb5
        have Bs := Lib.hid (Box.made Vs.out)
        have hn6 := below_new w5 (.cells #[.bool ss, .slice As ls cs] 25)
        replace HB := Lib.hid (HB.out.trans (hn6.mono HB.out.size))
        replace HT := Lib.hid (HT.out.below hn6)
        obtain ⟨w6, hw6⟩ : ∃ w6, w6 = w5.alloc (.cells #[.bool ss, .slice As ls cs] 25) := ⟨_, rfl⟩
        rw [← hw6] at Bs HB HT
        clear hn6 Vs
        go_wp2_with fail
        rw [← hw6]
        clear hw6
        refine (read_ok _ xt _ HKt.out rfl).mono ?_
        rintro e w7 ⟨vt, rfl, hvt, hb7⟩
        obtain ⟨st, At, lt, ct, rfl⟩ := hvt.shape
        have Vt := Lib.hid hvt
        clear hvt
        replace Bs := Lib.hid (Bs.out.below hb7)
        replace HB := Lib.hid (HB.out.trans (hb7.mono HB.out.size))
        replace HT := Lib.hid (HT.out.below hb7)
        clear hb7
        have k0Bs := Bs.out.c0
        have k1Bs := Bs.out.c1
        have k2Bs := Bs.out.1.lt
        have Bt := Lib.hid (Box.made Vt.out)
        have hn8 := below_new w7 (.cells #[.bool st, .slice At lt ct] 25)
        replace Bs := Lib.hid (Bs.out.below hn8)
        replace HB := Lib.hid (HB.out.trans (hn8.mono HB.out.size))
        replace HT := Lib.hid (HT.out.below hn8)
        obtain ⟨w8, hw8⟩ : ∃ w8, w8 = w7.alloc (.cells #[.bool st, .slice At lt ct] 25) := ⟨_, rfl⟩
        rw [← hw8] at Bs Bt HB HT
        clear hn8 Vt
        go_wp2_with fail
        rw [← hw8]
        clear hw8
        clear k0Bs k1Bs k2Bs
        refine (read_ok _ xu _ HKu.out rfl).mono ?_
        rintro e w9 ⟨vu, rfl, hvu, hb9⟩
        obtain ⟨su, Au, lu, cu, rfl⟩ := hvu.shape
        have Vu := Lib.hid hvu
        clear hvu
        replace Bs := Lib.hid (Bs.out.below hb9)
        replace Bt := Lib.hid (Bt.out.below hb9)
        replace HB := Lib.hid (HB.out.trans (hb9.mono HB.out.size))
        replace HT := Lib.hid (HT.out.below hb9)
        clear hb9
        have k0Bs := Bs.out.c0
        have k1Bs := Bs.out.c1
        have k2Bs := Bs.out.1.lt
        have k0Bt := Bt.out.c0
        have k1Bt := Bt.out.c1
        have k2Bt := Bt.out.1.lt
        have Bu := Lib.hid (Box.made Vu.out)
        have hn10 := below_new w9 (.cells #[.bool su, .slice Au lu cu] 25)
        replace Bs := Lib.hid (Bs.out.below hn10)
        replace Bt := Lib.hid (Bt.out.below hn10)
        replace HB := Lib.hid (HB.out.trans (hn10.mono HB.out.size))
        replace HT := Lib.hid (HT.out.below hn10)
        obtain ⟨w10, hw10⟩ : ∃ w10, w10 = w9.alloc (.cells #[.bool su, .slice Au lu cu] 25) := ⟨_, rfl⟩
        rw [← hw10] at Bs Bt Bu HB HT
        clear hn10 Vu
        go_upto_region 6 with (fail)
        rw [← hw10]
        clear hw10
        clear k0Bs k1Bs k2Bs k0Bt k1Bt k2Bt
        go_cut [13] (fun v wx => ∃ gg sg Ag lg cg, v = .pointer (some ⟨gg, 0, none⟩) ∧ Hid (Box wx gg sg Ag lg cg ((xs + xt) * xu)) ∧ Hid (Box wx w5.heap.size ss As ls cs xs) ∧ Hid (Box wx w7.heap.size st At lt ct xt) ∧ Hid (Box wx w9.heap.size su Au lu cu xu) ∧ Hid (Below w.heap.size w wx))
        case first =>
          have hs0 := HB.out.size
          have hqBs : Hid (w5.heap.size < w10.heap.size) := Lib.hid Bs.out.1.lt
          have hqBt : Hid (w7.heap.size < w10.heap.size) := Lib.hid Bt.out.1.lt
          have hqBu : Hid (w9.heap.size < w10.heap.size) := Lib.hid Bu.out.1.lt
          have g0Bs := Bs.out.c0
          have g1Bs := Bs.out.c1
          have glBs := Bs.out.1.lt
          have g0Bt := Bt.out.c0
          have g1Bt := Bt.out.c1
          have glBt := Bt.out.1.lt
          have g0Bu := Bu.out.c0
          have g1Bu := Bu.out.c1
          have glBu := Bu.out.1.lt
          have KS : Hid (∀ w', Below w10.heap.size w10 w' → (w'.cell? ⟨w5.heap.size, 0, none⟩ = some (.bool ss) ∧ w'.cell? ⟨w5.heap.size, 1, none⟩ = some (.slice As ls cs) ∧ w'.cell? ⟨w7.heap.size, 0, none⟩ = some (.bool st) ∧ w'.cell? ⟨w7.heap.size, 1, none⟩ = some (.slice At lt ct) ∧ w'.cell? ⟨w9.heap.size, 0, none⟩ = some (.bool su) ∧ w'.cell? ⟨w9.heap.size, 1, none⟩ = some (.slice Au lu cu))) := Lib.hid (fun w' hb => ⟨((bbelow hb).1 w5.heap.size 0 glBs).trans g0Bs, ((bbelow hb).1 w5.heap.size 1 glBs).trans g1Bs, ((bbelow hb).1 w7.heap.size 0 glBt).trans g0Bt, ((bbelow hb).1 w7.heap.size 1 glBt).trans g1Bt, ((bbelow hb).1 w9.heap.size 0 glBu).trans g0Bu, ((bbelow hb).1 w9.heap.size 1 glBu).trans g1Bu⟩)
          clear g0Bs g1Bs glBs g0Bt g1Bt glBt g0Bu g1Bu glBu
          refine wp_region_late (fun w' => w'.cell? ⟨w5.heap.size, 0, none⟩ = some (.bool ss) ∧ w'.cell? ⟨w5.heap.size, 1, none⟩ = some (.slice As ls cs) ∧ w'.cell? ⟨w7.heap.size, 0, none⟩ = some (.bool st) ∧ w'.cell? ⟨w7.heap.size, 1, none⟩ = some (.slice At lt ct) ∧ w'.cell? ⟨w9.heap.size, 0, none⟩ = some (.bool su) ∧ w'.cell? ⟨w9.heap.size, 1, none⟩ = some (.slice Au lu cu)) (fun i => decide (6 ≤ i)) (by kernel_rfl) ?_
          obtain ⟨w11, hwd⟩ : ∃ w11, w11 = w10.drew := ⟨_, rfl⟩
          rw [← hwd]
          have hb : Below w10.heap.size w10 w11 := by rw [hwd]; exact (Below.refl _ _).drew
          clear hwd
          replace Bs := Lib.hid (Bs.out.below hb)
          replace Bt := Lib.hid (Bt.out.below hb)
          replace Bu := Lib.hid (Bu.out.below hb)
          replace HB := Lib.hid (HB.out.trans (hb.mono HB.out.size))
          replace HT := Lib.hid (HT.out.below hb)
          have HRG := Lib.hid hb
          clear hb
          have hh := KS.out _ HRG.out
          refine wpAnyE_taked (i := 0) (v := ?_) (some 53) rfl (by rfl) (by kernel_rfl) (by kernel_rfl) (by kernel_rfl) (by kernel_rfl) (fun _ _ _ h => h) (Or.inl ⟨by rfl, ?_⟩) hh ?_
          rotate_left
          · (intro w' hSw; (try dsimp only at hSw); go_simp; try with_reducible rfl)
          simp only [Act.put, List.setIfInBounds_toArray, List.set_cons_zero, List.set_cons_succ]
          refine wpAnyE_taked (i := 1) (v := ?_) (some 54) rfl (by rfl) (by kernel_rfl) (by kernel_rfl) (by kernel_rfl) (by kernel_rfl) (fun _ _ _ h => h) (Or.inl ⟨by rfl, ?_⟩) hh ?_
          rotate_left
          · (intro w' hSw; (try dsimp only at hSw); go_simp; try with_reducible rfl)
          simp only [Act.put, List.setIfInBounds_toArray, List.set_cons_zero, List.set_cons_succ]
          refine wpAnyE_taked (i := 3) (v := ?_) (some 56) rfl (by rfl) (by kernel_rfl) (by kernel_rfl) (by kernel_rfl) (by kernel_rfl) (fun _ _ _ h => h) (Or.inl ⟨by rfl, ?_⟩) hh ?_
          rotate_left
          · (intro w' hSw; (try dsimp only at hSw); go_simp; try with_reducible rfl)
          simp only [Act.put, List.setIfInBounds_toArray, List.set_cons_zero, List.set_cons_succ]
          refine wpAnyE_ready (rs := [2, 5]) (by kernel_rfl) (by simp) (AllReadyE.cons rfl (fun K hK => ?_) (AllReadyE.cons rfl (fun K hK => ?_) AllReadyE.nil))
          · go_simp
            refine (add_walk _ _ xs xt _ (by first | exact Bs.out.2 | exact Bs.out.2.below (below_new _ _) | exact (Bs.out.2.below (below_new _ _)).below ((Below.refl _ _).drew)) (by first | exact Bt.out.2 | exact Bt.out.2.below (below_new _ _) | exact (Bt.out.2.below (below_new _ _)).below ((Below.refl _ _).drew)) ((Ls.out).l1 (by decide)) ((Lt.out).l1 (by decide))).mono ?_
            rintro e w12 ⟨vp, rfl, hvp, hb⟩
            obtain ⟨sp, Ap, lp, cp, rfl⟩ := hvp.shape
            have Vp := Lib.hid hvp
            clear hvp
            replace Bs := Lib.hid (Bs.out.below hb)
            replace Bt := Lib.hid (Bt.out.below hb)
            replace Bu := Lib.hid (Bu.out.below hb)
            replace HB := Lib.hid (HB.out.trans (hb.mono HB.out.size))
            replace HT := Lib.hid (HT.out.below hb)
            replace HRG := Lib.hid (HRG.out.trans (hb.mono HRG.out.size))
            clear hb
            clear hh
            have hh := KS.out _ HRG.out
            refine hK.out _ _ (fun _ => hh) ?_
            clear hK K
            refine wpAnyE_ready (rs := [4, 5]) (by kernel_rfl) (by simp) (AllReadyE.cons rfl (fun K hK => ?_) (AllReadyE.cons rfl (fun K hK => ?_) AllReadyE.nil))
            · go_simp
              refine (mul_walk _ _ (xs + xt) xu _ (by first | exact Vp.out | exact Vp.out.below (below_new _ _) | exact (Vp.out.below (below_new _ _)).below ((Below.refl _ _).drew)) (by first | exact Bu.out.2 | exact Bu.out.2.below (below_new _ _) | exact (Bu.out.2.below (below_new _ _)).below ((Below.refl _ _).drew)) ((Ls.out.add Lt.out).l1 (by decide)) ((Lu.out).l1 (by decide))).mono ?_
              rintro e w13 ⟨vq, rfl, hvq, hb⟩
              obtain ⟨sq, Aq, lq, cq, rfl⟩ := hvq.shape
              have Vq := Lib.hid hvq
              clear hvq
              replace Bs := Lib.hid (Bs.out.below hb)
              replace Bt := Lib.hid (Bt.out.below hb)
              replace Bu := Lib.hid (Bu.out.below hb)
              replace Vp := Lib.hid (Vp.out.below hb)
              replace HB := Lib.hid (HB.out.trans (hb.mono HB.out.size))
              replace HT := Lib.hid (HT.out.below hb)
              replace HRG := Lib.hid (HRG.out.trans (hb.mono HRG.out.size))
              clear hb
              clear hh
              have hh := KS.out _ HRG.out
              refine hK.out _ _ (fun _ => hh) ?_
              clear hK K
              refine wpAnyE_ready (rs := [5]) (by kernel_rfl) (by simp) (AllReadyE.cons rfl (fun K hK => ?_) AllReadyE.nil)
              go_simp
              obtain ⟨w14, hwd⟩ : ∃ w14, w14 = w13.alloc (.cells #[.bool false, .slice none 0 0] 25) := ⟨_, rfl⟩
              have hb : Below w13.heap.size w13 w14 := by rw [hwd]; exact below_new _ _
              have RN : Hid (Row w14 w13.heap.size 25 [.bool false, .slice none 0 0]) := Lib.hid (by rw [hwd]; exact heap_new _ _)
              have HRN : Hid (w10.heap.size ≤ w13.heap.size) := Lib.hid HRG.out.size
              rw [← hwd]
              clear hwd
              replace Bs := Lib.hid (Bs.out.below hb)
              replace Bt := Lib.hid (Bt.out.below hb)
              replace Bu := Lib.hid (Bu.out.below hb)
              replace Vp := Lib.hid (Vp.out.below hb)
              replace Vq := Lib.hid (Vq.out.below hb)
              replace HB := Lib.hid (HB.out.trans (hb.mono HB.out.size))
              replace HT := Lib.hid (HT.out.below hb)
              replace HRG := Lib.hid (HRG.out.trans (hb.mono HRG.out.size))
              clear hb
              clear hh
              have hh := KS.out _ HRG.out
              refine hK.out _ _ (fun _ => hh) ?_
              clear hK K
              have k1 := RN.out.at_ 0 rfl
              have k2 := RN.out.at_ 1 rfl
              have k3 := RN.out.free 0
              have k4 := RN.out.free 1
              refine wpAnyE_ready (rs := [6]) (by kernel_rfl) (by simp) (AllReadyE.cons rfl (fun K hK => ?_) AllReadyE.nil)
              go_simp
              refine hK.out _ _ (fun h => by simp at h) ?_
              clear hK K
              refine wpAnyE_done (by kernel_rfl) ?_ _
              clear hh KS k1 k2 k3 k4
              have hsz := HRG.out.size
              have hrn := HRN.out
              go_wp2_with fail
              go_meet
              exact ⟨_, _, _, _, _, rfl, Lib.hid (box_put RN.out Vq.out), Lib.hid (Bs.out.far (by have := HRN.out; have := hqBs.out; omega) RN.out), Lib.hid (Bt.out.far (by have := HRN.out; have := hqBt.out; omega) RN.out), Lib.hid (Bu.out.far (by have := HRN.out; have := hqBu.out; omega) RN.out), Lib.hid ((HB.out.setCell (p := ⟨_, 0, none⟩) (by first | omega | (simp; omega)) _).setCell (p := ⟨_, 1, none⟩) (by first | omega | (simp; omega)) _)⟩
            · go_simp
              obtain ⟨w13, hwd⟩ : ∃ w13, w13 = w12.alloc (.cells #[.bool false, .slice none 0 0] 25) := ⟨_, rfl⟩
              have hb : Below w12.heap.size w12 w13 := by rw [hwd]; exact below_new _ _
              have RN : Hid (Row w13 w12.heap.size 25 [.bool false, .slice none 0 0]) := Lib.hid (by rw [hwd]; exact heap_new _ _)
              have HRN : Hid (w10.heap.size ≤ w12.heap.size) := Lib.hid HRG.out.size
              rw [← hwd]
              clear hwd
              replace Bs := Lib.hid (Bs.out.below hb)
              replace Bt := Lib.hid (Bt.out.below hb)
              replace Bu := Lib.hid (Bu.out.below hb)
              replace Vp := Lib.hid (Vp.out.below hb)
              replace HB := Lib.hid (HB.out.trans (hb.mono HB.out.size))
              replace HT := Lib.hid (HT.out.below hb)
              replace HRG := Lib.hid (HRG.out.trans (hb.mono HRG.out.size))
              clear hb
              clear hh
              have hh := KS.out _ HRG.out
              refine hK.out _ _ (fun _ => hh) ?_
              clear hK K
              refine wpAnyE_ready (rs := [4]) (by kernel_rfl) (by simp) (AllReadyE.cons rfl (fun K hK => ?_) AllReadyE.nil)
              go_simp
              refine (mul_walk _ _ (xs + xt) xu _ (by first | exact Vp.out | exact Vp.out.below (below_new _ _) | exact (Vp.out.below (below_new _ _)).below ((Below.refl _ _).drew)) (by first | exact Bu.out.2 | exact Bu.out.2.below (below_new _ _) | exact (Bu.out.2.below (below_new _ _)).below ((Below.refl _ _).drew)) ((Ls.out.add Lt.out).l1 (by decide)) ((Lu.out).l1 (by decide))).mono ?_
              rintro e w14 ⟨vq, rfl, hvq, hb⟩
              obtain ⟨sq, Aq, lq, cq, rfl⟩ := hvq.shape
              have Vq := Lib.hid hvq
              clear hvq
              replace RN := Lib.hid (RN.out.below hb RN.out.lt)
              replace Bs := Lib.hid (Bs.out.below hb)
              replace Bt := Lib.hid (Bt.out.below hb)
              replace Bu := Lib.hid (Bu.out.below hb)
              replace Vp := Lib.hid (Vp.out.below hb)
              replace HB := Lib.hid (HB.out.trans (hb.mono HB.out.size))
              replace HT := Lib.hid (HT.out.below hb)
              replace HRG := Lib.hid (HRG.out.trans (hb.mono HRG.out.size))
              clear hb
              clear hh
              have hh := KS.out _ HRG.out
              refine hK.out _ _ (fun _ => hh) ?_
              clear hK K
              have k1 := RN.out.at_ 0 rfl
              have k2 := RN.out.at_ 1 rfl
              have k3 := RN.out.free 0
              have k4 := RN.out.free 1
              refine wpAnyE_ready (rs := [6]) (by kernel_rfl) (by simp) (AllReadyE.cons rfl (fun K hK => ?_) AllReadyE.nil)
              go_simp
              refine hK.out _ _ (fun h => by simp at h) ?_
              clear hK K
              refine wpAnyE_done (by kernel_rfl) ?_ _
              clear hh KS k1 k2 k3 k4
              have hsz := HRG.out.size
              have hrn := HRN.out
              go_wp2_with fail
              go_meet
              exact ⟨_, _, _, _, _, rfl, Lib.hid (box_put RN.out Vq.out), Lib.hid (Bs.out.far (by have := HRN.out; have := hqBs.out; omega) RN.out), Lib.hid (Bt.out.far (by have := HRN.out; have := hqBt.out; omega) RN.out), Lib.hid (Bu.out.far (by have := HRN.out; have := hqBu.out; omega) RN.out), Lib.hid ((HB.out.setCell (p := ⟨_, 0, none⟩) (by first | omega | (simp; omega)) _).setCell (p := ⟨_, 1, none⟩) (by first | omega | (simp; omega)) _)⟩
          · go_simp
            obtain ⟨w12, hwd⟩ : ∃ w12, w12 = w11.alloc (.cells #[.bool false, .slice none 0 0] 25) := ⟨_, rfl⟩
            have hb : Below w11.heap.size w11 w12 := by rw [hwd]; exact below_new _ _
            have RN : Hid (Row w12 w11.heap.size 25 [.bool false, .slice none 0 0]) := Lib.hid (by rw [hwd]; exact heap_new _ _)
            have HRN : Hid (w10.heap.size ≤ w11.heap.size) := Lib.hid HRG.out.size
            rw [← hwd]
            clear hwd
            replace Bs := Lib.hid (Bs.out.below hb)
            replace Bt := Lib.hid (Bt.out.below hb)
            replace Bu := Lib.hid (Bu.out.below hb)
            replace HB := Lib.hid (HB.out.trans (hb.mono HB.out.size))
            replace HT := Lib.hid (HT.out.below hb)
            replace HRG := Lib.hid (HRG.out.trans (hb.mono HRG.out.size))
            clear hb
            clear hh
            have hh := KS.out _ HRG.out
            refine hK.out _ _ (fun _ => hh) ?_
            clear hK K
            refine wpAnyE_ready (rs := [2]) (by kernel_rfl) (by simp) (AllReadyE.cons rfl (fun K hK => ?_) AllReadyE.nil)
            go_simp
            refine (add_walk _ _ xs xt _ (by first | exact Bs.out.2 | exact Bs.out.2.below (below_new _ _) | exact (Bs.out.2.below (below_new _ _)).below ((Below.refl _ _).drew)) (by first | exact Bt.out.2 | exact Bt.out.2.below (below_new _ _) | exact (Bt.out.2.below (below_new _ _)).below ((Below.refl _ _).drew)) ((Ls.out).l1 (by decide)) ((Lt.out).l1 (by decide))).mono ?_
            rintro e w13 ⟨vp, rfl, hvp, hb⟩
            obtain ⟨sp, Ap, lp, cp, rfl⟩ := hvp.shape
            have Vp := Lib.hid hvp
            clear hvp
            replace RN := Lib.hid (RN.out.below hb RN.out.lt)
            replace Bs := Lib.hid (Bs.out.below hb)
            replace Bt := Lib.hid (Bt.out.below hb)
            replace Bu := Lib.hid (Bu.out.below hb)
            replace HB := Lib.hid (HB.out.trans (hb.mono HB.out.size))
            replace HT := Lib.hid (HT.out.below hb)
            replace HRG := Lib.hid (HRG.out.trans (hb.mono HRG.out.size))
            clear hb
            clear hh
            have hh := KS.out _ HRG.out
            refine hK.out _ _ (fun _ => hh) ?_
            clear hK K
            refine wpAnyE_ready (rs := [4]) (by kernel_rfl) (by simp) (AllReadyE.cons rfl (fun K hK => ?_) AllReadyE.nil)
            go_simp
            refine (mul_walk _ _ (xs + xt) xu _ (by first | exact Vp.out | exact Vp.out.below (below_new _ _) | exact (Vp.out.below (below_new _ _)).below ((Below.refl _ _).drew)) (by first | exact Bu.out.2 | exact Bu.out.2.below (below_new _ _) | exact (Bu.out.2.below (below_new _ _)).below ((Below.refl _ _).drew)) ((Ls.out.add Lt.out).l1 (by decide)) ((Lu.out).l1 (by decide))).mono ?_
            rintro e w14 ⟨vq, rfl, hvq, hb⟩
            obtain ⟨sq, Aq, lq, cq, rfl⟩ := hvq.shape
            have Vq := Lib.hid hvq
            clear hvq
            replace RN := Lib.hid (RN.out.below hb RN.out.lt)
            replace Bs := Lib.hid (Bs.out.below hb)
            replace Bt := Lib.hid (Bt.out.below hb)
            replace Bu := Lib.hid (Bu.out.below hb)
            replace Vp := Lib.hid (Vp.out.below hb)
            replace HB := Lib.hid (HB.out.trans (hb.mono HB.out.size))
            replace HT := Lib.hid (HT.out.below hb)
            replace HRG := Lib.hid (HRG.out.trans (hb.mono HRG.out.size))
            clear hb
            clear hh
            have hh := KS.out _ HRG.out
            refine hK.out _ _ (fun _ => hh) ?_
            clear hK K
            have k1 := RN.out.at_ 0 rfl
            have k2 := RN.out.at_ 1 rfl
            have k3 := RN.out.free 0
            have k4 := RN.out.free 1
            refine wpAnyE_ready (rs := [6]) (by kernel_rfl) (by simp) (AllReadyE.cons rfl (fun K hK => ?_) AllReadyE.nil)
            go_simp
            refine hK.out _ _ (fun h => by simp at h) ?_
            clear hK K
            refine wpAnyE_done (by kernel_rfl) ?_ _
            clear hh KS k1 k2 k3 k4
            have hsz := HRG.out.size
            have hrn := HRN.out
            go_wp2_with fail
            go_meet
            exact ⟨_, _, _, _, _, rfl, Lib.hid (box_put RN.out Vq.out), Lib.hid (Bs.out.far (by have := HRN.out; have := hqBs.out; omega) RN.out), Lib.hid (Bt.out.far (by have := HRN.out; have := hqBt.out; omega) RN.out), Lib.hid (Bu.out.far (by have := HRN.out; have := hqBu.out; omega) RN.out), Lib.hid ((HB.out.setCell (p := ⟨_, 0, none⟩) (by first | omega | (simp; omega)) _).setCell (p := ⟨_, 1, none⟩) (by first | omega | (simp; omega)) _)⟩
        case rest =>
          obtain ⟨gleft, sleft, Aleft, lleft, cleft, rfl, Bleft, Bs, Bt, Bu, HB⟩ := hcut
          replace HT := Lib.hid (HT0.out.below HB.out)
          go_upto_region 7 with (fail)
          go_cut [14] (fun v wx => ∃ gg sg Ag lg cg, v = .pointer (some ⟨gg, 0, none⟩) ∧ Hid (Box wx gg sg Ag lg cg (xs * xu + xt * xu)) ∧ Hid (Box wx w5.heap.size ss As ls cs xs) ∧ Hid (Box wx w7.heap.size st At lt ct xt) ∧ Hid (Box wx w9.heap.size su Au lu cu xu) ∧ Hid (Box wx gleft sleft Aleft lleft cleft ((xs + xt) * xu)) ∧ Hid (Below w.heap.size w wx))
          case first =>
            have hs0 := HB.out.size
            have hqBs : Hid (w5.heap.size < wc.heap.size) := Lib.hid Bs.out.1.lt
            have hqBt : Hid (w7.heap.size < wc.heap.size) := Lib.hid Bt.out.1.lt
            have hqBu : Hid (w9.heap.size < wc.heap.size) := Lib.hid Bu.out.1.lt
            have hqBleft : Hid (gleft < wc.heap.size) := Lib.hid Bleft.out.1.lt
            have g0Bs := Bs.out.c0
            have g1Bs := Bs.out.c1
            have glBs := Bs.out.1.lt
            have g0Bt := Bt.out.c0
            have g1Bt := Bt.out.c1
            have glBt := Bt.out.1.lt
            have g0Bu := Bu.out.c0
            have g1Bu := Bu.out.c1
            have glBu := Bu.out.1.lt
            have KS : Hid (∀ w', Below wc.heap.size wc w' → (w'.cell? ⟨w5.heap.size, 0, none⟩ = some (.bool ss) ∧ w'.cell? ⟨w5.heap.size, 1, none⟩ = some (.slice As ls cs) ∧ w'.cell? ⟨w7.heap.size, 0, none⟩ = some (.bool st) ∧ w'.cell? ⟨w7.heap.size, 1, none⟩ = some (.slice At lt ct) ∧ w'.cell? ⟨w9.heap.size, 0, none⟩ = some (.bool su) ∧ w'.cell? ⟨w9.heap.size, 1, none⟩ = some (.slice Au lu cu))) := Lib.hid (fun w' hb => ⟨((bbelow hb).1 w5.heap.size 0 glBs).trans g0Bs, ((bbelow hb).1 w5.heap.size 1 glBs).trans g1Bs, ((bbelow hb).1 w7.heap.size 0 glBt).trans g0Bt, ((bbelow hb).1 w7.heap.size 1 glBt).trans g1Bt, ((bbelow hb).1 w9.heap.size 0 glBu).trans g0Bu, ((bbelow hb).1 w9.heap.size 1 glBu).trans g1Bu⟩)
            clear g0Bs g1Bs glBs g0Bt g1Bt glBt g0Bu g1Bu glBu
            refine wp_region_late (fun w' => w'.cell? ⟨w5.heap.size, 0, none⟩ = some (.bool ss) ∧ w'.cell? ⟨w5.heap.size, 1, none⟩ = some (.slice As ls cs) ∧ w'.cell? ⟨w7.heap.size, 0, none⟩ = some (.bool st) ∧ w'.cell? ⟨w7.heap.size, 1, none⟩ = some (.slice At lt ct) ∧ w'.cell? ⟨w9.heap.size, 0, none⟩ = some (.bool su) ∧ w'.cell? ⟨w9.heap.size, 1, none⟩ = some (.slice Au lu cu)) (fun i => decide (8 ≤ i)) (by kernel_rfl) ?_
            obtain ⟨w23, hwd⟩ : ∃ w23, w23 = wc.drew := ⟨_, rfl⟩
            rw [← hwd]
            have hb : Below wc.heap.size wc w23 := by rw [hwd]; exact (Below.refl _ _).drew
            clear hwd
            replace Bs := Lib.hid (Bs.out.below hb)
            replace Bt := Lib.hid (Bt.out.below hb)
            replace Bu := Lib.hid (Bu.out.below hb)
            replace Bleft := Lib.hid (Bleft.out.below hb)
            replace HB := Lib.hid (HB.out.trans (hb.mono HB.out.size))
            replace HT := Lib.hid (HT.out.below hb)
            have HRG := Lib.hid hb
            clear hb
            have hh := KS.out _ HRG.out
            refine wpAnyE_taked (i := 0) (v := ?_) (some 58) rfl (by rfl) (by kernel_rfl) (by kernel_rfl) (by kernel_rfl) (by kernel_rfl) (fun _ _ _ h => h) (Or.inl ⟨by rfl, ?_⟩) hh ?_
            rotate_left
            · (intro w' hSw; (try dsimp only at hSw); go_simp; try with_reducible rfl)
            simp only [Act.put, List.setIfInBounds_toArray, List.set_cons_zero, List.set_cons_succ]
            refine wpAnyE_taked (i := 1) (v := ?_) (some 59) rfl (by rfl) (by kernel_rfl) (by kernel_rfl) (by kernel_rfl) (by kernel_rfl) (fun _ _ _ h => h) (Or.inl ⟨by rfl, ?_⟩) hh ?_
            rotate_left
            · (intro w' hSw; (try dsimp only at hSw); go_simp; try with_reducible rfl)
            simp only [Act.put, List.setIfInBounds_toArray, List.set_cons_zero, List.set_cons_succ]
            refine wpAnyE_taked (i := 3) (v := ?_) (some 61) rfl (by rfl) (by kernel_rfl) (by kernel_rfl) (by kernel_rfl) (by kernel_rfl) (fun _ _ _ h => h) (Or.inl ⟨by rfl, ?_⟩) hh ?_
            rotate_left
            · (intro w' hSw; (try dsimp only at hSw); go_simp; try with_reducible rfl)
            simp only [Act.put, List.setIfInBounds_toArray, List.set_cons_zero, List.set_cons_succ]
            refine wpAnyE_taked (i := 4) (v := ?_) (some 62) rfl (by rfl) (by kernel_rfl) (by kernel_rfl) (by kernel_rfl) (by kernel_rfl) (fun _ _ _ h => h) (Or.inl ⟨by rfl, ?_⟩) hh ?_
            rotate_left
            · (intro w' hSw; (try dsimp only at hSw); go_simp; try with_reducible rfl)
            simp only [Act.put, List.setIfInBounds_toArray, List.set_cons_zero, List.set_cons_succ]
            refine wpAnyE_ready (rs := [2, 7]) (by kernel_rfl) (by simp) (AllReadyE.cons rfl (fun K hK => ?_) (AllReadyE.cons rfl (fun K hK => ?_) AllReadyE.nil))
            · go_simp
              refine (mul_walk _ _ xs xu _ (by first | exact Bs.out.2 | exact Bs.out.2.below (below_new _ _) | exact (Bs.out.2.below (below_new _ _)).below ((Below.refl _ _).drew)) (by first | exact Bu.out.2 | exact Bu.out.2.below (below_new _ _) | exact (Bu.out.2.below (below_new _ _)).below ((Below.refl _ _).drew)) ((Ls.out).l1 (by decide)) ((Lu.out).l1 (by decide))).mono ?_
              rintro e w24 ⟨vp2, rfl, hvp2, hb⟩
              obtain ⟨sp2, Ap2, lp2, cp2, rfl⟩ := hvp2.shape
              have Vp2 := Lib.hid hvp2
              clear hvp2
              replace Bs := Lib.hid (Bs.out.below hb)
              replace Bt := Lib.hid (Bt.out.below hb)
              replace Bu := Lib.hid (Bu.out.below hb)
              replace Bleft := Lib.hid (Bleft.out.below hb)
              replace HB := Lib.hid (HB.out.trans (hb.mono HB.out.size))
              replace HT := Lib.hid (HT.out.below hb)
              replace HRG := Lib.hid (HRG.out.trans (hb.mono HRG.out.size))
              clear hb
              clear hh
              have hh := KS.out _ HRG.out
              refine hK.out _ _ (fun _ => hh) ?_
              clear hK K
              refine wpAnyE_ready (rs := [5, 7]) (by kernel_rfl) (by simp) (AllReadyE.cons rfl (fun K hK => ?_) (AllReadyE.cons rfl (fun K hK => ?_) AllReadyE.nil))
              · go_simp
                refine (mul_walk _ _ xt xu _ (by first | exact Bt.out.2 | exact Bt.out.2.below (below_new _ _) | exact (Bt.out.2.below (below_new _ _)).below ((Below.refl _ _).drew)) (by first | exact Bu.out.2 | exact Bu.out.2.below (below_new _ _) | exact (Bu.out.2.below (below_new _ _)).below ((Below.refl _ _).drew)) ((Lt.out).l1 (by decide)) ((Lu.out).l1 (by decide))).mono ?_
                rintro e w25 ⟨vq2, rfl, hvq2, hb⟩
                obtain ⟨sq2, Aq2, lq2, cq2, rfl⟩ := hvq2.shape
                have Vq2 := Lib.hid hvq2
                clear hvq2
                replace Bs := Lib.hid (Bs.out.below hb)
                replace Bt := Lib.hid (Bt.out.below hb)
                replace Bu := Lib.hid (Bu.out.below hb)
                replace Bleft := Lib.hid (Bleft.out.below hb)
                replace Vp2 := Lib.hid (Vp2.out.below hb)
                replace HB := Lib.hid (HB.out.trans (hb.mono HB.out.size))
                replace HT := Lib.hid (HT.out.below hb)
                replace HRG := Lib.hid (HRG.out.trans (hb.mono HRG.out.size))
                clear hb
                clear hh
                have hh := KS.out _ HRG.out
                refine hK.out _ _ (fun _ => hh) ?_
                clear hK K
                refine wpAnyE_ready (rs := [6, 7]) (by kernel_rfl) (by simp) (AllReadyE.cons rfl (fun K hK => ?_) (AllReadyE.cons rfl (fun K hK => ?_) AllReadyE.nil))
                · go_simp
                  refine (add_walk _ _ (xs * xu) (xt * xu) _ (by first | exact Vp2.out | exact Vp2.out.below (below_new _ _) | exact (Vp2.out.below (below_new _ _)).below ((Below.refl _ _).drew)) (by first | exact Vq2.out | exact Vq2.out.below (below_new _ _) | exact (Vq2.out.below (below_new _ _)).below ((Below.refl _ _).drew)) ((Ls.out.mul Lu.out).l1 (by decide)) ((Lt.out.mul Lu.out).l1 (by decide))).mono ?_
                  rintro e w26 ⟨vr2, rfl, hvr2, hb⟩
                  obtain ⟨sr2, Ar2, lr2, cr2, rfl⟩ := hvr2.shape
                  have Vr2 := Lib.hid hvr2
                  clear hvr2
                  replace Bs := Lib.hid (Bs.out.below hb)
                  replace Bt := Lib.hid (Bt.out.below hb)
                  replace Bu := Lib.hid (Bu.out.below hb)
                  replace Bleft := Lib.hid (Bleft.out.below hb)
                  replace Vp2 := Lib.hid (Vp2.out.below hb)
                  replace Vq2 := Lib.hid (Vq2.out.below hb)
                  replace HB := Lib.hid (HB.out.trans (hb.mono HB.out.size))
                  replace HT := Lib.hid (HT.out.below hb)
                  replace HRG := Lib.hid (HRG.out.trans (hb.mono HRG.out.size))
                  clear hb
                  clear hh
                  have hh := KS.out _ HRG.out
                  refine hK.out _ _ (fun _ => hh) ?_
                  clear hK K
                  refine wpAnyE_ready (rs := [7]) (by kernel_rfl) (by simp) (AllReadyE.cons rfl (fun K hK => ?_) AllReadyE.nil)
                  go_simp
                  obtain ⟨w27, hwd⟩ : ∃ w27, w27 = w26.alloc (.cells #[.bool false, .slice none 0 0] 25) := ⟨_, rfl⟩
                  have hb : Below w26.heap.size w26 w27 := by rw [hwd]; exact below_new _ _
                  have RN : Hid (Row w27 w26.heap.size 25 [.bool false, .slice none 0 0]) := Lib.hid (by rw [hwd]; exact heap_new _ _)
                  have HRN : Hid (wc.heap.size ≤ w26.heap.size) := Lib.hid HRG.out.size
                  rw [← hwd]
                  clear hwd
                  replace Bs := Lib.hid (Bs.out.below hb)
                  replace Bt := Lib.hid (Bt.out.below hb)
                  replace Bu := Lib.hid (Bu.out.below hb)
                  replace Bleft := Lib.hid (Bleft.out.below hb)
                  replace Vp2 := Lib.hid (Vp2.out.below hb)
                  replace Vq2 := Lib.hid (Vq2.out.below hb)
                  replace Vr2 := Lib.hid (Vr2.out.below hb)
                  replace HB := Lib.hid (HB.out.trans (hb.mono HB.out.size))
                  replace HT := Lib.hid (HT.out.below hb)
                  replace HRG := Lib.hid (HRG.out.trans (hb.mono HRG.out.size))
                  clear hb
                  clear hh
                  have hh := KS.out _ HRG.out
                  refine hK.out _ _ (fun _ => hh) ?_
                  clear hK K
                  have k1 := RN.out.at_ 0 rfl
                  have k2 := RN.out.at_ 1 rfl
                  have k3 := RN.out.free 0
                  have k4 := RN.out.free 1
                  refine wpAnyE_ready (rs := [8]) (by kernel_rfl) (by simp) (AllReadyE.cons rfl (fun K hK => ?_) AllReadyE.nil)
                  go_simp
                  refine hK.out _ _ (fun h => by simp at h) ?_
                  clear hK K
                  refine wpAnyE_done (by kernel_rfl) ?_ _
                  clear hh KS k1 k2 k3 k4
                  have hsz := HRG.out.size
                  have hrn := HRN.out
                  go_wp2_with fail
                  go_meet
                  exact ⟨_, _, _, _, _, rfl, Lib.hid (box_put RN.out Vr2.out), Lib.hid (Bs.out.far (by have := HRN.out; have := hqBs.out; omega) RN.out), Lib.hid (Bt.out.far (by have := HRN.out; have := hqBt.out; omega) RN.out), Lib.hid (Bu.out.far (by have := HRN.out; have := hqBu.out; omega) RN.out), Lib.hid (Bleft.out.far (by have := HRN.out; have := hqBleft.out; omega) RN.out), Lib.hid ((HB.out.setCell (p := ⟨_, 0, none⟩) (by first | omega | (simp; omega)) _).setCell (p := ⟨_, 1, none⟩) (by first | omega | (simp; omega)) _)⟩
                · go_simp
                  obtain ⟨w26, hwd⟩ : ∃ w26, w26 = w25.alloc (.cells #[.bool false, .slice none 0 0] 25) := ⟨_, rfl⟩
                  have hb : Below w25.heap.size w25 w26 := by rw [hwd]; exact below_new _ _
                  have RN : Hid (Row w26 w25.heap.size 25 [.bool false, .slice none 0 0]) := Lib.hid (by rw [hwd]; exact heap_new _ _)
                  have HRN : Hid (wc.heap.size ≤ w25.heap.size) := Lib.hid HRG.out.size
                  rw [← hwd]
                  clear hwd
                  replace Bs := Lib.hid (Bs.out.below hb)
                  replace Bt := Lib.hid (Bt.out.below hb)
                  replace Bu := Lib.hid (Bu.out.below hb)
                  replace Bleft := Lib.hid (Bleft.out.below hb)
                  replace Vp2 := Lib.hid (Vp2.out.below hb)
                  replace Vq2 := Lib.hid (Vq2.out.below hb)
                  replace HB := Lib.hid (HB.out.trans (hb.mono HB.out.size))
                  replace HT := Lib.hid (HT.out.below hb)
                  replace HRG := Lib.hid (HRG.out.trans (hb.mono HRG.out.size))
                  clear hb
                  clear hh
                  have hh := KS.out _ HRG.out
                  refine hK.out _ _ (fun _ => hh) ?_
                  clear hK K
                  refine wpAnyE_ready (rs := [6]) (by kernel_rfl) (by simp) (AllReadyE.cons rfl (fun K hK => ?_) AllReadyE.nil)
                  go_simp
                  refine (add_walk _ _ (xs * xu) (xt * xu) _ (by first | exact Vp2.out | exact Vp2.out.below (below_new _ _) | exact (Vp2.out.below (below_new _ _)).below ((Below.refl _ _).drew)) (by first | exact Vq2.out | exact Vq2.out.below (below_new _ _) | exact (Vq2.out.below (below_new _ _)).below ((Below.refl _ _).drew)) ((Ls.out.mul Lu.out).l1 (by decide)) ((Lt.out.mul Lu.out).l1 (by decide))).mono ?_
                  rintro e w27 ⟨vr2, rfl, hvr2, hb⟩
                  obtain ⟨sr2, Ar2, lr2, cr2, rfl⟩ := hvr2.shape
                  have Vr2 := Lib.hid hvr2
                  clear hvr2
                  replace RN := Lib.hid (RN.out.below hb RN.out.lt)
                  replace Bs := Lib.hid (Bs.out.below hb)
                  replace Bt := Lib.hid (Bt.out.below hb)
                  replace Bu := Lib.hid (Bu.out.below hb)
                  replace Bleft := Lib.hid (Bleft.out.below hb)
                  replace Vp2 := Lib.hid (Vp2.out.below hb)
                  replace Vq2 := Lib.hid (Vq2.out.below hb)
                  replace HB := Lib.hid (HB.out.trans (hb.mono HB.out.size))
                  replace HT := Lib.hid (HT.out.below hb)
                  replace HRG := Lib.hid (HRG.out.trans (hb.mono HRG.out.size))
                  clear hb
                  clear hh
                  have hh := KS.out _ HRG.out
                  refine hK.out _ _ (fun _ => hh) ?_
                  clear hK K
                  have k1 := RN.out.at_ 0 rfl
                  have k2 := RN.out.at_ 1 rfl
                  have k3 := RN.out.free 0
                  have k4 := RN.out.free 1
                  refine wpAnyE_ready (rs := [8]) (by kernel_rfl) (by simp) (AllReadyE.cons rfl (fun K hK => ?_) AllReadyE.nil)
                  go_simp
                  refine hK.out _ _ (fun h => by simp at h) ?_
                  clear hK K
                  refine wpAnyE_done (by kernel_rfl) ?_ _
                  clear hh KS k1 k2 k3 k4
                  have hsz := HRG.out.size
                  have hrn := HRN.out
                  go_wp2_with fail
                  go_meet
                  exact ⟨_, _, _, _, _, rfl, Lib.hid (box_put RN.out Vr2.out), Lib.hid (Bs.out.far (by have := HRN.out; have := hqBs.out; omega) RN.out), Lib.hid (Bt.out.far (by have := HRN.out; have := hqBt.out; omega) RN.out), Lib.hid (Bu.out.far (by have := HRN.out; have := hqBu.out; omega) RN.out), Lib.hid (Bleft.out.far (by have := HRN.out; have := hqBleft.out; omega) RN.out), Lib.hid ((HB.out.setCell (p := ⟨_, 0, none⟩) (by first | omega | (simp; omega)) _).setCell (p := ⟨_, 1, none⟩) (by first | omega | (simp; omega)) _)⟩
              · go_simp
                obtain ⟨w25, hwd⟩ : ∃ w25, w25 = w24.alloc (.cells #[.bool false, .slice none 0 0] 25) := ⟨_, rfl⟩
                have hb : Below w24.heap.size w24 w25 := by rw [hwd]; exact below_new _ _
                have RN : Hid (Row w25 w24.heap.size 25 [.bool false, .slice none 0 0]) := Lib.hid (by rw [hwd]; exact heap_new _ _)
                have HRN : Hid (wc.heap.size ≤ w24.heap.size) := Lib.hid HRG.out.size
                rw [← hwd]
                clear hwd
                replace Bs := Lib.hid (Bs.out.below hb)
                replace Bt := Lib.hid (Bt.out.below hb)
                replace Bu := Lib.hid (Bu.out.below hb)
                replace Bleft := Lib.hid (Bleft.out.below hb)
                replace Vp2 := Lib.hid (Vp2.out.below hb)
                replace HB := Lib.hid (HB.out.trans (hb.mono HB.out.size))
                replace HT := Lib.hid (HT.out.below hb)
                replace HRG := Lib.hid (HRG.out.trans (hb.mono HRG.out.size))
                clear hb
                clear hh
                have hh := KS.out _ HRG.out
                refine hK.out _ _ (fun _ => hh) ?_
                clear hK K
                refine wpAnyE_ready (rs := [5]) (by kernel_rfl) (by simp) (AllReadyE.cons rfl (fun K hK => ?_) AllReadyE.nil)
                go_simp
                refine (mul_walk _ _ xt xu _ (by first | exact Bt.out.2 | exact Bt.out.2.below (below_new _ _) | exact (Bt.out.2.below (below_new _ _)).below ((Below.refl _ _).drew)) (by first | exact Bu.out.2 | exact Bu.out.2.below (below_new _ _) | exact (Bu.out.2.below (below_new _ _)).below ((Below.refl _ _).drew)) ((Lt.out).l1 (by decide)) ((Lu.out).l1 (by decide))).mono ?_
                rintro e w26 ⟨vq2, rfl, hvq2, hb⟩
                obtain ⟨sq2, Aq2, lq2, cq2, rfl⟩ := hvq2.shape
                have Vq2 := Lib.hid hvq2
                clear hvq2
                replace RN := Lib.hid (RN.out.below hb RN.out.lt)
                replace Bs := Lib.hid (Bs.out.below hb)
                replace Bt := Lib.hid (Bt.out.below hb)
                replace Bu := Lib.hid (Bu.out.below hb)
                replace Bleft := Lib.hid (Bleft.out.below hb)
                replace Vp2 := Lib.hid (Vp2.out.below hb)
                replace HB := Lib.hid (HB.out.trans (hb.mono HB.out.size))
                replace HT := Lib.hid (HT.out.below hb)
                replace HRG := Lib.hid (HRG.out.trans (hb.mono HRG.out.size))
                clear hb
                clear hh
                have hh := KS.out _ HRG.out
                refine hK.out _ _ (fun _ => hh) ?_
                clear hK K
                refine wpAnyE_ready (rs := [6]) (by kernel_rfl) (by simp) (AllReadyE.cons rfl (fun K hK => ?_) AllReadyE.nil)
                go_simp
                refine (add_walk _ _ (xs * xu) (xt * xu) _ (by first | exact Vp2.out | exact Vp2.out.below (below_new _ _) | exact (Vp2.out.below (below_new _ _)).below ((Below.refl _ _).drew)) (by first | exact Vq2.out | exact Vq2.out.below (below_new _ _) | exact (Vq2.out.below (below_new _ _)).below ((Below.refl _ _).drew)) ((Ls.out.mul Lu.out).l1 (by decide)) ((Lt.out.mul Lu.out).l1 (by decide))).mono ?_
                rintro e w27 ⟨vr2, rfl, hvr2, hb⟩
                obtain ⟨sr2, Ar2, lr2, cr2, rfl⟩ := hvr2.shape
                have Vr2 := Lib.hid hvr2
                clear hvr2
                replace RN := Lib.hid (RN.out.below hb RN.out.lt)
                replace Bs := Lib.hid (Bs.out.below hb)
                replace Bt := Lib.hid (Bt.out.below hb)
                replace Bu := Lib.hid (Bu.out.below hb)
                replace Bleft := Lib.hid (Bleft.out.below hb)
                replace Vp2 := Lib.hid (Vp2.out.below hb)
                replace Vq2 := Lib.hid (Vq2.out.below hb)
                replace HB := Lib.hid (HB.out.trans (hb.mono HB.out.size))
                replace HT := Lib.hid (HT.out.below hb)
                replace HRG := Lib.hid (HRG.out.trans (hb.mono HRG.out.size))
                clear hb
                clear hh
                have hh := KS.out _ HRG.out
                refine hK.out _ _ (fun _ => hh) ?_
                clear hK K
                have k1 := RN.out.at_ 0 rfl
                have k2 := RN.out.at_ 1 rfl
                have k3 := RN.out.free 0
                have k4 := RN.out.free 1
                refine wpAnyE_ready (rs := [8]) (by kernel_rfl) (by simp) (AllReadyE.cons rfl (fun K hK => ?_) AllReadyE.nil)
                go_simp
                refine hK.out _ _ (fun h => by simp at h) ?_
                clear hK K
                refine wpAnyE_done (by kernel_rfl) ?_ _
                clear hh KS k1 k2 k3 k4
                have hsz := HRG.out.size
                have hrn := HRN.out
                go_wp2_with fail
                go_meet
                exact ⟨_, _, _, _, _, rfl, Lib.hid (box_put RN.out Vr2.out), Lib.hid (Bs.out.far (by have := HRN.out; have := hqBs.out; omega) RN.out), Lib.hid (Bt.out.far (by have := HRN.out; have := hqBt.out; omega) RN.out), Lib.hid (Bu.out.far (by have := HRN.out; have := hqBu.out; omega) RN.out), Lib.hid (Bleft.out.far (by have := HRN.out; have := hqBleft.out; omega) RN.out), Lib.hid ((HB.out.setCell (p := ⟨_, 0, none⟩) (by first | omega | (simp; omega)) _).setCell (p := ⟨_, 1, none⟩) (by first | omega | (simp; omega)) _)⟩
            · go_simp
              obtain ⟨w24, hwd⟩ : ∃ w24, w24 = w23.alloc (.cells #[.bool false, .slice none 0 0] 25) := ⟨_, rfl⟩
              have hb : Below w23.heap.size w23 w24 := by rw [hwd]; exact below_new _ _
              have RN : Hid (Row w24 w23.heap.size 25 [.bool false, .slice none 0 0]) := Lib.hid (by rw [hwd]; exact heap_new _ _)
              have HRN : Hid (wc.heap.size ≤ w23.heap.size) := Lib.hid HRG.out.size
              rw [← hwd]
              clear hwd
              replace Bs := Lib.hid (Bs.out.below hb)
              replace Bt := Lib.hid (Bt.out.below hb)
              replace Bu := Lib.hid (Bu.out.below hb)
              replace Bleft := Lib.hid (Bleft.out.below hb)
              replace HB := Lib.hid (HB.out.trans (hb.mono HB.out.size))
              replace HT := Lib.hid (HT.out.below hb)
              replace HRG := Lib.hid (HRG.out.trans (hb.mono HRG.out.size))
              clear hb
              clear hh
              have hh := KS.out _ HRG.out
              refine hK.out _ _ (fun _ => hh) ?_
              clear hK K
              refine wpAnyE_ready (rs := [2]) (by kernel_rfl) (by simp) (AllReadyE.cons rfl (fun K hK => ?_) AllReadyE.nil)
              go_simp
              refine (mul_walk _ _ xs xu _ (by first | exact Bs.out.2 | exact Bs.out.2.below (below_new _ _) | exact (Bs.out.2.below (below_new _ _)).below ((Below.refl _ _).drew)) (by first | exact Bu.out.2 | exact Bu.out.2.below (below_new _ _) | exact (Bu.out.2.below (below_new _ _)).below ((Below.refl _ _).drew)) ((Ls.out).l1 (by decide)) ((Lu.out).l1 (by decide))).mono ?_
              rintro e w25 ⟨vp2, rfl, hvp2, hb⟩
              obtain ⟨sp2, Ap2, lp2, cp2, rfl⟩ := hvp2.shape
              have Vp2 := Lib.hid hvp2
              clear hvp2
              replace RN := Lib.hid (RN.out.below hb RN.out.lt)
              replace Bs := Lib.hid (Bs.out.below hb)
              replace Bt := Lib.hid (Bt.out.below hb)
              replace Bu := Lib.hid (Bu.out.below hb)
              replace Bleft := Lib.hid (Bleft.out.below hb)
              replace HB := Lib.hid (HB.out.trans (hb.mono HB.out.size))
              replace HT := Lib.hid (HT.out.below hb)
              replace HRG := Lib.hid (HRG.out.trans (hb.mono HRG.out.size))
              clear hb
              clear hh
              have hh := KS.out _ HRG.out
              refine hK.out _ _ (fun _ => hh) ?_
              clear hK K
              refine wpAnyE_ready (rs := [5]) (by kernel_rfl) (by simp) (AllReadyE.cons rfl (fun K hK => ?_) AllReadyE.nil)
              go_simp
              refine (mul_walk _ _ xt xu _ (by first | exact Bt.out.2 | exact Bt.out.2.below (below_new _ _) | exact (Bt.out.2.below (below_new _ _)).below ((Below.refl _ _).drew)) (by first | exact Bu.out.2 | exact Bu.out.2.below (below_new _ _) | exact (Bu.out.2.below (below_new _ _)).below ((Below.refl _ _).drew)) ((Lt.out).l1 (by decide)) ((Lu.out).l1 (by decide))).mono ?_
              rintro e w26 ⟨vq2, rfl, hvq2, hb⟩
              obtain ⟨sq2, Aq2, lq2, cq2, rfl⟩ := hvq2.shape
              have Vq2 := Lib.hid hvq2
              clear hvq2
              replace RN := Lib.hid (RN.out.below hb RN.out.lt)
              replace Bs := Lib.hid (Bs.out.below hb)
              replace Bt := Lib.hid (Bt.out.below hb)
              replace Bu := Lib.hid (Bu.out.below hb)
              replace Bleft := Lib.hid (Bleft.out.below hb)
              replace Vp2 := Lib.hid (Vp2.out.below hb)
              replace HB := Lib.hid (HB.out.trans (hb.mono HB.out.size))
              replace HT := Lib.hid (HT.out.below hb)
              replace HRG := Lib.hid (HRG.out.trans (hb.mono HRG.out.size))
              clear hb
              clear hh
              have hh := KS.out _ HRG.out
              refine hK.out _ _ (fun _ => hh) ?_
              clear hK K
              refine wpAnyE_ready (rs := [6]) (by kernel_rfl) (by simp) (AllReadyE.cons rfl (fun K hK => ?_) AllReadyE.nil)
              go_simp
              refine (add_walk _ _ (xs * xu) (xt * xu) _ (by first | exact Vp2.out | exact Vp2.out.below (below_new _ _) | exact (Vp2.out.below (below_new _ _)).below ((Below.refl _ _).drew)) (by first | exact Vq2.out | exact Vq2.out.below (below_new _ _) | exact (Vq2.out.below (below_new _ _)).below ((Below.refl _ _).drew)) ((Ls.out.mul Lu.out).l1 (by decide)) ((Lt.out.mul Lu.out).l1 (by decide))).mono ?_
              rintro e w27 ⟨vr2, rfl, hvr2, hb⟩
              obtain ⟨sr2, Ar2, lr2, cr2, rfl⟩ := hvr2.shape
              have Vr2 := Lib.hid hvr2
              clear hvr2
              replace RN := Lib.hid (RN.out.below hb RN.out.lt)
              replace Bs := Lib.hid (Bs.out.below hb)
              replace Bt := Lib.hid (Bt.out.below hb)
              replace Bu := Lib.hid (Bu.out.below hb)
              replace Bleft := Lib.hid (Bleft.out.below hb)
              replace Vp2 := Lib.hid (Vp2.out.below hb)
              replace Vq2 := Lib.hid (Vq2.out.below hb)
              replace HB := Lib.hid (HB.out.trans (hb.mono HB.out.size))
              replace HT := Lib.hid (HT.out.below hb)
              replace HRG := Lib.hid (HRG.out.trans (hb.mono HRG.out.size))
              clear hb
              clear hh
              have hh := KS.out _ HRG.out
              refine hK.out _ _ (fun _ => hh) ?_
              clear hK K
              have k1 := RN.out.at_ 0 rfl
              have k2 := RN.out.at_ 1 rfl
              have k3 := RN.out.free 0
              have k4 := RN.out.free 1
              refine wpAnyE_ready (rs := [8]) (by kernel_rfl) (by simp) (AllReadyE.cons rfl (fun K hK => ?_) AllReadyE.nil)
              go_simp
              refine hK.out _ _ (fun h => by simp at h) ?_
              clear hK K
              refine wpAnyE_done (by kernel_rfl) ?_ _
              clear hh KS k1 k2 k3 k4
              have hsz := HRG.out.size
              have hrn := HRN.out
              go_wp2_with fail
              go_meet
              exact ⟨_, _, _, _, _, rfl, Lib.hid (box_put RN.out Vr2.out), Lib.hid (Bs.out.far (by have := HRN.out; have := hqBs.out; omega) RN.out), Lib.hid (Bt.out.far (by have := HRN.out; have := hqBt.out; omega) RN.out), Lib.hid (Bu.out.far (by have := HRN.out; have := hqBu.out; omega) RN.out), Lib.hid (Bleft.out.far (by have := HRN.out; have := hqBleft.out; omega) RN.out), Lib.hid ((HB.out.setCell (p := ⟨_, 0, none⟩) (by first | omega | (simp; omega)) _).setCell (p := ⟨_, 1, none⟩) (by first | omega | (simp; omega)) _)⟩
          case rest =>
            obtain ⟨gright, sright, Aright, lright, cright, rfl, Bright, Bs, Bt, Bu, Bleft, HB⟩ := hcut
            replace HT := Lib.hid (HT0.out.below HB.out)
            go_upto_region 8 with (fail)
            go_cut [15] (fun v wx => ∃ gg sg Ag lg cg, v = .pointer (some ⟨gg, 0, none⟩) ∧ Hid (Box wx gg sg Ag lg cg (xs + xt + xu)) ∧ Hid (Box wx w5.heap.size ss As ls cs xs) ∧ Hid (Box wx w7.heap.size st At lt ct xt) ∧ Hid (Box wx w9.heap.size su Au lu cu xu) ∧ Hid (Box wx gleft sleft Aleft lleft cleft ((xs + xt) * xu)) ∧ Hid (Box wx gright sright Aright lright cright (xs * xu + xt * xu)) ∧ Hid (Below w.heap.size w wx))
            case first =>
              have hs0 := HB.out.size
              have hqBs : Hid (w5.heap.size < wc.heap.size) := Lib.hid Bs.out.1.lt
              have hqBt : Hid (w7.heap.size < wc.heap.size) := Lib.hid Bt.out.1.lt
              have hqBu : Hid (w9.heap.size < wc.heap.size) := Lib.hid Bu.out.1.lt
              have hqBleft : Hid (gleft < wc.heap.size) := Lib.hid Bleft.out.1.lt
              have hqBright : Hid (gright < wc.heap.size) := Lib.hid Bright.out.1.lt
              have g0Bs := Bs.out.c0
              have g1Bs := Bs.out.c1
              have glBs := Bs.out.1.lt
              have g0Bt := Bt.out.c0
              have g1Bt := Bt.out.c1
              have glBt := Bt.out.1.lt
              have g0Bu := Bu.out.c0
              have g1Bu := Bu.out.c1
              have glBu := Bu.out.1.lt
              have KS : Hid (∀ w', Below wc.heap.size wc w' → (w'.cell? ⟨w5.heap.size, 0, none⟩ = some (.bool ss) ∧ w'.cell? ⟨w5.heap.size, 1, none⟩ = some (.slice As ls cs) ∧ w'.cell? ⟨w7.heap.size, 0, none⟩ = some (.bool st) ∧ w'.cell? ⟨w7.heap.size, 1, none⟩ = some (.slice At lt ct) ∧ w'.cell? ⟨w9.heap.size, 0, none⟩ = some (.bool su) ∧ w'.cell? ⟨w9.heap.size, 1, none⟩ = some (.slice Au lu cu))) := Lib.hid (fun w' hb => ⟨((bbelow hb).1 w5.heap.size 0 glBs).trans g0Bs, ((bbelow hb).1 w5.heap.size 1 glBs).trans g1Bs, ((bbelow hb).1 w7.heap.size 0 glBt).trans g0Bt, ((bbelow hb).1 w7.heap.size 1 glBt).trans g1Bt, ((bbelow hb).1 w9.heap.size 0 glBu).trans g0Bu, ((bbelow hb).1 w9.heap.size 1 glBu).trans g1Bu⟩)
              clear g0Bs g1Bs glBs g0Bt g1Bt glBt g0Bu g1Bu glBu
              refine wp_region_late (fun w' => w'.cell? ⟨w5.heap.size, 0, none⟩ = some (.bool ss) ∧ w'.cell? ⟨w5.heap.size, 1, none⟩ = some (.slice As ls cs) ∧ w'.cell? ⟨w7.heap.size, 0, none⟩ = some (.bool st) ∧ w'.cell? ⟨w7.heap.size, 1, none⟩ = some (.slice At lt ct) ∧ w'.cell? ⟨w9.heap.size, 0, none⟩ = some (.bool su) ∧ w'.cell? ⟨w9.heap.size, 1, none⟩ = some (.slice Au lu cu)) (fun i => decide (6 ≤ i)) (by kernel_rfl) ?_
              obtain ⟨w35, hwd⟩ : ∃ w35, w35 = wc.drew := ⟨_, rfl⟩
              rw [← hwd]
              have hb : Below wc.heap.size wc w35 := by rw [hwd]; exact (Below.refl _ _).drew
              clear hwd
              replace Bs := Lib.hid (Bs.out.below hb)
              replace Bt := Lib.hid (Bt.out.below hb)
              replace Bu := Lib.hid (Bu.out.below hb)
              replace Bleft := Lib.hid (Bleft.out.below hb)
              replace Bright := Lib.hid (Bright.out.below hb)
              replace HB := Lib.hid (HB.out.trans (hb.mono HB.out.size))
              replace HT := Lib.hid (HT.out.below hb)
              have HRG := Lib.hid hb
              clear hb
              have hh := KS.out _ HRG.out
              refine wpAnyE_taked (i := 0) (v := ?_) (some 65) rfl (by rfl) (by kernel_rfl) (by kernel_rfl) (by kernel_rfl) (by kernel_rfl) (fun _ _ _ h => h) (Or.inl ⟨by rfl, ?_⟩) hh ?_
              rotate_left
              · (intro w' hSw; (try dsimp only at hSw); go_simp; try with_reducible rfl)
              simp only [Act.put, List.setIfInBounds_toArray, List.set_cons_zero, List.set_cons_succ]
              refine wpAnyE_taked (i := 1) (v := ?_) (some 66) rfl (by rfl) (by kernel_rfl) (by kernel_rfl) (by kernel_rfl) (by kernel_rfl) (fun _ _ _ h => h) (Or.inl ⟨by rfl, ?_⟩) hh ?_
              rotate_left
              · (intro w' hSw; (try dsimp only at hSw); go_simp; try with_reducible rfl)
              simp only [Act.put, List.setIfInBounds_toArray, List.set_cons_zero, List.set_cons_succ]
              refine wpAnyE_taked (i := 3) (v := ?_) (some 68) rfl (by rfl) (by kernel_rfl) (by kernel_rfl) (by kernel_rfl) (by kernel_rfl) (fun _ _ _ h => h) (Or.inl ⟨by rfl, ?_⟩) hh ?_
              rotate_left
              · (intro w' hSw; (try dsimp only at hSw); go_simp; try with_reducible rfl)
              simp only [Act.put, List.setIfInBounds_toArray, List.set_cons_zero, List.set_cons_succ]
              refine wpAnyE_ready (rs := [2, 5]) (by kernel_rfl) (by simp) (AllReadyE.cons rfl (fun K hK => ?_) (AllReadyE.cons rfl (fun K hK => ?_) AllReadyE.nil))
              · go_simp
                refine (add_walk _ _ xs xt _ (by first | exact Bs.out.2 | exact Bs.out.2.below (below_new _ _) | exact (Bs.out.2.below (below_new _ _)).below ((Below.refl _ _).drew)) (by first | exact Bt.out.2 | exact Bt.out.2.below (below_new _ _) | exact (Bt.out.2.below (below_new _ _)).below ((Below.refl _ _).drew)) ((Ls.out).l1 (by decide)) ((Lt.out).l1 (by decide))).mono ?_
                rintro e w36 ⟨vp3, rfl, hvp3, hb⟩
                obtain ⟨sp3, Ap3, lp3, cp3, rfl⟩ := hvp3.shape
                have Vp3 := Lib.hid hvp3
                clear hvp3
                replace Bs := Lib.hid (Bs.out.below hb)
                replace Bt := Lib.hid (Bt.out.below hb)
                replace Bu := Lib.hid (Bu.out.below hb)
                replace Bleft := Lib.hid (Bleft.out.below hb)
                replace Bright := Lib.hid (Bright.out.below hb)
                replace HB := Lib.hid (HB.out.trans (hb.mono HB.out.size))
                replace HT := Lib.hid (HT.out.below hb)
                replace HRG := Lib.hid (HRG.out.trans (hb.mono HRG.out.size))
                clear hb
                clear hh
                have hh := KS.out _ HRG.out
                refine hK.out _ _ (fun _ => hh) ?_
                clear hK K
                refine wpAnyE_ready (rs := [4, 5]) (by kernel_rfl) (by simp) (AllReadyE.cons rfl (fun K hK => ?_) (AllReadyE.cons rfl (fun K hK => ?_) AllReadyE.nil))
                · go_simp
                  refine (add_walk _ _ (xs + xt) xu _ (by first | exact Vp3.out | exact Vp3.out.below (below_new _ _) | exact (Vp3.out.below (below_new _ _)).below ((Below.refl _ _).drew)) (by first | exact Bu.out.2 | exact Bu.out.2.below (below_new _ _) | exact (Bu.out.2.below (below_new _ _)).below ((Below.refl _ _).drew)) ((Ls.out.add Lt.out).l1 (by decide)) ((Lu.out).l1 (by decide))).mono ?_
                  rintro e w37 ⟨vq3, rfl, hvq3, hb⟩
                  obtain ⟨sq3, Aq3, lq3, cq3, rfl⟩ := hvq3.shape
                  have Vq3 := Lib.hid hvq3
                  clear hvq3
                  replace Bs := Lib.hid (Bs.out.below hb)
                  replace Bt := Lib.hid (Bt.out.below hb)
                  replace Bu := Lib.hid (Bu.out.below hb)
                  replace Bleft := Lib.hid (Bleft.out.below hb)
                  replace Bright := Lib.hid (Bright.out.below hb)
                  replace Vp3 := Lib.hid (Vp3.out.below hb)
                  replace HB := Lib.hid (HB.out.trans (hb.mono HB.out.size))
                  replace HT := Lib.hid (HT.out.below hb)
                  replace HRG := Lib.hid (HRG.out.trans (hb.mono HRG.out.size))
                  clear hb
                  clear hh
                  have hh := KS.out _ HRG.out
                  refine hK.out _ _ (fun _ => hh) ?_
                  clear hK K
                  refine wpAnyE_ready (rs := [5]) (by kernel_rfl) (by simp) (AllReadyE.cons rfl (fun K hK => ?_) AllReadyE.nil)
                  go_simp
                  obtain ⟨w38, hwd⟩ : ∃ w38, w38 = w37.alloc (.cells #[.bool false, .slice none 0 0] 25) := ⟨_, rfl⟩
                  have hb : Below w37.heap.size w37 w38 := by rw [hwd]; exact below_new _ _
                  have RN : Hid (Row w38 w37.heap.size 25 [.bool false, .slice none 0 0]) := Lib.hid (by rw [hwd]; exact heap_new _ _)
                  have HRN : Hid (wc.heap.size ≤ w37.heap.size) := Lib.hid HRG.out.size
                  rw [← hwd]
                  clear hwd
                  replace Bs := Lib.hid (Bs.out.below hb)
                  replace Bt := Lib.hid (Bt.out.below hb)
                  replace Bu := Lib.hid (Bu.out.below hb)
                  replace Bleft := Lib.hid (Bleft.out.below hb)
                  replace Bright := Lib.hid (Bright.out.below hb)
                  replace Vp3 := Lib.hid (Vp3.out.below hb)
                  replace Vq3 := Lib.hid (Vq3.out.below hb)
                  replace HB := Lib.hid (HB.out.trans (hb.mono HB.out.size))
                  replace HT := Lib.hid (HT.out.below hb)
                  replace HRG := Lib.hid (HRG.out.trans (hb.mono HRG.out.size))
                  clear hb
                  clear hh
                  have hh := KS.out _ HRG.out
                  refine hK.out _ _ (fun _ => hh) ?_
                  clear hK K
                  have k1 := RN.out.at_ 0 rfl
                  have k2 := RN.out.at_ 1 rfl
                  have k3 := RN.out.free 0
                  have k4 := RN.out.free 1
                  refine wpAnyE_ready (rs := [6]) (by kernel_rfl) (by simp) (AllReadyE.cons rfl (fun K hK => ?_) AllReadyE.nil)
                  go_simp
                  refine hK.out _ _ (fun h => by simp at h) ?_
                  clear hK K
                  refine wpAnyE_done (by kernel_rfl) ?_ _
                  clear hh KS k1 k2 k3 k4
                  have hsz := HRG.out.size
                  have hrn := HRN.out
                  go_wp2_with fail
                  go_meet
                  exact ⟨_, _, _, _, _, rfl, Lib.hid (box_put RN.out Vq3.out), Lib.hid (Bs.out.far (by have := HRN.out; have := hqBs.out; omega) RN.out), Lib.hid (Bt.out.far (by have := HRN.out; have := hqBt.out; omega) RN.out), Lib.hid (Bu.out.far (by have := HRN.out; have := hqBu.out; omega) RN.out), Lib.hid (Bleft.out.far (by have := HRN.out; have := hqBleft.out; omega) RN.out), Lib.hid (Bright.out.far (by have := HRN.out; have := hqBright.out; omega) RN.out), Lib.hid ((HB.out.setCell (p := ⟨_, 0, none⟩) (by first | omega | (simp; omega)) _).setCell (p := ⟨_, 1, none⟩) (by first | omega | (simp; omega)) _)⟩
                · go_simp
                  obtain ⟨w37, hwd⟩ : ∃ w37, w37 = w36.alloc (.cells #[.bool false, .slice none 0 0] 25) := ⟨_, rfl⟩
                  have hb : Below w36.heap.size w36 w37 := by rw [hwd]; exact below_new _ _
                  have RN : Hid (Row w37 w36.heap.size 25 [.bool false, .slice none 0 0]) := Lib.hid (by rw [hwd]; exact heap_new _ _)
                  have HRN : Hid (wc.heap.size ≤ w36.heap.size) := Lib.hid HRG.out.size
                  rw [← hwd]
                  clear hwd
                  replace Bs := Lib.hid (Bs.out.below hb)
                  replace Bt := Lib.hid (Bt.out.below hb)
                  replace Bu := Lib.hid (Bu.out.below hb)
                  replace Bleft := Lib.hid (Bleft.out.below hb)
                  replace Bright := Lib.hid (Bright.out.below hb)
                  replace Vp3 := Lib.hid (Vp3.out.below hb)
                  replace HB := Lib.hid (HB.out.trans (hb.mono HB.out.size))
                  replace HT := Lib.hid (HT.out.below hb)
                  replace HRG := Lib.hid (HRG.out.trans (hb.mono HRG.out.size))
                  clear hb
                  clear hh
                  have hh := KS.out _ HRG.out
                  refine hK.out _ _ (fun _ => hh) ?_
                  clear hK K
                  refine wpAnyE_ready (rs := [4]) (by kernel_rfl) (by simp) (AllReadyE.cons rfl (fun K hK => ?_) AllReadyE.nil)
                  go_simp
                  refine (add_walk _ _ (xs + xt) xu _ (by first | exact Vp3.out | exact Vp3.out.below (below_new _ _) | exact (Vp3.out.below (below_new _ _)).below ((Below.refl _ _).drew)) (by first | exact Bu.out.2 | exact Bu.out.2.below (below_new _ _) | exact (Bu.out.2.below (below_new _ _)).below ((Below.refl _ _).drew)) ((Ls.out.add Lt.out).l1 (by decide)) ((Lu.out).l1 (by decide))).mono ?_
                  rintro e w38 ⟨vq3, rfl, hvq3, hb⟩
                  obtain ⟨sq3, Aq3, lq3, cq3, rfl⟩ := hvq3.shape
                  have Vq3 := Lib.hid hvq3
                  clear hvq3
                  replace RN := Lib.hid (RN.out.below hb RN.out.lt)
                  replace Bs := Lib.hid (Bs.out.below hb)
                  replace Bt := Lib.hid (Bt.out.below hb)
                  replace Bu := Lib.hid (Bu.out.below hb)
                  replace Bleft := Lib.hid (Bleft.out.below hb)
                  replace Bright := Lib.hid (Bright.out.below hb)
                  replace Vp3 := Lib.hid (Vp3.out.below hb)
                  replace HB := Lib.hid (HB.out.trans (hb.mono HB.out.size))
                  replace HT := Lib.hid (HT.out.below hb)
                  replace HRG := Lib.hid (HRG.out.trans (hb.mono HRG.out.size))
                  clear hb
                  clear hh
                  have hh := KS.out _ HRG.out
                  refine hK.out _ _ (fun _ => hh) ?_
                  clear hK K
                  have k1 := RN.out.at_ 0 rfl
                  have k2 := RN.out.at_ 1 rfl
                  have k3 := RN.out.free 0
                  have k4 := RN.out.free 1
                  refine wpAnyE_ready (rs := [6]) (by kernel_rfl) (by simp) (AllReadyE.cons rfl (fun K hK => ?_) AllReadyE.nil)
                  go_simp
                  refine hK.out _ _ (fun h => by simp at h) ?_
                  clear hK K
                  refine wpAnyE_done (by kernel_rfl) ?_ _
                  clear hh KS k1 k2 k3 k4
                  have hsz := HRG.out.size
                  have hrn := HRN.out
                  go_wp2_with fail
                  go_meet
                  exact ⟨_, _, _, _, _, rfl, Lib.hid (box_put RN.out Vq3.out), Lib.hid (Bs.out.far (by have := HRN.out; have := hqBs.out; omega) RN.out), Lib.hid (Bt.out.far (by have := HRN.out; have := hqBt.out; omega) RN.out), Lib.hid (Bu.out.far (by have := HRN.out; have := hqBu.out; omega) RN.out), Lib.hid (Bleft.out.far (by have := HRN.out; have := hqBleft.out; omega) RN.out), Lib.hid (Bright.out.far (by have := HRN.out; have := hqBright.out; omega) RN.out), Lib.hid ((HB.out.setCell (p := ⟨_, 0, none⟩) (by first | omega | (simp; omega)) _).setCell (p := ⟨_, 1, none⟩) (by first | omega | (simp; omega)) _)⟩
              · go_simp
                obtain ⟨w36, hwd⟩ : ∃ w36, w36 = w35.alloc (.cells #[.bool false, .slice none 0 0] 25) := ⟨_, rfl⟩
                have hb : Below w35.heap.size w35 w36 := by rw [hwd]; exact below_new _ _
                have RN : Hid (Row w36 w35.heap.size 25 [.bool false, .slice none 0 0]) := Lib.hid (by rw [hwd]; exact heap_new _ _)
                have HRN : Hid (wc.heap.size ≤ w35.heap.size) := Lib.hid HRG.out.size
                rw [← hwd]
                clear hwd
                replace Bs := Lib.hid (Bs.out.below hb)
                replace Bt := Lib.hid (Bt.out.below hb)
                replace Bu := Lib.hid (Bu.out.below hb)
                replace Bleft := Lib.hid (Bleft.out.below hb)
                replace Bright := Lib.hid (Bright.out.below hb)
                replace HB := Lib.hid (HB.out.trans (hb.mono HB.out.size))
                replace HT := Lib.hid (HT.out.below hb)
                replace HRG := Lib.hid (HRG.out.trans (hb.mono HRG.out.size))
                clear hb
                clear hh
                have hh := KS.out _ HRG.out
                refine hK.out _ _ (fun _ => hh) ?_
                clear hK K
                refine wpAnyE_ready (rs := [2]) (by kernel_rfl) (by simp) (AllReadyE.cons rfl (fun K hK => ?_) AllReadyE.nil)
                go_simp
                refine (add_walk _ _ xs xt _ (by first | exact Bs.out.2 | exact Bs.out.2.below (below_new _ _) | exact (Bs.out.2.below (below_new _ _)).below ((Below.refl _ _).drew)) (by first | exact Bt.out.2 | exact Bt.out.2.below (below_new _ _) | exact (Bt.out.2.below (below_new _ _)).below ((Below.refl _ _).drew)) ((Ls.out).l1 (by decide)) ((Lt.out).l1 (by decide))).mono ?_
                rintro e w37 ⟨vp3, rfl, hvp3, hb⟩
                obtain ⟨sp3, Ap3, lp3, cp3, rfl⟩ := hvp3.shape
                have Vp3 := Lib.hid hvp3
                clear hvp3
                replace RN := Lib.hid (RN.out.below hb RN.out.lt)
                replace Bs := Lib.hid (Bs.out.below hb)
                replace Bt := Lib.hid (Bt.out.below hb)
                replace Bu := Lib.hid (Bu.out.below hb)
                replace Bleft := Lib.hid (Bleft.out.below hb)
                replace Bright := Lib.hid (Bright.out.below hb)
                replace HB := Lib.hid (HB.out.trans (hb.mono HB.out.size))
                replace HT := Lib.hid (HT.out.below hb)
                replace HRG := Lib.hid (HRG.out.trans (hb.mono HRG.out.size))
                clear hb
                clear hh
                have hh := KS.out _ HRG.out
                refine hK.out _ _ (fun _ => hh) ?_
                clear hK K
                refine wpAnyE_ready (rs := [4]) (by kernel_rfl) (by simp) (AllReadyE.cons rfl (fun K hK => ?_) AllReadyE.nil)
                go_simp
                refine (add_walk _ _ (xs + xt) xu _ (by first | exact Vp3.out | exact Vp3.out.below (below_new _ _) | exact (Vp3.out.below (below_new _ _)).below ((Below.refl _ _).drew)) (by first | exact Bu.out.2 | exact Bu.out.2.below (below_new _ _) | exact (Bu.out.2.below (below_new _ _)).below ((Below.refl _ _).drew)) ((Ls.out.add Lt.out).l1 (by decide)) ((Lu.out).l1 (by decide))).mono ?_
                rintro e w38 ⟨vq3, rfl, hvq3, hb⟩
                obtain ⟨sq3, Aq3, lq3, cq3, rfl⟩ := hvq3.shape
                have Vq3 := Lib.hid hvq3
                clear hvq3
                replace RN := Lib.hid (RN.out.below hb RN.out.lt)
                replace Bs := Lib.hid (Bs.out.below hb)
                replace Bt := Lib.hid (Bt.out.below hb)
                replace Bu := Lib.hid (Bu.out.below hb)
                replace Bleft := Lib.hid (Bleft.out.below hb)
                replace Bright := Lib.hid (Bright.out.below hb)
                replace Vp3 := Lib.hid (Vp3.out.below hb)
                replace HB := Lib.hid (HB.out.trans (hb.mono HB.out.size))
                replace HT := Lib.hid (HT.out.below hb)
                replace HRG := Lib.hid (HRG.out.trans (hb.mono HRG.out.size))
                clear hb
                clear hh
                have hh := KS.out _ HRG.out
                refine hK.out _ _ (fun _ => hh) ?_
                clear hK K
                have k1 := RN.out.at_ 0 rfl
                have k2 := RN.out.at_ 1 rfl
                have k3 := RN.out.free 0
                have k4 := RN.out.free 1
                refine wpAnyE_ready (rs := [6]) (by kernel_rfl) (by simp) (AllReadyE.cons rfl (fun K hK => ?_) AllReadyE.nil)
                go_simp
                refine hK.out _ _ (fun h => by simp at h) ?_
                clear hK K
                refine wpAnyE_done (by kernel_rfl) ?_ _
                clear hh KS k1 k2 k3 k4
                have hsz := HRG.out.size
                have hrn := HRN.out
                go_wp2_with fail
                go_meet
                exact ⟨_, _, _, _, _, rfl, Lib.hid (box_put RN.out Vq3.out), Lib.hid (Bs.out.far (by have := HRN.out; have := hqBs.out; omega) RN.out), Lib.hid (Bt.out.far (by have := HRN.out; have := hqBt.out; omega) RN.out), Lib.hid (Bu.out.far (by have := HRN.out; have := hqBu.out; omega) RN.out), Lib.hid (Bleft.out.far (by have := HRN.out; have := hqBleft.out; omega) RN.out), Lib.hid (Bright.out.far (by have := HRN.out; have := hqBright.out; omega) RN.out), Lib.hid ((HB.out.setCell (p := ⟨_, 0, none⟩) (by first | omega | (simp; omega)) _).setCell (p := ⟨_, 1, none⟩) (by first | omega | (simp; omega)) _)⟩
            case rest =>
              obtain ⟨gx, sx, Ax, lx, cx, rfl, Bx, Bs, Bt, Bu, Bleft, Bright, HB⟩ := hcut
              replace HT := Lib.hid (HT0.out.below HB.out)
              go_upto_region 9 with (fail)
              go_cut [16] (fun v wx => ∃ gg sg Ag lg cg, v = .pointer (some ⟨gg, 0, none⟩) ∧ Hid (Box wx gg sg Ag lg cg (xs * xt * xu)) ∧ Hid (Box wx w5.heap.size ss As ls cs xs) ∧ Hid (Box wx w7.heap.size st At lt ct xt) ∧ Hid (Box wx w9.heap.size su Au lu cu xu) ∧ Hid (Box wx gleft sleft Aleft lleft cleft ((xs + xt) * xu)) ∧ Hid (Box wx gright sright Aright lright cright (xs * xu + xt * xu)) ∧ Hid (Box wx gx sx Ax lx cx (xs + xt + xu)) ∧ Hid (Below w.heap.size w wx))
              case first =>
                have hs0 := HB.out.size
                have hqBs : Hid (w5.heap.size < wc.heap.size) := Lib.hid Bs.out.1.lt
                have hqBt : Hid (w7.heap.size < wc.heap.size) := Lib.hid Bt.out.1.lt
                have hqBu : Hid (w9.heap.size < wc.heap.size) := Lib.hid Bu.out.1.lt
                have hqBleft : Hid (gleft < wc.heap.size) := Lib.hid Bleft.out.1.lt
                have hqBright : Hid (gright < wc.heap.size) := Lib.hid Bright.out.1.lt
                have hqBx : Hid (gx < wc.heap.size) := Lib.hid Bx.out.1.lt
                have g0Bs := Bs.out.c0
                have g1Bs := Bs.out.c1
                have glBs := Bs.out.1.lt
                have g0Bt := Bt.out.c0
                have g1Bt := Bt.out.c1
                have glBt := Bt.out.1.lt
                have g0Bu := Bu.out.c0
                have g1Bu := Bu.out.c1
                have glBu := Bu.out.1.lt
                have KS : Hid (∀ w', Below wc.heap.size wc w' → (w'.cell? ⟨w5.heap.size, 0, none⟩ = some (.bool ss) ∧ w'.cell? ⟨w5.heap.size, 1, none⟩ = some (.slice As ls cs) ∧ w'.cell? ⟨w7.heap.size, 0, none⟩ = some (.bool st) ∧ w'.cell? ⟨w7.heap.size, 1, none⟩ = some (.slice At lt ct) ∧ w'.cell? ⟨w9.heap.size, 0, none⟩ = some (.bool su) ∧ w'.cell? ⟨w9.heap.size, 1, none⟩ = some (.slice Au lu cu))) := Lib.hid (fun w' hb => ⟨((bbelow hb).1 w5.heap.size 0 glBs).trans g0Bs, ((bbelow hb).1 w5.heap.size 1 glBs).trans g1Bs, ((bbelow hb).1 w7.heap.size 0 glBt).trans g0Bt, ((bbelow hb).1 w7.heap.size 1 glBt).trans g1Bt, ((bbelow hb).1 w9.heap.size 0 glBu).trans g0Bu, ((bbelow hb).1 w9.heap.size 1 glBu).trans g1Bu⟩)
                clear g0Bs g1Bs glBs g0Bt g1Bt glBt g0Bu g1Bu glBu
                refine wp_region_late (fun w' => w'.cell? ⟨w5.heap.size, 0, none⟩ = some (.bool ss) ∧ w'.cell? ⟨w5.heap.size, 1, none⟩ = some (.slice As ls cs) ∧ w'.cell? ⟨w7.heap.size, 0, none⟩ = some (.bool st) ∧ w'.cell? ⟨w7.heap.size, 1, none⟩ = some (.slice At lt ct) ∧ w'.cell? ⟨w9.heap.size, 0, none⟩ = some (.bool su) ∧ w'.cell? ⟨w9.heap.size, 1, none⟩ = some (.slice Au lu cu)) (fun i => decide (6 ≤ i)) (by kernel_rfl) ?_
                obtain ⟨w47, hwd⟩ : ∃ w47, w47 = wc.drew := ⟨_, rfl⟩
                rw [← hwd]
                have hb : Below wc.heap.size wc w47 := by rw [hwd]; exact (Below.refl _ _).drew
                clear hwd
                replace Bs := Lib.hid (Bs.out.below hb)
                replace Bt := Lib.hid (Bt.out.below hb)
                replace Bu := Lib.hid (Bu.out.below hb)
                replace Bleft := Lib.hid (Bleft.out.below hb)
                replace Bright := Lib.hid (Bright.out.below hb)
                replace Bx := Lib.hid (Bx.out.below hb)
                replace HB := Lib.hid (HB.out.trans (hb.mono HB.out.size))
                replace HT := Lib.hid (HT.out.below hb)
                have HRG := Lib.hid hb
                clear hb
                have hh := KS.out _ HRG.out
                refine wpAnyE_taked (i := 0) (v := ?_) (some 70) rfl (by rfl) (by kernel_rfl) (by kernel_rfl) (by kernel_rfl) (by kernel_rfl) (fun _ _ _ h => h) (Or.inl ⟨by rfl, ?_⟩) hh ?_
                rotate_left
                · (intro w' hSw; (try dsimp only at hSw); go_simp; try with_reducible rfl)
                simp only [Act.put, List.setIfInBounds_toArray, List.set_cons_zero, List.set_cons_succ]
                refine wpAnyE_taked (i := 1) (v := ?_) (some 71) rfl (by rfl) (by kernel_rfl) (by kernel_rfl) (by kernel_rfl) (by kernel_rfl) (fun _ _ _ h => h) (Or.inl ⟨by rfl, ?_⟩) hh ?_
                rotate_left
                · (intro w' hSw; (try dsimp only at hSw); go_simp; try with_reducible rfl)
                simp only [Act.put, List.setIfInBounds_toArray, List.set_cons_zero, List.set_cons_succ]
                refine wpAnyE_taked (i := 3) (v := ?_) (some 73) rfl (by rfl) (by kernel_rfl) (by kernel_rfl) (by kernel_rfl) (by kernel_rfl) (fun _ _ _ h => h) (Or.inl ⟨by rfl, ?_⟩) hh ?_
                rotate_left
                · (intro w' hSw; (try dsimp only at hSw); go_simp; try with_reducible rfl)
                simp only [Act.put, List.setIfInBounds_toArray, List.set_cons_zero, List.set_cons_succ]
                refine wpAnyE_ready (rs := [2, 5]) (by kernel_rfl) (by simp) (AllReadyE.cons rfl (fun K hK => ?_) (AllReadyE.cons rfl (fun K hK => ?_) AllReadyE.nil))
                · go_simp
                  refine (mul_walk _ _ xs xt _ (by first | exact Bs.out.2 | exact Bs.out.2.below (below_new _ _) | exact (Bs.out.2.below (below_new _ _)).below ((Below.refl _ _).drew)) (by first | exact Bt.out.2 | exact Bt.out.2.below (below_new _ _) | exact (Bt.out.2.below (below_new _ _)).below ((Below.refl _ _).drew)) ((Ls.out).l1 (by decide)) ((Lt.out).l1 (by decide))).mono ?_
                  rintro e w48 ⟨vp4, rfl, hvp4, hb⟩
                  obtain ⟨sp4, Ap4, lp4, cp4, rfl⟩ := hvp4.shape
                  have Vp4 := Lib.hid hvp4
                  clear hvp4
                  replace Bs := Lib.hid (Bs.out.below hb)
                  replace Bt := Lib.hid (Bt.out.below hb)
                  replace Bu := Lib.hid (Bu.out.below hb)
                  replace Bleft := Lib.hid (Bleft.out.below hb)
                  replace Bright := Lib.hid (Bright.out.below hb)
                  replace Bx := Lib.hid (Bx.out.below hb)
                  replace HB := Lib.hid (HB.out.trans (hb.mono HB.out.size))
                  replace HT := Lib.hid (HT.out.below hb)
                  replace HRG := Lib.hid (HRG.out.trans (hb.mono HRG.out.size))
                  clear hb
                  clear hh
                  have hh := KS.out _ HRG.out
                  refine hK.out _ _ (fun _ => hh) ?_
                  clear hK K
                  refine wpAnyE_ready (rs := [4, 5]) (by kernel_rfl) (by simp) (AllReadyE.cons rfl (fun K hK => ?_) (AllReadyE.cons rfl (fun K hK => ?_) AllReadyE.nil))
                  · go_simp
                    refine (mul_walk _ _ (xs * xt) xu _ (by first | exact Vp4.out | exact Vp4.out.below (below_new _ _) | exact (Vp4.out.below (below_new _ _)).below ((Below.refl _ _).drew)) (by first | exact Bu.out.2 | exact Bu.out.2.below (below_new _ _) | exact (Bu.out.2.below (below_new _ _)).below ((Below.refl _ _).drew)) ((Ls.out.mul Lt.out).l1 (by decide)) ((Lu.out).l1 (by decide))).mono ?_
                    rintro e w49 ⟨vq4, rfl, hvq4, hb⟩
                    obtain ⟨sq4, Aq4, lq4, cq4, rfl⟩ := hvq4.shape
                    have Vq4 := Lib.hid hvq4
                    clear hvq4
                    replace Bs := Lib.hid (Bs.out.below hb)
                    replace Bt := Lib.hid (Bt.out.below hb)
                    replace Bu := Lib.hid (Bu.out.below hb)
                    replace Bleft := Lib.hid (Bleft.out.below hb)
                    replace Bright := Lib.hid (Bright.out.below hb)
                    replace Bx := Lib.hid (Bx.out.below hb)
                    replace Vp4 := Lib.hid (Vp4.out.below hb)
                    replace HB := Lib.hid (HB.out.trans (hb.mono HB.out.size))
                    replace HT := Lib.hid (HT.out.below hb)
                    replace HRG := Lib.hid (HRG.out.trans (hb.mono HRG.out.size))
                    clear hb
                    clear hh
                    have hh := KS.out _ HRG.out
                    refine hK.out _ _ (fun _ => hh) ?_
                    clear hK K
                    refine wpAnyE_ready (rs := [5]) (by kernel_rfl) (by simp) (AllReadyE.cons rfl (fun K hK => ?_) AllReadyE.nil)
                    go_simp
                    obtain ⟨w50, hwd⟩ : ∃ w50, w50 = w49.alloc (.cells #[.bool false, .slice none 0 0] 25) := ⟨_, rfl⟩
                    have hb : Below w49.heap.size w49 w50 := by rw [hwd]; exact below_new _ _
                    have RN : Hid (Row w50 w49.heap.size 25 [.bool false, .slice none 0 0]) := Lib.hid (by rw [hwd]; exact heap_new _ _)
                    have HRN : Hid (wc.heap.size ≤ w49.heap.size) := Lib.hid HRG.out.size
                    rw [← hwd]
                    clear hwd
                    replace Bs := Lib.hid (Bs.out.below hb)
                    replace Bt := Lib.hid (Bt.out.below hb)
                    replace Bu := Lib.hid (Bu.out.below hb)
                    replace Bleft := Lib.hid (Bleft.out.below hb)
                    replace Bright := Lib.hid (Bright.out.below hb)
                    replace Bx := Lib.hid (Bx.out.below hb)
                    replace Vp4 := Lib.hid (Vp4.out.below hb)
                    replace Vq4 := Lib.hid (Vq4.out.below hb)
                    replace HB := Lib.hid (HB.out.trans (hb.mono HB.out.size))
                    replace HT := Lib.hid (HT.out.below hb)
                    replace HRG := Lib.hid (HRG.out.trans (hb.mono HRG.out.size))
                    clear hb
                    clear hh
                    have hh := KS.out _ HRG.out
                    refine hK.out _ _ (fun _ => hh) ?_
                    clear hK K
                    have k1 := RN.out.at_ 0 rfl
                    have k2 := RN.out.at_ 1 rfl
                    have k3 := RN.out.free 0
                    have k4 := RN.out.free 1
                    refine wpAnyE_ready (rs := [6]) (by kernel_rfl) (by simp) (AllReadyE.cons rfl (fun K hK => ?_) AllReadyE.nil)
                    go_simp
                    refine hK.out _ _ (fun h => by simp at h) ?_
                    clear hK K
                    refine wpAnyE_done (by kernel_rfl) ?_ _
                    clear hh KS k1 k2 k3 k4
                    have hsz := HRG.out.size
                    have hrn := HRN.out
                    go_wp2_with fail
                    go_meet
                    exact ⟨_, _, _, _, _, rfl, Lib.hid (box_put RN.out Vq4.out), Lib.hid (Bs.out.far (by have := HRN.out; have := hqBs.out; omega) RN.out), Lib.hid (Bt.out.far (by have := HRN.out; have := hqBt.out; omega) RN.out), Lib.hid (Bu.out.far (by have := HRN.out; have := hqBu.out; omega) RN.out), Lib.hid (Bleft.out.far (by have := HRN.out; have := hqBleft.out; omega) RN.out), Lib.hid (Bright.out.far (by have := HRN.out; have := hqBright.out; omega) RN.out), Lib.hid (Bx.out.far (by have := HRN.out; have := hqBx.out; omega) RN.out), Lib.hid ((HB.out.setCell (p := ⟨_, 0, none⟩) (by first | omega | (simp; omega)) _).setCell (p := ⟨_, 1, none⟩) (by first | omega | (simp; omega)) _)⟩
                  · go_simp
                    obtain ⟨w49, hwd⟩ : ∃ w49, w49 = w48.alloc (.cells #[.bool false, .slice none 0 0] 25) := ⟨_, rfl⟩
                    have hb : Below w48.heap.size w48 w49 := by rw [hwd]; exact below_new _ _
                    have RN : Hid (Row w49 w48.heap.size 25 [.bool false, .slice none 0 0]) := Lib.hid (by rw [hwd]; exact heap_new _ _)
                    have HRN : Hid (wc.heap.size ≤ w48.heap.size) := Lib.hid HRG.out.size
                    rw [← hwd]
                    clear hwd
                    replace Bs := Lib.hid (Bs.out.below hb)
                    replace Bt := Lib.hid (Bt.out.below hb)
                    replace Bu := Lib.hid (Bu.out.below hb)
                    replace Bleft := Lib.hid (Bleft.out.below hb)
                    replace Bright := Lib.hid (Bright.out.below hb)
                    replace Bx := Lib.hid (Bx.out.below hb)
                    replace Vp4 := Lib.hid (Vp4.out.below hb)
                    replace HB := Lib.hid (HB.out.trans (hb.mono HB.out.size))
                    replace HT := Lib.hid (HT.out.below hb)
                    replace HRG := Lib.hid (HRG.out.trans (hb.mono HRG.out.size))
                    clear hb
                    clear hh
                    have hh := KS.out _ HRG.out
                    refine hK.out _ _ (fun _ => hh) ?_
                    clear hK K
                    refine wpAnyE_ready (rs := [4]) (by kernel_rfl) (by simp) (AllReadyE.cons rfl (fun K hK => ?_) AllReadyE.nil)
                    go_simp
                    refine (mul_walk _ _ (xs * xt) xu _ (by first | exact Vp4.out | exact Vp4.out.below (below_new _ _) | exact (Vp4.out.below (below_new _ _)).below ((Below.refl _ _).drew)) (by first | exact Bu.out.2 | exact Bu.out.2.below (below_new _ _) | exact (Bu.out.2.below (below_new _ _)).below ((Below.refl _ _).drew)) ((Ls.out.mul Lt.out).l1 (by decide)) ((Lu.out).l1 (by decide))).mono ?_
                    rintro e w50 ⟨vq4, rfl, hvq4, hb⟩
                    obtain ⟨sq4, Aq4, lq4, cq4, rfl⟩ := hvq4.shape
                    have Vq4 := Lib.hid hvq4
                    clear hvq4
                    replace RN := Lib.hid (RN.out.below hb RN.out.lt)
                    replace Bs := Lib.hid (Bs.out.below hb)
                    replace Bt := Lib.hid (Bt.out.below hb)
                    replace Bu := Lib.hid (Bu.out.below hb)
                    replace Bleft := Lib.hid (Bleft.out.below hb)
                    replace Bright := Lib.hid (Bright.out.below hb)
                    replace Bx := Lib.hid (Bx.out.below hb)
                    replace Vp4 := Lib.hid (Vp4.out.below hb)
                    replace HB := Lib.hid (HB.out.trans (hb.mono HB.out.size))
                    replace HT := Lib.hid (HT.out.below hb)
                    replace HRG := Lib.hid (HRG.out.trans (hb.mono HRG.out.size))
                    clear hb
                    clear hh
                    have hh := KS.out _ HRG.out
                    refine hK.out _ _ (fun _ => hh) ?_
                    clear hK K
                    have k1 := RN.out.at_ 0 rfl
                    have k2 := RN.out.at_ 1 rfl
                    have k3 := RN.out.free 0
                    have k4 := RN.out.free 1
                    refine wpAnyE_ready (rs := [6]) (by kernel_rfl) (by simp) (AllReadyE.cons rfl (fun K hK => ?_) AllReadyE.nil)
                    go_simp
                    refine hK.out _ _ (fun h => by simp at h) ?_
                    clear hK K
                    refine wpAnyE_done (by kernel_rfl) ?_ _
                    clear hh KS k1 k2 k3 k4
                    have hsz := HRG.out.size
                    have hrn := HRN.out
                    go_wp2_with fail
                    go_meet
                    exact ⟨_, _, _, _, _, rfl, Lib.hid (box_put RN.out Vq4.out), Lib.hid (Bs.out.far (by have := HRN.out; have := hqBs.out; omega) RN.out), Lib.hid (Bt.out.far (by have := HRN.out; have := hqBt.out; omega) RN.out), Lib.hid (Bu.out.far (by have := HRN.out; have := hqBu.out; omega) RN.out), Lib.hid (Bleft.out.far (by have := HRN.out; have := hqBleft.out; omega) RN.out), Lib.hid (Bright.out.far (by have := HRN.out; have := hqBright.out; omega) RN.out), Lib.hid (Bx.out.far (by have := HRN.out; have := hqBx.out; omega) RN.out), Lib.hid ((HB.out.setCell (p := ⟨_, 0, none⟩) (by first | omega | (simp; omega)) _).setCell (p := ⟨_, 1, none⟩) (by first | omega | (simp; omega)) _)⟩
                · go_simp
                  obtain ⟨w48, hwd⟩ : ∃ w48, w48 = w47.alloc (.cells #[.bool false, .slice none 0 0] 25) := ⟨_, rfl⟩
                  have hb : Below w47.heap.size w47 w48 := by rw [hwd]; exact below_new _ _
                  have RN : Hid (Row w48 w47.heap.size 25 [.bool false, .slice none 0 0]) := Lib.hid (by rw [hwd]; exact heap_new _ _)
                  have HRN : Hid (wc.heap.size ≤ w47.heap.size) := Lib.hid HRG.out.size
                  rw [← hwd]
                  clear hwd
                  replace Bs := Lib.hid (Bs.out.below hb)
                  replace Bt := Lib.hid (Bt.out.below hb)
                  replace Bu := Lib.hid (Bu.out.below hb)
                  replace Bleft := Lib.hid (Bleft.out.below hb)
                  replace Bright := Lib.hid (Bright.out.below hb)
                  replace Bx := Lib.hid (Bx.out.below hb)
                  replace HB := Lib.hid (HB.out.trans (hb.mono HB.out.size))
                  replace HT := Lib.hid (HT.out.below hb)
                  replace HRG := Lib.hid (HRG.out.trans (hb.mono HRG.out.size))
                  clear hb
                  clear hh
                  have hh := KS.out _ HRG.out
                  refine hK.out _ _ (fun _ => hh) ?_
                  clear hK K
                  refine wpAnyE_ready (rs := [2]) (by kernel_rfl) (by simp) (AllReadyE.cons rfl (fun K hK => ?_) AllReadyE.nil)
                  go_simp
                  refine (mul_walk _ _ xs xt _ (by first | exact Bs.out.2 | exact Bs.out.2.below (below_new _ _) | exact (Bs.out.2.below (below_new _ _)).below ((Below.refl _ _).drew)) (by first | exact Bt.out.2 | exact Bt.out.2.below (below_new _ _) | exact (Bt.out.2.below (below_new _ _)).below ((Below.refl _ _).drew)) ((Ls.out).l1 (by decide)) ((Lt.out).l1 (by decide))).mono ?_
                  rintro e w49 ⟨vp4, rfl, hvp4, hb⟩
                  obtain ⟨sp4, Ap4, lp4, cp4, rfl⟩ := hvp4.shape
                  have Vp4 := Lib.hid hvp4
                  clear hvp4
                  replace RN := Lib.hid (RN.out.below hb RN.out.lt)
                  replace Bs := Lib.hid (Bs.out.below hb)
                  replace Bt := Lib.hid (Bt.out.below hb)
                  replace Bu := Lib.hid (Bu.out.below hb)
                  replace Bleft := Lib.hid (Bleft.out.below hb)
                  replace Bright := Lib.hid (Bright.out.below hb)
                  replace Bx := Lib.hid (Bx.out.below hb)
                  replace HB := Lib.hid (HB.out.trans (hb.mono HB.out.size))
                  replace HT := Lib.hid (HT.out.below hb)
                  replace HRG := Lib.hid (HRG.out.trans (hb.mono HRG.out.size))
                  clear hb
                  clear hh
                  have hh := KS.out _ HRG.out
                  refine hK.out _ _ (fun _ => hh) ?_
                  clear hK K
                  refine wpAnyE_ready (rs := [4]) (by kernel_rfl) (by simp) (AllReadyE.cons rfl (fun K hK => ?_) AllReadyE.nil)
                  go_simp
                  refine (mul_walk _ _ (xs * xt) xu _ (by first | exact Vp4.out | exact Vp4.out.below (below_new _ _) | exact (Vp4.out.below (below_new _ _)).below ((Below.refl _ _).drew)) (by first | exact Bu.out.2 | exact Bu.out.2.below (below_new _ _) | exact (Bu.out.2.below (below_new _ _)).below ((Below.refl _ _).drew)) ((Ls.out.mul Lt.out).l1 (by decide)) ((Lu.out).l1 (by decide))).mono ?_
                  rintro e w50 ⟨vq4, rfl, hvq4, hb⟩
                  obtain ⟨sq4, Aq4, lq4, cq4, rfl⟩ := hvq4.shape
                  have Vq4 := Lib.hid hvq4
                  clear hvq4
                  replace RN := Lib.hid (RN.out.below hb RN.out.lt)
                  replace Bs := Lib.hid (Bs.out.below hb)
                  replace Bt := Lib.hid (Bt.out.below hb)
                  replace Bu := Lib.hid (Bu.out.below hb)
                  replace Bleft := Lib.hid (Bleft.out.below hb)
                  replace Bright := Lib.hid (Bright.out.below hb)
                  replace Bx := Lib.hid (Bx.out.below hb)
                  replace Vp4 := Lib.hid (Vp4.out.below hb)
                  replace HB := Lib.hid (HB.out.trans (hb.mono HB.out.size))
                  replace HT := Lib.hid (HT.out.below hb)
                  replace HRG := Lib.hid (HRG.out.trans (hb.mono HRG.out.size))
                  clear hb
                  clear hh
                  have hh := KS.out _ HRG.out
                  refine hK.out _ _ (fun _ => hh) ?_
                  clear hK K
                  have k1 := RN.out.at_ 0 rfl
                  have k2 := RN.out.at_ 1 rfl
                  have k3 := RN.out.free 0
                  have k4 := RN.out.free 1
                  refine wpAnyE_ready (rs := [6]) (by kernel_rfl) (by simp) (AllReadyE.cons rfl (fun K hK => ?_) AllReadyE.nil)
                  go_simp
                  refine hK.out _ _ (fun h => by simp at h) ?_
                  clear hK K
                  refine wpAnyE_done (by kernel_rfl) ?_ _
                  clear hh KS k1 k2 k3 k4
                  have hsz := HRG.out.size
                  have hrn := HRN.out
                  go_wp2_with fail
                  go_meet
                  exact ⟨_, _, _, _, _, rfl, Lib.hid (box_put RN.out Vq4.out), Lib.hid (Bs.out.far (by have := HRN.out; have := hqBs.out; omega) RN.out), Lib.hid (Bt.out.far (by have := HRN.out; have := hqBt.out; omega) RN.out), Lib.hid (Bu.out.far (by have := HRN.out; have := hqBu.out; omega) RN.out), Lib.hid (Bleft.out.far (by have := HRN.out; have := hqBleft.out; omega) RN.out), Lib.hid (Bright.out.far (by have := HRN.out; have := hqBright.out; omega) RN.out), Lib.hid (Bx.out.far (by have := HRN.out; have := hqBx.out; omega) RN.out), Lib.hid ((HB.out.setCell (p := ⟨_, 0, none⟩) (by first | omega | (simp; omega)) _).setCell (p := ⟨_, 1, none⟩) (by first | omega | (simp; omega)) _)⟩
              case rest =>
                obtain ⟨gy, sy, Ay, ly, cy, rfl, By, Bs, Bt, Bu, Bleft, Bright, Bx, HB⟩ := hcut
                replace HT := Lib.hid (HT0.out.below HB.out)
                have hs3 := sum3_prem Ls.out Lt.out Lu.out
                have HS3 := Lib.hid hs3
                clear hs3
                go_wp2_with fail
                have g0Bleft := Bleft.out.c0
                have g1Bleft := Bleft.out.c1
                have glBleft := Bleft.out.1.lt
                have g0Bright := Bright.out.c0
                have g1Bright := Bright.out.c1
                have glBright := Bright.out.1.lt
                have g0Bx := Bx.out.c0
                have g1Bx := Bx.out.c1
                have glBx := Bx.out.1.lt
                have g0Bs := Bs.out.c0
                have g1Bs := Bs.out.c1
                have glBs := Bs.out.1.lt
                have g0Bt := Bt.out.c0
                have g1Bt := Bt.out.c1
                have glBt := Bt.out.1.lt
                have g0Bu := Bu.out.c0
                have g1Bu := Bu.out.c1
                have glBu := Bu.out.1.lt
                have g0By := By.out.c0
                have g1By := By.out.c1
                have glBy := By.out.1.lt
                have KS : Hid (∀ w', Below wc.heap.size wc w' → (w'.cell? ⟨gleft, 0, none⟩ = some (.bool sleft) ∧ w'.cell? ⟨gleft, 1, none⟩ = some (.slice Aleft lleft cleft) ∧ w'.cell? ⟨gright, 0, none⟩ = some (.bool sright) ∧ w'.cell? ⟨gright, 1, none⟩ = some (.slice Aright lright cright) ∧ w'.cell? ⟨gx, 0, none⟩ = some (.bool sx) ∧ w'.cell? ⟨gx, 1, none⟩ = some (.slice Ax lx cx) ∧ w'.cell? ⟨w5.heap.size, 0, none⟩ = some (.bool ss) ∧ w'.cell? ⟨w5.heap.size, 1, none⟩ = some (.slice As ls cs) ∧ w'.cell? ⟨w7.heap.size, 0, none⟩ = some (.bool st) ∧ w'.cell? ⟨w7.heap.size, 1, none⟩ = some (.slice At lt ct) ∧ w'.cell? ⟨w9.heap.size, 0, none⟩ = some (.bool su) ∧ w'.cell? ⟨w9.heap.size, 1, none⟩ = some (.slice Au lu cu) ∧ w'.cell? ⟨gy, 0, none⟩ = some (.bool sy) ∧ w'.cell? ⟨gy, 1, none⟩ = some (.slice Ay ly cy))) := Lib.hid (fun w' hb => ⟨((bbelow hb).1 gleft 0 glBleft).trans g0Bleft, ((bbelow hb).1 gleft 1 glBleft).trans g1Bleft, ((bbelow hb).1 gright 0 glBright).trans g0Bright, ((bbelow hb).1 gright 1 glBright).trans g1Bright, ((bbelow hb).1 gx 0 glBx).trans g0Bx, ((bbelow hb).1 gx 1 glBx).trans g1Bx, ((bbelow hb).1 w5.heap.size 0 glBs).trans g0Bs, ((bbelow hb).1 w5.heap.size 1 glBs).trans g1Bs, ((bbelow hb).1 w7.heap.size 0 glBt).trans g0Bt, ((bbelow hb).1 w7.heap.size 1 glBt).trans g1Bt, ((bbelow hb).1 w9.heap.size 0 glBu).trans g0Bu, ((bbelow hb).1 w9.heap.size 1 glBu).trans g1Bu, ((bbelow hb).1 gy 0 glBy).trans g0By, ((bbelow hb).1 gy 1 glBy).trans g1By⟩)
                clear g0Bleft g1Bleft glBleft g0Bright g1Bright glBright g0Bx g1Bx glBx g0Bs g1Bs glBs g0Bt g1Bt glBt g0Bu g1Bu glBu g0By g1By glBy
                refine wp_region_late (fun w' => w'.cell? ⟨gleft, 0, none⟩ = some (.bool sleft) ∧ w'.cell? ⟨gleft, 1, none⟩ = some (.slice Aleft lleft cleft) ∧ w'.cell? ⟨gright, 0, none⟩ = some (.bool sright) ∧ w'.cell? ⟨gright, 1, none⟩ = some (.slice Aright lright cright) ∧ w'.cell? ⟨gx, 0, none⟩ = some (.bool sx) ∧ w'.cell? ⟨gx, 1, none⟩ = some (.slice Ax lx cx) ∧ w'.cell? ⟨w5.heap.size, 0, none⟩ = some (.bool ss) ∧ w'.cell? ⟨w5.heap.size, 1, none⟩ = some (.slice As ls cs) ∧ w'.cell? ⟨w7.heap.size, 0, none⟩ = some (.bool st) ∧ w'.cell? ⟨w7.heap.size, 1, none⟩ = some (.slice At lt ct) ∧ w'.cell? ⟨w9.heap.size, 0, none⟩ = some (.bool su) ∧ w'.cell? ⟨w9.heap.size, 1, none⟩ = some (.slice Au lu cu) ∧ w'.cell? ⟨gy, 0, none⟩ = some (.bool sy) ∧ w'.cell? ⟨gy, 1, none⟩ = some (.slice Ay ly cy)) (fun i => false) (by kernel_rfl) ?_
                obtain ⟨w59, hwd⟩ : ∃ w59, w59 = wc.drew := ⟨_, rfl⟩
                rw [← hwd]
                have hb : Below wc.heap.size wc w59 := by rw [hwd]; exact (Below.refl _ _).drew
                clear hwd
                replace Bs := Lib.hid (Bs.out.below hb)
                replace Bt := Lib.hid (Bt.out.below hb)
                replace Bu := Lib.hid (Bu.out.below hb)
                replace Bleft := Lib.hid (Bleft.out.below hb)
                replace Bright := Lib.hid (Bright.out.below hb)
                replace Bx := Lib.hid (Bx.out.below hb)
                replace By := Lib.hid (By.out.below hb)
                replace HB := Lib.hid (HB.out.trans (hb.mono HB.out.size))
                replace HT := Lib.hid (HT.out.below hb)
                have HRG := Lib.hid hb
                clear hb
                have hh := KS.out _ HRG.out
                refine wpAnyE_taked (i := 0) (v := ?_) (some 75) rfl (by rfl) (by kernel_rfl) (by kernel_rfl) (by kernel_rfl) (by kernel_rfl) (fun _ _ _ h => h) (Or.inl ⟨by rfl, ?_⟩) hh ?_
                rotate_left
                · (intro w' hSw; (try dsimp only at hSw); go_simp; try with_reducible rfl)
                simp only [Act.put, List.setIfInBounds_toArray, List.set_cons_zero, List.set_cons_succ]
                refine wpAnyE_taked (i := 1) (v := ?_) (some 76) rfl (by rfl) (by kernel_rfl) (by kernel_rfl) (by kernel_rfl) (by kernel_rfl) (fun _ _ _ h => h) (Or.inl ⟨by rfl, ?_⟩) hh ?_
                rotate_left
                · (intro w' hSw; (try dsimp only at hSw); go_simp; try with_reducible rfl)
                simp only [Act.put, List.setIfInBounds_toArray, List.set_cons_zero, List.set_cons_succ]
                refine wpAnyE_ready (rs := [2]) (by kernel_rfl) (by simp) (AllReadyE.cons rfl (fun K hK => ?_) AllReadyE.nil)
                go_simp
                refine (compare_walk _ _ ((xs + xt) * xu) (xs * xu + xt * xu) _ (by first | exact Bleft.out.2 | exact Bleft.out.2.below (below_new _ _) | exact (Bleft.out.2.below (below_new _ _)).below ((Below.refl _ _).drew)) (by first | exact Bright.out.2 | exact Bright.out.2.below (below_new _ _) | exact (Bright.out.2.below (below_new _ _)).below ((Below.refl _ _).drew)) (((Ls.out.add Lt.out).mul Lu.out).l1 (by decide)) (((Ls.out.mul Lu.out).add (Lt.out.mul Lu.out)).l1 (by decide))).mono ?_
                rintro e w60 ⟨rfl, hb⟩
                rw [cmpI_eq (Int.add_mul xs xt xu)]
                replace Bs := Lib.hid (Bs.out.below hb)
                replace Bt := Lib.hid (Bt.out.below hb)
                replace Bu := Lib.hid (Bu.out.below hb)
                replace Bleft := Lib.hid (Bleft.out.below hb)
                replace Bright := Lib.hid (Bright.out.below hb)
                replace Bx := Lib.hid (Bx.out.below hb)
                replace By := Lib.hid (By.out.below hb)
                replace HB := Lib.hid (HB.out.trans (hb.mono HB.out.size))
                replace HT := Lib.hid (HT.out.below hb)
                replace HRG := Lib.hid (HRG.out.trans (hb.mono HRG.out.size))
                clear hb
                clear hh
                have hh := KS.out _ HRG.out
                refine hK.out _ _ (fun _ => hh) ?_
                clear hK K
                refine wpAnyE_taked (i := 3) (v := ?_) (some 78) rfl (by rfl) (by kernel_rfl) (by kernel_rfl) (by kernel_rfl) (by kernel_rfl) (fun _ _ _ h => h) (Or.inl ⟨by rfl, ?_⟩) hh ?_
                rotate_left
                · (intro w' hSw; (try dsimp only at hSw); go_simp; try with_reducible rfl)
                simp only [Act.put, List.setIfInBounds_toArray, List.set_cons_zero, List.set_cons_succ]
                refine wpAnyE_taked (i := 4) (v := ?_) (some 79) rfl (by rfl) (by kernel_rfl) (by kernel_rfl) (by kernel_rfl) (by kernel_rfl) (fun _ _ _ h => h) (Or.inl ⟨by rfl, ?_⟩) hh ?_
                rotate_left
                · (intro w' hSw; (try dsimp only at hSw); go_simp; try with_reducible rfl)
                simp only [Act.put, List.setIfInBounds_toArray, List.set_cons_zero, List.set_cons_succ]
                refine wpAnyE_taked (i := 5) (v := ?_) (some 80) rfl (by rfl) (by kernel_rfl) (by kernel_rfl) (by kernel_rfl) (by kernel_rfl) (fun _ _ _ h => h) (Or.inl ⟨by rfl, ?_⟩) hh ?_
                rotate_left
                · (intro w' hSw; (try dsimp only at hSw); go_simp; try with_reducible rfl)
                simp only [Act.put, List.setIfInBounds_toArray, List.set_cons_zero, List.set_cons_succ]
                refine wpAnyE_taked (i := 6) (v := ?_) (some 81) rfl (by rfl) (by kernel_rfl) (by kernel_rfl) (by kernel_rfl) (by kernel_rfl) (fun _ _ _ h => h) (Or.inl ⟨by rfl, ?_⟩) hh ?_
                rotate_left
                · (intro w' hSw; (try dsimp only at hSw); go_simp; try with_reducible rfl)
                simp only [Act.put, List.setIfInBounds_toArray, List.set_cons_zero, List.set_cons_succ]
                refine wpAnyE_taked (i := 7) (v := ?_) (some 82) rfl (by rfl) (by kernel_rfl) (by kernel_rfl) (by kernel_rfl) (by kernel_rfl) (fun _ _ _ h => h) (Or.inl ⟨by rfl, ?_⟩) hh ?_
                rotate_left
                · (intro w' hSw; (try dsimp only at hSw); go_simp; try with_reducible rfl)
                simp only [Act.put, List.setIfInBounds_toArray, List.set_cons_zero, List.set_cons_succ]
                refine wpAnyE_taked (i := 8) (v := ?_) (some 83) rfl (by rfl) (by kernel_rfl) (by kernel_rfl) (by kernel_rfl) (by kernel_rfl) (fun _ _ _ h => h) (Or.inl ⟨by rfl, ?_⟩) hh ?_
                rotate_left
                · (intro w' hSw; (try dsimp only at hSw); go_simp; try with_reducible rfl)
                simp only [Act.put, List.setIfInBounds_toArray, List.set_cons_zero, List.set_cons_succ]
                refine wpAnyE_ready (rs := [9]) (by kernel_rfl) (by simp) (AllReadyE.cons rfl (fun K hK => ?_) AllReadyE.nil)
                go_simp
                have hI := ints3 Bs.out.2 Bt.out.2 Bu.out.2
                obtain ⟨w61, hwd⟩ : ∃ w61, w61 = w60.alloc (.cells #[.bool ss, .slice As ls cs, .bool st, .slice At lt ct, .bool su, .slice Au lu cu] 25) := ⟨_, rfl⟩
                have hb : Below w60.heap.size w60 w61 := by rw [hwd]; exact below_new _ _
                rw [← hwd] at hI ⊢
                have HI := Lib.hid hI
                clear hI hwd
                replace Bs := Lib.hid (Bs.out.below hb)
                replace Bt := Lib.hid (Bt.out.below hb)
                replace Bu := Lib.hid (Bu.out.below hb)
                replace Bleft := Lib.hid (Bleft.out.below hb)
                replace Bright := Lib.hid (Bright.out.below hb)
                replace Bx := Lib.hid (Bx.out.below hb)
                replace By := Lib.hid (By.out.below hb)
                replace HB := Lib.hid (HB.out.trans (hb.mono HB.out.size))
                replace HT := Lib.hid (HT.out.below hb)
                replace HRG := Lib.hid (HRG.out.trans (hb.mono HRG.out.size))
                clear hb
                clear hh
                have hh := KS.out _ HRG.out
                refine hK.out _ _ (fun _ => hh) ?_
                clear hK K
                refine wpAnyE_ready (rs := [10]) (by kernel_rfl) (by simp) (AllReadyE.cons rfl (fun K hK => ?_) AllReadyE.nil)
                go_simp
                refine (sum_walk _ [xs, xt, xu] _ HI.out HS3.out.1 HS3.out.2 (by show (3 : Nat) < 17592186044416; decide)).mono ?_
                rintro e w62 ⟨vsum, rfl, hvsum, hb⟩
                obtain ⟨ssum, Asum, lsum, csum, rfl⟩ := hvsum.shape
                have Vsum := Lib.hid hvsum
                clear hvsum
                replace Bs := Lib.hid (Bs.out.below hb)
                replace Bt := Lib.hid (Bt.out.below hb)
                replace Bu := Lib.hid (Bu.out.below hb)
                replace Bleft := Lib.hid (Bleft.out.below hb)
                replace Bright := Lib.hid (Bright.out.below hb)
                replace Bx := Lib.hid (Bx.out.below hb)
                replace By := Lib.hid (By.out.below hb)
                replace HB := Lib.hid (HB.out.trans (hb.mono HB.out.size))
                replace HT := Lib.hid (HT.out.below hb)
                replace HRG := Lib.hid (HRG.out.trans (hb.mono HRG.out.size))
                clear hb
                clear hh
                have hh := KS.out _ HRG.out
                refine hK.out _ _ (fun _ => hh) ?_
                clear hK K
                refine wpAnyE_ready (rs := [11]) (by kernel_rfl) (by simp) (AllReadyE.cons rfl (fun K hK => ?_) AllReadyE.nil)
                go_simp
                refine (compare_walk _ _ (xs + xt + xu) _ _ (by first | exact Bx.out.2 | exact Bx.out.2.below (below_new _ _) | exact (Bx.out.2.below (below_new _ _)).below ((Below.refl _ _).drew)) (by first | exact Vsum.out | exact Vsum.out.below (below_new _ _) | exact (Vsum.out.below (below_new _ _)).below ((Below.refl _ _).drew)) (((Ls.out.add Lt.out).add (Lu.out.mono (by decide))).l1 (by decide)) (HS3.out.2 3 (by show (3 : Nat) ≤ 3; decide))).mono ?_
                rintro e w63 ⟨rfl, hb⟩
                rw [cmpI_eq (show xs + xt + xu = (List.take 3 [xs, xt, xu]).sum by simp <;> omega)]
                replace Bs := Lib.hid (Bs.out.below hb)
                replace Bt := Lib.hid (Bt.out.below hb)
                replace Bu := Lib.hid (Bu.out.below hb)
                replace Bleft := Lib.hid (Bleft.out.below hb)
                replace Bright := Lib.hid (Bright.out.below hb)
                replace Bx := Lib.hid (Bx.out.below hb)
                replace By := Lib.hid (By.out.below hb)
                replace Vsum := Lib.hid (Vsum.out.below hb)
                replace HB := Lib.hid (HB.out.trans (hb.mono HB.out.size))
                replace HT := Lib.hid (HT.out.below hb)
                replace HRG := Lib.hid (HRG.out.trans (hb.mono HRG.out.size))
                clear hb
                clear hh
                have hh := KS.out _ HRG.out
                refine hK.out _ _ (fun _ => hh) ?_
                clear hK K
                refine wpAnyE_taked (i := 12) (v := ?_) (some 87) rfl (by rfl) (by kernel_rfl) (by kernel_rfl) (by kernel_rfl) (by kernel_rfl) (fun _ _ _ h => h) (Or.inl ⟨by rfl, ?_⟩) hh ?_
                rotate_left
                · (intro w' hSw; (try dsimp only at hSw); go_simp; try with_reducible rfl)
                simp only [Act.put, List.setIfInBounds_toArray, List.set_cons_zero, List.set_cons_succ]
                refine wpAnyE_taked (i := 13) (v := ?_) (some 88) rfl (by rfl) (by kernel_rfl) (by kernel_rfl) (by kernel_rfl) (by kernel_rfl) (fun _ _ _ h => h) (Or.inl ⟨by rfl, ?_⟩) hh ?_
                rotate_left
                · (intro w' hSw; (try dsimp only at hSw); go_simp; try with_reducible rfl)
                simp only [Act.put, List.setIfInBounds_toArray, List.set_cons_zero, List.set_cons_succ]
                refine wpAnyE_taked (i := 14) (v := ?_) (some 89) rfl (by rfl) (by kernel_rfl) (by kernel_rfl) (by kernel_rfl) (by kernel_rfl) (fun _ _ _ h => h) (Or.inl ⟨by rfl, ?_⟩) hh ?_
                rotate_left
                · (intro w' hSw; (try dsimp only at hSw); go_simp; try with_reducible rfl)
                simp only [Act.put, List.setIfInBounds_toArray, List.set_cons_zero, List.set_cons_succ]
                refine wpAnyE_taked (i := 15) (v := ?_) (some 90) rfl (by rfl) (by kernel_rfl) (by kernel_rfl) (by kernel_rfl) (by kernel_rfl) (fun _ _ _ h => h) (Or.inl ⟨by rfl, ?_⟩) hh ?_
                rotate_left
                · (intro w' hSw; (try dsimp only at hSw); go_simp; try with_reducible rfl)
                simp only [Act.put, List.setIfInBounds_toArray, List.set_cons_zero, List.set_cons_succ]
                refine wpAnyE_taked (i := 16) (v := ?_) (some 91) rfl (by rfl) (by kernel_rfl) (by kernel_rfl) (by kernel_rfl) (by kernel_rfl) (fun _ _ _ h => h) (Or.inl ⟨by rfl, ?_⟩) hh ?_
                rotate_left
                · (intro w' hSw; (try dsimp only at hSw); go_simp; try with_reducible rfl)
                simp only [Act.put, List.setIfInBounds_toArray, List.set_cons_zero, List.set_cons_succ]
                refine wpAnyE_taked (i := 17) (v := ?_) (some 92) rfl (by rfl) (by kernel_rfl) (by kernel_rfl) (by kernel_rfl) (by kernel_rfl) (fun _ _ _ h => h) (Or.inl ⟨by rfl, ?_⟩) hh ?_
                rotate_left
                · (intro w' hSw; (try dsimp only at hSw); go_simp; try with_reducible rfl)
                simp only [Act.put, List.setIfInBounds_toArray, List.set_cons_zero, List.set_cons_succ]
                refine wpAnyE_taked (i := 18) (v := ?_) (some 93) rfl (by rfl) (by kernel_rfl) (by kernel_rfl) (by kernel_rfl) (by kernel_rfl) (fun _ _ _ h => h) (Or.inl ⟨by rfl, ?_⟩) hh ?_
                rotate_left
                · (intro w' hSw; (try dsimp only at hSw); go_simp; try with_reducible rfl)
                simp only [Act.put, List.setIfInBounds_toArray, List.set_cons_zero, List.set_cons_succ]
                refine wpAnyE_ready (rs := [19]) (by kernel_rfl) (by simp) (AllReadyE.cons rfl (fun K hK => ?_) AllReadyE.nil)
                go_simp
                refine (add_walk _ _ xt xu _ (by first | exact Bt.out.2 | exact Bt.out.2.below (below_new _ _) | exact (Bt.out.2.below (below_new _ _)).below ((Below.refl _ _).drew)) (by first | exact Bu.out.2 | exact Bu.out.2.below (below_new _ _) | exact (Bu.out.2.below (below_new _ _)).below ((Below.refl _ _).drew)) ((Lt.out).l1 (by decide)) ((Lu.out).l1 (by decide))).mono ?_
                rintro e w64 ⟨vp5, rfl, hvp5, hb⟩
                obtain ⟨sp5, Ap5, lp5, cp5, rfl⟩ := hvp5.shape
                have Vp5 := Lib.hid hvp5
                clear hvp5
                replace Bs := Lib.hid (Bs.out.below hb)
                replace Bt := Lib.hid (Bt.out.below hb)
                replace Bu := Lib.hid (Bu.out.below hb)
                replace Bleft := Lib.hid (Bleft.out.below hb)
                replace Bright := Lib.hid (Bright.out.below hb)
                replace Bx := Lib.hid (Bx.out.below hb)
                replace By := Lib.hid (By.out.below hb)
                replace Vsum := Lib.hid (Vsum.out.below hb)
                replace HB := Lib.hid (HB.out.trans (hb.mono HB.out.size))
                replace HT := Lib.hid (HT.out.below hb)
                replace HRG := Lib.hid (HRG.out.trans (hb.mono HRG.out.size))
                clear hb
                clear hh
                have hh := KS.out _ HRG.out
                refine hK.out _ _ (fun _ => hh) ?_
                clear hK K
                refine wpAnyE_ready (rs := [20]) (by kernel_rfl) (by simp) (AllReadyE.cons rfl (fun K hK => ?_) AllReadyE.nil)
                go_simp
                refine (add_walk _ _ xs (xt + xu) _ (by first | exact Bs.out.2 | exact Bs.out.2.below (below_new _ _) | exact (Bs.out.2.below (below_new _ _)).below ((Below.refl _ _).drew)) (by first | exact Vp5.out | exact Vp5.out.below (below_new _ _) | exact (Vp5.out.below (below_new _ _)).below ((Below.refl _ _).drew)) ((Ls.out).l1 (by decide)) ((Lt.out.add Lu.out).l1 (by decide))).mono ?_
                rintro e w65 ⟨vq5, rfl, hvq5, hb⟩
                obtain ⟨sq5, Aq5, lq5, cq5, rfl⟩ := hvq5.shape
                have Vq5 := Lib.hid hvq5
                clear hvq5
                replace Bs := Lib.hid (Bs.out.below hb)
                replace Bt := Lib.hid (Bt.out.below hb)
                replace Bu := Lib.hid (Bu.out.below hb)
                replace Bleft := Lib.hid (Bleft.out.below hb)
                replace Bright := Lib.hid (Bright.out.below hb)
                replace Bx := Lib.hid (Bx.out.below hb)
                replace By := Lib.hid (By.out.below hb)
                replace Vsum := Lib.hid (Vsum.out.below hb)
                replace Vp5 := Lib.hid (Vp5.out.below hb)
                replace HB := Lib.hid (HB.out.trans (hb.mono HB.out.size))
                replace HT := Lib.hid (HT.out.below hb)
                replace HRG := Lib.hid (HRG.out.trans (hb.mono HRG.out.size))
                clear hb
                clear hh
                have hh := KS.out _ HRG.out
                refine hK.out _ _ (fun _ => hh) ?_
                clear hK K
                refine wpAnyE_ready (rs := [21]) (by kernel_rfl) (by simp) (AllReadyE.cons rfl (fun K hK => ?_) AllReadyE.nil)
                go_simp
                refine (compare_walk _ _ (xs + xt + xu) (xs + (xt + xu)) _ (by first | exact Bx.out.2 | exact Bx.out.2.below (below_new _ _) | exact (Bx.out.2.below (below_new _ _)).below ((Below.refl _ _).drew)) (by first | exact Vq5.out | exact Vq5.out.below (below_new _ _) | exact (Vq5.out.below (below_new _ _)).below ((Below.refl _ _).drew)) (((Ls.out.add Lt.out).add (Lu.out.mono (by decide))).l1 (by decide)) (((Ls.out.mono (by decide)).add (Lt.out.add Lu.out)).l1 (by decide))).mono ?_
                rintro e w66 ⟨rfl, hb⟩
                rw [cmpI_eq (Int.add_assoc xs xt xu)]
                replace Bs := Lib.hid (Bs.out.below hb)
                replace Bt := Lib.hid (Bt.out.below hb)
                replace Bu := Lib.hid (Bu.out.below hb)
                replace Bleft := Lib.hid (Bleft.out.below hb)
                replace Bright := Lib.hid (Bright.out.below hb)
                replace Bx := Lib.hid (Bx.out.below hb)
                replace By := Lib.hid (By.out.below hb)
                replace Vsum := Lib.hid (Vsum.out.below hb)
                replace Vp5 := Lib.hid (Vp5.out.below hb)
                replace Vq5 := Lib.hid (Vq5.out.below hb)
                replace HB := Lib.hid (HB.out.trans (hb.mono HB.out.size))
                replace HT := Lib.hid (HT.out.below hb)
                replace HRG := Lib.hid (HRG.out.trans (hb.mono HRG.out.size))
                clear hb
                clear hh
                have hh := KS.out _ HRG.out
                refine hK.out _ _ (fun _ => hh) ?_
                clear hK K
                refine wpAnyE_taked (i := 22) (v := ?_) (some 97) rfl (by rfl) (by kernel_rfl) (by kernel_rfl) (by kernel_rfl) (by kernel_rfl) (fun _ _ _ h => h) (Or.inl ⟨by rfl, ?_⟩) hh ?_
                rotate_left
                · (intro w' hSw; (try dsimp only at hSw); go_simp; try with_reducible rfl)
                simp only [Act.put, List.setIfInBounds_toArray, List.set_cons_zero, List.set_cons_succ]
                refine wpAnyE_taked (i := 23) (v := ?_) (some 98) rfl (by rfl) (by kernel_rfl) (by kernel_rfl) (by kernel_rfl) (by kernel_rfl) (fun _ _ _ h => h) (Or.inl ⟨by rfl, ?_⟩) hh ?_
                rotate_left
                · (intro w' hSw; (try dsimp only at hSw); go_simp; try with_reducible rfl)
                simp only [Act.put, List.setIfInBounds_toArray, List.set_cons_zero, List.set_cons_succ]
                refine wpAnyE_taked (i := 24) (v := ?_) (some 99) rfl (by rfl) (by kernel_rfl) (by kernel_rfl) (by kernel_rfl) (by kernel_rfl) (fun _ _ _ h => h) (Or.inl ⟨by rfl, ?_⟩) hh ?_
                rotate_left
                · (intro w' hSw; (try dsimp only at hSw); go_simp; try with_reducible rfl)
                simp only [Act.put, List.setIfInBounds_toArray, List.set_cons_zero, List.set_cons_succ]
                refine wpAnyE_taked (i := 25) (v := ?_) (some 100) rfl (by rfl) (by kernel_rfl) (by kernel_rfl) (by kernel_rfl) (by kernel_rfl) (fun _ _ _ h => h) (Or.inl ⟨by rfl, ?_⟩) hh ?_
                rotate_left
                · (intro w' hSw; (try dsimp only at hSw); go_simp; try with_reducible rfl)
                simp only [Act.put, List.setIfInBounds_toArray, List.set_cons_zero, List.set_cons_succ]
                refine wpAnyE_taked (i := 26) (v := ?_) (some 101) rfl (by rfl) (by kernel_rfl) (by kernel_rfl) (by kernel_rfl) (by kernel_rfl) (fun _ _ _ h => h) (Or.inl ⟨by rfl, ?_⟩) hh ?_
                rotate_left
                · (intro w' hSw; (try dsimp only at hSw); go_simp; try with_reducible rfl)
                simp only [Act.put, List.setIfInBounds_toArray, List.set_cons_zero, List.set_cons_succ]
                refine wpAnyE_taked (i := 27) (v := ?_) (some 102) rfl (by rfl) (by kernel_rfl) (by kernel_rfl) (by kernel_rfl) (by kernel_rfl) (fun _ _ _ h => h) (Or.inl ⟨by rfl, ?_⟩) hh ?_
                rotate_left
                · (intro w' hSw; (try dsimp only at hSw); go_simp; try with_reducible rfl)
                simp only [Act.put, List.setIfInBounds_toArray, List.set_cons_zero, List.set_cons_succ]
                refine wpAnyE_taked (i := 28) (v := ?_) (some 103) rfl (by rfl) (by kernel_rfl) (by kernel_rfl) (by kernel_rfl) (by kernel_rfl) (fun _ _ _ h => h) (Or.inl ⟨by rfl, ?_⟩) hh ?_
                rotate_left
                · (intro w' hSw; (try dsimp only at hSw); go_simp; try with_reducible rfl)
                simp only [Act.put, List.setIfInBounds_toArray, List.set_cons_zero, List.set_cons_succ]
                refine wpAnyE_ready (rs := [29]) (by kernel_rfl) (by simp) (AllReadyE.cons rfl (fun K hK => ?_) AllReadyE.nil)
                go_simp
                refine (mul_walk _ _ xt xu _ (by first | exact Bt.out.2 | exact Bt.out.2.below (below_new _ _) | exact (Bt.out.2.below (below_new _ _)).below ((Below.refl _ _).drew)) (by first | exact Bu.out.2 | exact Bu.out.2.below (below_new _ _) | exact (Bu.out.2.below (below_new _ _)).below ((Below.refl _ _).drew)) ((Lt.out).l1 (by decide)) ((Lu.out).l1 (by decide))).mono ?_
                rintro e w67 ⟨vp6, rfl, hvp6, hb⟩
                obtain ⟨sp6, Ap6, lp6, cp6, rfl⟩ := hvp6.shape
                have Vp6 := Lib.hid hvp6
                clear hvp6
                replace Bs := Lib.hid (Bs.out.below hb)
                replace Bt := Lib.hid (Bt.out.below hb)
                replace Bu := Lib.hid (Bu.out.below hb)
                replace Bleft := Lib.hid (Bleft.out.below hb)
                replace Bright := Lib.hid (Bright.out.below hb)
                replace Bx := Lib.hid (Bx.out.below hb)
                replace By := Lib.hid (By.out.below hb)
                replace Vsum := Lib.hid (Vsum.out.below hb)
                replace Vp5 := Lib.hid (Vp5.out.below hb)
                replace Vq5 := Lib.hid (Vq5.out.below hb)
                replace HB := Lib.hid (HB.out.trans (hb.mono HB.out.size))
                replace HT := Lib.hid (HT.out.below hb)
                replace HRG := Lib.hid (HRG.out.trans (hb.mono HRG.out.size))
                clear hb
                clear hh
                have hh := KS.out _ HRG.out
                refine hK.out _ _ (fun _ => hh) ?_
                clear hK K
                refine wpAnyE_ready (rs := [30]) (by kernel_rfl) (by simp) (AllReadyE.cons rfl (fun K hK => ?_) AllReadyE.nil)
                go_simp
                refine (mul_walk _ _ xs (xt * xu) _ (by first | exact Bs.out.2 | exact Bs.out.2.below (below_new _ _) | exact (Bs.out.2.below (below_new _ _)).below ((Below.refl _ _).drew)) (by first | exact Vp6.out | exact Vp6.out.below (below_new _ _) | exact (Vp6.out.below (below_new _ _)).below ((Below.refl _ _).drew)) ((Ls.out).l1 (by decide)) ((Lt.out.mul Lu.out).l1 (by decide))).mono ?_
                rintro e w68 ⟨vq6, rfl, hvq6, hb⟩
                obtain ⟨sq6, Aq6, lq6, cq6, rfl⟩ := hvq6.shape
                have Vq6 := Lib.hid hvq6
                clear hvq6
                replace Bs := Lib.hid (Bs.out.below hb)
                replace Bt := Lib.hid (Bt.out.below hb)
                replace Bu := Lib.hid (Bu.out.below hb)
                replace Bleft := Lib.hid (Bleft.out.below hb)
                replace Bright := Lib.hid (Bright.out.below hb)
                replace Bx := Lib.hid (Bx.out.below hb)
                replace By := Lib.hid (By.out.below hb)
                replace Vsum := Lib.hid (Vsum.out.below hb)
                replace Vp5 := Lib.hid (Vp5.out.below hb)
                replace Vq5 := Lib.hid (Vq5.out.below hb)
                replace Vp6 := Lib.hid (Vp6.out.below hb)
                replace HB := Lib.hid (HB.out.trans (hb.mono HB.out.size))
                replace HT := Lib.hid (HT.out.below hb)
                replace HRG := Lib.hid (HRG.out.trans (hb.mono HRG.out.size))
                clear hb
                clear hh
                have hh := KS.out _ HRG.out
                refine hK.out _ _ (fun _ => hh) ?_
                clear hK K
                refine wpAnyE_ready (rs := [31]) (by kernel_rfl) (by simp) (AllReadyE.cons rfl (fun K hK => ?_) AllReadyE.nil)
                go_simp
                refine (compare_walk _ _ (xs * xt * xu) (xs * (xt * xu)) _ (by first | exact By.out.2 | exact By.out.2.below (below_new _ _) | exact (By.out.2.below (below_new _ _)).below ((Below.refl _ _).drew)) (by first | exact Vq6.out | exact Vq6.out.below (below_new _ _) | exact (Vq6.out.below (below_new _ _)).below ((Below.refl _ _).drew)) (((Ls.out.mul Lt.out).mul Lu.out).l1 (by decide)) ((Ls.out.mul (Lt.out.mul Lu.out)).l1 (by decide))).mono ?_
                rintro e w69 ⟨rfl, hb⟩
                rw [cmpI_eq (Int.mul_assoc xs xt xu)]
                replace Bs := Lib.hid (Bs.out.below hb)
                replace Bt := Lib.hid (Bt.out.below hb)
                replace Bu := Lib.hid (Bu.out.below hb)
                replace Bleft := Lib.hid (Bleft.out.below hb)
                replace Bright := Lib.hid (Bright.out.below hb)
                replace Bx := Lib.hid (Bx.out.below hb)
                replace By := Lib.hid (By.out.below hb)
                replace Vsum := Lib.hid (Vsum.out.below hb)
                replace Vp5 := Lib.hid (Vp5.out.below hb)
                replace Vq5 := Lib.hid (Vq5.out.below hb)
                replace Vp6 := Lib.hid (Vp6.out.below hb)
                replace Vq6 := Lib.hid (Vq6.out.below hb)
                replace HB := Lib.hid (HB.out.trans (hb.mono HB.out.size))
                replace HT := Lib.hid (HT.out.below hb)
                replace HRG := Lib.hid (HRG.out.trans (hb.mono HRG.out.size))
                clear hb
                clear hh
                have hh := KS.out _ HRG.out
                refine hK.out _ _ (fun _ => hh) ?_
                clear hK K
                refine wpAnyE_taked (i := 32) (v := ?_) (some 107) rfl (by rfl) (by kernel_rfl) (by kernel_rfl) (by kernel_rfl) (by kernel_rfl) (fun _ _ _ h => h) (Or.inl ⟨by rfl, ?_⟩) hh ?_
                rotate_left
                · (intro w' hSw; (try dsimp only at hSw); go_simp; try with_reducible rfl)
                simp only [Act.put, List.setIfInBounds_toArray, List.set_cons_zero, List.set_cons_succ]
                refine wpAnyE_taked (i := 33) (v := ?_) (some 108) rfl (by rfl) (by kernel_rfl) (by kernel_rfl) (by kernel_rfl) (by kernel_rfl) (fun _ _ _ h => h) (Or.inl ⟨by rfl, ?_⟩) hh ?_
                rotate_left
                · (intro w' hSw; (try dsimp only at hSw); go_simp; try with_reducible rfl)
                simp only [Act.put, List.setIfInBounds_toArray, List.set_cons_zero, List.set_cons_succ]
                refine wpAnyE_taked (i := 34) (v := ?_) (some 109) rfl (by rfl) (by kernel_rfl) (by kernel_rfl) (by kernel_rfl) (by kernel_rfl) (fun _ _ _ h => h) (Or.inl ⟨by rfl, ?_⟩) hh ?_
                rotate_left
                · (intro w' hSw; (try dsimp only at hSw); go_simp; try with_reducible rfl)
                simp only [Act.put, List.setIfInBounds_toArray, List.set_cons_zero, List.set_cons_succ]
                refine wpAnyE_ready (rs := [35]) (by kernel_rfl) (by simp) (AllReadyE.cons rfl (fun K hK => ?_) AllReadyE.nil)
                go_simp
                refine (sum_walk _ [] _ ints0 (by intro j hj; simp at hj) (by intro k _; simp [digs_zero]) (by decide)).mono ?_
                rintro e w70 ⟨vnone, rfl, hvnone, hb⟩
                obtain ⟨snone, Anone, lnone, cnone, rfl⟩ := hvnone.shape
                have Vnone := Lib.hid hvnone
                clear hvnone
                replace Bs := Lib.hid (Bs.out.below hb)
                replace Bt := Lib.hid (Bt.out.below hb)
                replace Bu := Lib.hid (Bu.out.below hb)
                replace Bleft := Lib.hid (Bleft.out.below hb)
                replace Bright := Lib.hid (Bright.out.below hb)
                replace Bx := Lib.hid (Bx.out.below hb)
                replace By := Lib.hid (By.out.below hb)
                replace Vsum := Lib.hid (Vsum.out.below hb)
                replace Vp5 := Lib.hid (Vp5.out.below hb)
                replace Vq5 := Lib.hid (Vq5.out.below hb)
                replace Vp6 := Lib.hid (Vp6.out.below hb)
                replace Vq6 := Lib.hid (Vq6.out.below hb)
                replace HB := Lib.hid (HB.out.trans (hb.mono HB.out.size))
                replace HT := Lib.hid (HT.out.below hb)
                replace HRG := Lib.hid (HRG.out.trans (hb.mono HRG.out.size))
                clear hb
                clear hh
                have hh := KS.out _ HRG.out
                refine hK.out _ _ (fun _ => hh) ?_
                clear hK K
                refine wpAnyE_ready (rs := [36]) (by kernel_rfl) (by simp) (AllReadyE.cons rfl (fun K hK => ?_) AllReadyE.nil)
                go_simp
                refine (sign_walk _ 0 _ (by exact Vnone.out)).mono ?_
                rintro e w71 ⟨rfl, hb⟩
                rw [show sgI 0 = 0 from rfl]
                replace Bs := Lib.hid (Bs.out.below hb)
                replace Bt := Lib.hid (Bt.out.below hb)
                replace Bu := Lib.hid (Bu.out.below hb)
                replace Bleft := Lib.hid (Bleft.out.below hb)
                replace Bright := Lib.hid (Bright.out.below hb)
                replace Bx := Lib.hid (Bx.out.below hb)
                replace By := Lib.hid (By.out.below hb)
                replace Vsum := Lib.hid (Vsum.out.below hb)
                replace Vp5 := Lib.hid (Vp5.out.below hb)
                replace Vq5 := Lib.hid (Vq5.out.below hb)
                replace Vp6 := Lib.hid (Vp6.out.below hb)
                replace Vq6 := Lib.hid (Vq6.out.below hb)
                replace Vnone := Lib.hid (Vnone.out.below hb)
                replace HB := Lib.hid (HB.out.trans (hb.mono HB.out.size))
                replace HT := Lib.hid (HT.out.below hb)
                replace HRG := Lib.hid (HRG.out.trans (hb.mono HRG.out.size))
                clear hb
                clear hh
                have hh := KS.out _ HRG.out
                refine hK.out _ _ (fun _ => hh) ?_
                clear hK K
                refine wpAnyE_taked (i := 37) (v := ?_) (some 112) rfl (by rfl) (by kernel_rfl) (by kernel_rfl) (by kernel_rfl) (by kernel_rfl) (fun _ _ _ h => h) (Or.inl ⟨by rfl, ?_⟩) hh ?_
                rotate_left
                · (intro w' hSw; (try dsimp only at hSw); go_simp; try with_reducible rfl)
                simp only [Act.put, List.setIfInBounds_toArray, List.set_cons_zero, List.set_cons_succ]
                refine wpAnyE_taked (i := 38) (v := ?_) (some 113) rfl (by rfl) (by kernel_rfl) (by kernel_rfl) (by kernel_rfl) (by kernel_rfl) (fun _ _ _ h => h) (Or.inl ⟨by rfl, ?_⟩) hh ?_
                rotate_left
                · (intro w' hSw; (try dsimp only at hSw); go_simp; try with_reducible rfl)
                simp only [Act.put, List.setIfInBounds_toArray, List.set_cons_zero, List.set_cons_succ]
                refine wpAnyE_done (by kernel_rfl) ?_ _
                clear hh KS HRG
                have k0Bs := Bs.out.c0
                have k1Bs := Bs.out.c1
                have k2Bs := Bs.out.1.lt
                have k0Bt := Bt.out.c0
                have k1Bt := Bt.out.c1
                have k2Bt := Bt.out.1.lt
                have k0Bu := Bu.out.c0
                have k1Bu := Bu.out.c1
                have k2Bu := Bu.out.1.lt
                have k0Bleft := Bleft.out.c0
                have k1Bleft := Bleft.out.c1
                have k2Bleft := Bleft.out.1.lt
                have k0Bright := Bright.out.c0
                have k1Bright := Bright.out.c1
                have k2Bright := Bright.out.1.lt
                have k0Bx := Bx.out.c0
                have k1Bx := Bx.out.c1
                have k2Bx := Bx.out.1.lt
                have k0By := By.out.c0
                have k1By := By.out.c1
                have k2By := By.out.1.lt
                clear HI
                clear Vsum
                clear Vp5
                clear Vq5
                clear Vp6
                clear Vq6
                clear Vnone
                by_cases hz : xt = 0
                · subst hz
                  go_wp2_with fail
                  clear k0Bs k1Bs k2Bs k0Bt k1Bt k2Bt k0Bu k1Bu k2Bu k0Bleft k1Bleft k2Bleft k0Bright k1Bright k2Bright k0Bx k1Bx k2Bx k0By k1By k2By
                  refine (divmod_zero _ _ xs _ Bs.out.2 Bt.out.2).mono ?_
                  rintro e w72 ⟨vq, vr, rfl, hvq, hvr, hb72⟩
                  obtain ⟨sq, Aq, lq, cq, rfl⟩ := hvq.shape
                  have Vq := Lib.hid hvq
                  clear hvq
                  obtain ⟨sr, Ar, lr, cr, rfl⟩ := hvr.shape
                  have Vr := Lib.hid hvr
                  clear hvr
                  replace Bs := Lib.hid (Bs.out.below hb72)
                  replace Bt := Lib.hid (Bt.out.below hb72)
                  replace Bu := Lib.hid (Bu.out.below hb72)
                  replace Bleft := Lib.hid (Bleft.out.below hb72)
                  replace Bright := Lib.hid (Bright.out.below hb72)
                  replace Bx := Lib.hid (Bx.out.below hb72)
                  replace By := Lib.hid (By.out.below hb72)
                  replace HB := Lib.hid (HB.out.trans (hb72.mono HB.out.size))
                  replace HT := Lib.hid (HT.out.below hb72)
                  clear hb72
                  have k0Bs := Bs.out.c0
                  have k1Bs := Bs.out.c1
                  have k2Bs := Bs.out.1.lt
                  have k0Bt := Bt.out.c0
                  have k1Bt := Bt.out.c1
                  have k2Bt := Bt.out.1.lt
                  have k0Bu := Bu.out.c0
                  have k1Bu := Bu.out.c1
                  have k2Bu := Bu.out.1.lt
                  have k0Bleft := Bleft.out.c0
                  have k1Bleft := Bleft.out.c1
                  have k2Bleft := Bleft.out.1.lt
                  have k0Bright := Bright.out.c0
                  have k1Bright := Bright.out.c1
                  have k2Bright := Bright.out.1.lt
                  have k0Bx := Bx.out.c0
                  have k1Bx := Bx.out.c1
                  have k2Bx := Bx.out.1.lt
                  have k0By := By.out.c0
                  have k1By := By.out.c1
                  have k2By := By.out.1.lt
                  have Bq := Lib.hid (Box.made Vq.out)
                  have hn73 := below_new w72 (.cells #[.bool sq, .slice Aq lq cq] 25)
                  have Br := Lib.hid (Box.made (Vr.out.below hn73))
                  have ho73 := below_new (w72.alloc (.cells #[.bool sq, .slice Aq lq cq] 25)) (.cells #[.bool sr, .slice Ar lr cr] 25)
                  replace Bq := Lib.hid (Bq.out.below ho73)
                  replace Bs := Lib.hid ((Bs.out.below hn73).below ho73)
                  replace Bt := Lib.hid ((Bt.out.below hn73).below ho73)
                  replace Bu := Lib.hid ((Bu.out.below hn73).below ho73)
                  replace Bleft := Lib.hid ((Bleft.out.below hn73).below ho73)
                  replace Bright := Lib.hid ((Bright.out.below hn73).below ho73)
                  replace Bx := Lib.hid ((Bx.out.below hn73).below ho73)
                  replace By := Lib.hid ((By.out.below hn73).below ho73)
                  replace HB := Lib.hid ((HB.out.trans (hn73.mono HB.out.size)).trans (ho73.mono (Nat.le_trans HB.out.size hn73.size)))
                  replace HT := Lib.hid ((HT.out.below hn73).below ho73)
                  rw [show (w72.alloc (.cells #[.bool sq, .slice Aq lq cq] 25)).heap.size = w72.heap.size + 1 from size_alloc _ _] at Br
                  obtain ⟨w73, hw73⟩ : ∃ w73, w73 = (w72.alloc (.cells #[.bool sq, .slice Aq lq cq] 25)).alloc (.cells #[.bool sr, .slice Ar lr cr] 25) := ⟨_, rfl⟩
                  rw [← hw73] at Bs Bt Bu Bleft Bright Bx By Bq Br HB HT
                  clear hn73 ho73 Vq Vr
                  go_wp2_with fail
                  rw [← hw73]
                  clear hw73
                  clear k0Bs k1Bs k2Bs k0Bt k1Bt k2Bt k0Bu k1Bu k2Bu k0Bleft k1Bleft k2Bleft k0Bright k1Bright k2Bright k0Bx k1Bx k2Bx k0By k1By k2By
                  refine (sign_walk _ 0 _ Bt.out.2).mono ?_
                  rintro e w74 ⟨rfl, hb74⟩
                  rw [show sgI 0 = 0 from rfl]
                  replace Bs := Lib.hid (Bs.out.below hb74)
                  replace Bt := Lib.hid (Bt.out.below hb74)
                  replace Bu := Lib.hid (Bu.out.below hb74)
                  replace Bleft := Lib.hid (Bleft.out.below hb74)
                  replace Bright := Lib.hid (Bright.out.below hb74)
                  replace Bx := Lib.hid (Bx.out.below hb74)
                  replace By := Lib.hid (By.out.below hb74)
                  replace Bq := Lib.hid (Bq.out.below hb74)
                  replace Br := Lib.hid (Br.out.below hb74)
                  replace HB := Lib.hid (HB.out.trans (hb74.mono HB.out.size))
                  replace HT := Lib.hid (HT.out.below hb74)
                  clear hb74
                  have k0Bs := Bs.out.c0
                  have k1Bs := Bs.out.c1
                  have k2Bs := Bs.out.1.lt
                  have k0Bt := Bt.out.c0
                  have k1Bt := Bt.out.c1
                  have k2Bt := Bt.out.1.lt
                  have k0Bu := Bu.out.c0
                  have k1Bu := Bu.out.c1
                  have k2Bu := Bu.out.1.lt
                  have k0Bleft := Bleft.out.c0
                  have k1Bleft := Bleft.out.c1
                  have k2Bleft := Bleft.out.1.lt
                  have k0Bright := Bright.out.c0
                  have k1Bright := Bright.out.c1
                  have k2Bright := Bright.out.1.lt
                  have k0Bx := Bx.out.c0
                  have k1Bx := Bx.out.c1
                  have k2Bx := Bx.out.1.lt
                  have k0By := By.out.c0
                  have k1By := By.out.c1
                  have k2By := By.out.1.lt
                  have k0Bq := Bq.out.c0
                  have k1Bq := Bq.out.c1
                  have k2Bq := Bq.out.1.lt
                  have k0Br := Br.out.c0
                  have k1Br := Br.out.c1
                  have k2Br := Br.out.1.lt
                  go_wp2_with fail
                  go_returns
                  exact ⟨rfl, HB.out⟩
                · have hsg : (sgI xt == 0) = false := sgI_ne hz
                  have HZ := Lib.hid hz
                  clear hz
                  go_wp2_with fail
                  clear k0Bs k1Bs k2Bs k0Bt k1Bt k2Bt k0Bu k1Bu k2Bu k0Bleft k1Bleft k2Bleft k0Bright k1Bright k2Bright k0Bx k1Bx k2Bx k0By k1By k2By
                  refine (divmod_walk _ _ xs xt _ Bs.out.2 Bt.out.2 (Ls.out.l1 (by decide)) (Lt.out.l2 (by decide)) HZ.out).mono ?_
                  rintro e w72 ⟨vq, vr, rfl, hvq, hvr, hb72⟩
                  obtain ⟨sq, Aq, lq, cq, rfl⟩ := hvq.shape
                  have Vq := Lib.hid hvq
                  clear hvq
                  obtain ⟨sr, Ar, lr, cr, rfl⟩ := hvr.shape
                  have Vr := Lib.hid hvr
                  clear hvr
                  replace Bs := Lib.hid (Bs.out.below hb72)
                  replace Bt := Lib.hid (Bt.out.below hb72)
                  replace Bu := Lib.hid (Bu.out.below hb72)
                  replace Bleft := Lib.hid (Bleft.out.below hb72)
                  replace Bright := Lib.hid (Bright.out.below hb72)
                  replace Bx := Lib.hid (Bx.out.below hb72)
                  replace By := Lib.hid (By.out.below hb72)
                  replace HB := Lib.hid (HB.out.trans (hb72.mono HB.out.size))
                  replace HT := Lib.hid (HT.out.below hb72)
                  clear hb72
                  have k0Bs := Bs.out.c0
                  have k1Bs := Bs.out.c1
                  have k2Bs := Bs.out.1.lt
                  have k0Bt := Bt.out.c0
                  have k1Bt := Bt.out.c1
                  have k2Bt := Bt.out.1.lt
                  have k0Bu := Bu.out.c0
                  have k1Bu := Bu.out.c1
                  have k2Bu := Bu.out.1.lt
                  have k0Bleft := Bleft.out.c0
                  have k1Bleft := Bleft.out.c1
                  have k2Bleft := Bleft.out.1.lt
                  have k0Bright := Bright.out.c0
                  have k1Bright := Bright.out.c1
                  have k2Bright := Bright.out.1.lt
                  have k0Bx := Bx.out.c0
                  have k1Bx := Bx.out.c1
                  have k2Bx := Bx.out.1.lt
                  have k0By := By.out.c0
                  have k1By := By.out.c1
                  have k2By := By.out.1.lt
                  have Bq := Lib.hid (Box.made Vq.out)
                  have hn73 := below_new w72 (.cells #[.bool sq, .slice Aq lq cq] 25)
                  have Br := Lib.hid (Box.made (Vr.out.below hn73))
                  have ho73 := below_new (w72.alloc (.cells #[.bool sq, .slice Aq lq cq] 25)) (.cells #[.bool sr, .slice Ar lr cr] 25)
                  replace Bq := Lib.hid (Bq.out.below ho73)
                  replace Bs := Lib.hid ((Bs.out.below hn73).below ho73)
                  replace Bt := Lib.hid ((Bt.out.below hn73).below ho73)
                  replace Bu := Lib.hid ((Bu.out.below hn73).below ho73)
                  replace Bleft := Lib.hid ((Bleft.out.below hn73).below ho73)
                  replace Bright := Lib.hid ((Bright.out.below hn73).below ho73)
                  replace Bx := Lib.hid ((Bx.out.below hn73).below ho73)
                  replace By := Lib.hid ((By.out.below hn73).below ho73)
                  replace HB := Lib.hid ((HB.out.trans (hn73.mono HB.out.size)).trans (ho73.mono (Nat.le_trans HB.out.size hn73.size)))
                  replace HT := Lib.hid ((HT.out.below hn73).below ho73)
                  rw [show (w72.alloc (.cells #[.bool sq, .slice Aq lq cq] 25)).heap.size = w72.heap.size + 1 from size_alloc _ _] at Br
                  obtain ⟨w73, hw73⟩ : ∃ w73, w73 = (w72.alloc (.cells #[.bool sq, .slice Aq lq cq] 25)).alloc (.cells #[.bool sr, .slice Ar lr cr] 25) := ⟨_, rfl⟩
                  rw [← hw73] at Bs Bt Bu Bleft Bright Bx By Bq Br HB HT
                  clear hn73 ho73 Vq Vr
                  go_wp2_with fail
                  rw [← hw73]
                  clear hw73
                  clear k0Bs k1Bs k2Bs k0Bt k1Bt k2Bt k0Bu k1Bu k2Bu k0Bleft k1Bleft k2Bleft k0Bright k1Bright k2Bright k0Bx k1Bx k2Bx k0By k1By k2By
                  refine (sign_walk _ xt _ Bt.out.2).mono ?_
                  rintro e w74 ⟨rfl, hb74⟩
                  replace Bs := Lib.hid (Bs.out.below hb74)
                  replace Bt := Lib.hid (Bt.out.below hb74)
                  replace Bu := Lib.hid (Bu.out.below hb74)
                  replace Bleft := Lib.hid (Bleft.out.below hb74)
                  replace Bright := Lib.hid (Bright.out.below hb74)
                  replace Bx := Lib.hid (Bx.out.below hb74)
                  replace By := Lib.hid (By.out.below hb74)
                  replace Bq := Lib.hid (Bq.out.below hb74)
                  replace Br := Lib.hid (Br.out.below hb74)
                  replace HB := Lib.hid (HB.out.trans (hb74.mono HB.out.size))
                  replace HT := Lib.hid (HT.out.below hb74)
                  clear hb74
                  have k0Bs := Bs.out.c0
                  have k1Bs := Bs.out.c1
                  have k2Bs := Bs.out.1.lt
                  have k0Bt := Bt.out.c0
                  have k1Bt := Bt.out.c1
                  have k2Bt := Bt.out.1.lt
                  have k0Bu := Bu.out.c0
                  have k1Bu := Bu.out.c1
                  have k2Bu := Bu.out.1.lt
                  have k0Bleft := Bleft.out.c0
                  have k1Bleft := Bleft.out.c1
                  have k2Bleft := Bleft.out.1.lt
                  have k0Bright := Bright.out.c0
                  have k1Bright := Bright.out.c1
                  have k2Bright := Bright.out.1.lt
                  have k0Bx := Bx.out.c0
                  have k1Bx := Bx.out.c1
                  have k2Bx := Bx.out.1.lt
                  have k0By := By.out.c0
                  have k1By := By.out.c1
                  have k2By := By.out.1.lt
                  have k0Bq := Bq.out.c0
                  have k1Bq := Bq.out.c1
                  have k2Bq := Bq.out.1.lt
                  have k0Br := Br.out.c0
                  have k1Br := Br.out.c1
                  have k2Br := Br.out.1.lt
                  obtain ⟨qq, hqq⟩ : ∃ q, q = Int.fdiv xs xt := ⟨_, rfl⟩
                  obtain ⟨rr, hrr⟩ : ∃ r, r = Int.fmod xs xt := ⟨_, rfl⟩
                  have hqr := ring_rest HZ.out hqq hrr
                  have LQ : Hid (Lim 121 qq) := Lib.hid (by rw [hqq]; exact Ls.out.fdiv HZ.out)
                  have LR : Hid (Lim 120 rr) := Lib.hid (by rw [hrr]; exact Lt.out.fmod HZ.out)
                  have hBq := Bq.out
                  have hBr := Br.out
                  rw [← hqq] at hBq
                  rw [← hrr] at hBr
                  replace Bq := Lib.hid hBq
                  replace Br := Lib.hid hBr
                  have HQR := Lib.hid hqr
                  clear hBq hBr hqr hqq hrr
                  obtain ⟨pp, hpp⟩ : ∃ p, sgI rr * sgI xt = p := ⟨_, rfl⟩
                  have hp0 : 0 ≤ pp := by have := HQR.out.2.2.1; omega
                  have hp1 : pp ≤ 1 := by have := HQR.out.2.2.2; omega
                  have HPP := Lib.hid hpp
                  have HP0 : Hid (0 ≤ pp ∧ pp ≤ 1) := Lib.hid ⟨hp0, hp1⟩
                  clear hpp hp0 hp1
                  go_wp2_with fail
                  clear k0Bs k1Bs k2Bs k0Bt k1Bt k2Bt k0Bu k1Bu k2Bu k0Bleft k1Bleft k2Bleft k0Bright k1Bright k2Bright k0Bx k1Bx k2Bx k0By k1By k2By k0Bq k1Bq k2Bq k0Br k1Br k2Br
                  have g0Bq := Bq.out.c0
                  have g1Bq := Bq.out.c1
                  have glBq := Bq.out.1.lt
                  have g0Bt := Bt.out.c0
                  have g1Bt := Bt.out.c1
                  have glBt := Bt.out.1.lt
                  have g0Br := Br.out.c0
                  have g1Br := Br.out.c1
                  have glBr := Br.out.1.lt
                  have g0Bs := Bs.out.c0
                  have g1Bs := Bs.out.c1
                  have glBs := Bs.out.1.lt
                  have KS : Hid (∀ w', Below w74.heap.size w74 w' → (w'.cell? ⟨w72.heap.size, 0, none⟩ = some (.bool sq) ∧ w'.cell? ⟨w72.heap.size, 1, none⟩ = some (.slice Aq lq cq) ∧ w'.cell? ⟨w7.heap.size, 0, none⟩ = some (.bool st) ∧ w'.cell? ⟨w7.heap.size, 1, none⟩ = some (.slice At lt ct) ∧ w'.cell? ⟨(w72.heap.size + 1), 0, none⟩ = some (.bool sr) ∧ w'.cell? ⟨(w72.heap.size + 1), 1, none⟩ = some (.slice Ar lr cr) ∧ w'.cell? ⟨w5.heap.size, 0, none⟩ = some (.bool ss) ∧ w'.cell? ⟨w5.heap.size, 1, none⟩ = some (.slice As ls cs))) := Lib.hid (fun w' hb => ⟨((bbelow hb).1 w72.heap.size 0 glBq).trans g0Bq, ((bbelow hb).1 w72.heap.size 1 glBq).trans g1Bq, ((bbelow hb).1 w7.heap.size 0 glBt).trans g0Bt, ((bbelow hb).1 w7.heap.size 1 glBt).trans g1Bt, ((bbelow hb).1 (w72.heap.size + 1) 0 glBr).trans g0Br, ((bbelow hb).1 (w72.heap.size + 1) 1 glBr).trans g1Br, ((bbelow hb).1 w5.heap.size 0 glBs).trans g0Bs, ((bbelow hb).1 w5.heap.size 1 glBs).trans g1Bs⟩)
                  clear g0Bq g1Bq glBq g0Bt g1Bt glBt g0Br g1Br glBr g0Bs g1Bs glBs
                  refine wp_region_late (fun w' => w'.cell? ⟨w72.heap.size, 0, none⟩ = some (.bool sq) ∧ w'.cell? ⟨w72.heap.size, 1, none⟩ = some (.slice Aq lq cq) ∧ w'.cell? ⟨w7.heap.size, 0, none⟩ = some (.bool st) ∧ w'.cell? ⟨w7.heap.size, 1, none⟩ = some (.slice At lt ct) ∧ w'.cell? ⟨(w72.heap.size + 1), 0, none⟩ = some (.bool sr) ∧ w'.cell? ⟨(w72.heap.size + 1), 1, none⟩ = some (.slice Ar lr cr) ∧ w'.cell? ⟨w5.heap.size, 0, none⟩ = some (.bool ss) ∧ w'.cell? ⟨w5.heap.size, 1, none⟩ = some (.slice As ls cs)) (fun i => false) (by kernel_rfl) ?_
                  obtain ⟨w75, hwd⟩ : ∃ w75, w75 = w74.drew := ⟨_, rfl⟩
                  rw [← hwd]
                  have hb : Below w74.heap.size w74 w75 := by rw [hwd]; exact (Below.refl _ _).drew
                  clear hwd
                  replace Bs := Lib.hid (Bs.out.below hb)
                  replace Bt := Lib.hid (Bt.out.below hb)
                  replace Bu := Lib.hid (Bu.out.below hb)
                  replace Bleft := Lib.hid (Bleft.out.below hb)
                  replace Bright := Lib.hid (Bright.out.below hb)
                  replace Bx := Lib.hid (Bx.out.below hb)
                  replace By := Lib.hid (By.out.below hb)
                  replace Bq := Lib.hid (Bq.out.below hb)
                  replace Br := Lib.hid (Br.out.below hb)
                  replace HB := Lib.hid (HB.out.trans (hb.mono HB.out.size))
                  replace HT := Lib.hid (HT.out.below hb)
                  have HRG := Lib.hid hb
                  clear hb
                  have hh := KS.out _ HRG.out
                  refine wpAnyE_taked (i := 0) (v := ?_) (some 126) rfl (by rfl) (by kernel_rfl) (by kernel_rfl) (by kernel_rfl) (by kernel_rfl) (fun _ _ _ h => h) (Or.inl ⟨by rfl, ?_⟩) hh ?_
                  rotate_left
                  · (intro w' hSw; (try dsimp only at hSw); go_simp; try with_reducible rfl)
                  simp only [Act.put, List.setIfInBounds_toArray, List.set_cons_zero, List.set_cons_succ]
                  refine wpAnyE_taked (i := 1) (v := ?_) (some 127) rfl (by rfl) (by kernel_rfl) (by kernel_rfl) (by kernel_rfl) (by kernel_rfl) (fun _ _ _ h => h) (Or.inl ⟨by rfl, ?_⟩) hh ?_
                  rotate_left
                  · (intro w' hSw; (try dsimp only at hSw); go_simp; try with_reducible rfl)
                  simp only [Act.put, List.setIfInBounds_toArray, List.set_cons_zero, List.set_cons_succ]
                  refine wpAnyE_taked (i := 2) (v := ?_) (some 128) rfl (by rfl) (by kernel_rfl) (by kernel_rfl) (by kernel_rfl) (by kernel_rfl) (fun _ _ _ h => h) (Or.inl ⟨by rfl, ?_⟩) hh ?_
                  rotate_left
                  · (intro w' hSw; (try dsimp only at hSw); go_simp; try with_reducible rfl)
                  simp only [Act.put, List.setIfInBounds_toArray, List.set_cons_zero, List.set_cons_succ]
                  refine wpAnyE_taked (i := 3) (v := ?_) (some 129) rfl (by rfl) (by kernel_rfl) (by kernel_rfl) (by kernel_rfl) (by kernel_rfl) (fun _ _ _ h => h) (Or.inl ⟨by rfl, ?_⟩) hh ?_
                  rotate_left
                  · (intro w' hSw; (try dsimp only at hSw); go_simp; try with_reducible rfl)
                  simp only [Act.put, List.setIfInBounds_toArray, List.set_cons_zero, List.set_cons_succ]
                  refine wpAnyE_taked (i := 4) (v := ?_) (some 130) rfl (by rfl) (by kernel_rfl) (by kernel_rfl) (by kernel_rfl) (by kernel_rfl) (fun _ _ _ h => h) (Or.inl ⟨by rfl, ?_⟩) hh ?_
                  rotate_left
                  · (intro w' hSw; (try dsimp only at hSw); go_simp; try with_reducible rfl)
                  simp only [Act.put, List.setIfInBounds_toArray, List.set_cons_zero, List.set_cons_succ]
                  refine wpAnyE_taked (i := 6) (v := ?_) (some 132) rfl (by rfl) (by kernel_rfl) (by kernel_rfl) (by kernel_rfl) (by kernel_rfl) (fun _ _ _ h => h) (Or.inl ⟨by rfl, ?_⟩) hh ?_
                  rotate_left
                  · (intro w' hSw; (try dsimp only at hSw); go_simp; try with_reducible rfl)
                  simp only [Act.put, List.setIfInBounds_toArray, List.set_cons_zero, List.set_cons_succ]
                  refine wpAnyE_taked (i := 8) (v := ?_) (some 134) rfl (by rfl) (by kernel_rfl) (by kernel_rfl) (by kernel_rfl) (by kernel_rfl) (fun _ _ _ h => h) (Or.inl ⟨by rfl, ?_⟩) hh ?_
                  rotate_left
                  · (intro w' hSw; (try dsimp only at hSw); go_simp; try with_reducible rfl)
                  simp only [Act.put, List.setIfInBounds_toArray, List.set_cons_zero, List.set_cons_succ]
                  refine wpAnyE_ready (rs := [5]) (by kernel_rfl) (by simp) (AllReadyE.cons rfl (fun K hK => ?_) AllReadyE.nil)
                  go_simp
                  refine (mul_walk _ _ qq xt _ (by first | exact Bq.out.2 | exact Bq.out.2.below (below_new _ _) | exact (Bq.out.2.below (below_new _ _)).below ((Below.refl _ _).drew)) (by first | exact Bt.out.2 | exact Bt.out.2.below (below_new _ _) | exact (Bt.out.2.below (below_new _ _)).below ((Below.refl _ _).drew)) ((LQ.out).l1 (by decide)) ((Lt.out).l1 (by decide))).mono ?_
                  rintro e w76 ⟨vp7, rfl, hvp7, hb⟩
                  obtain ⟨sp7, Ap7, lp7, cp7, rfl⟩ := hvp7.shape
                  have Vp7 := Lib.hid hvp7
                  clear hvp7
                  replace Bs := Lib.hid (Bs.out.below hb)
                  replace Bt := Lib.hid (Bt.out.below hb)
                  replace Bu := Lib.hid (Bu.out.below hb)
                  replace Bleft := Lib.hid (Bleft.out.below hb)
                  replace Bright := Lib.hid (Bright.out.below hb)
                  replace Bx := Lib.hid (Bx.out.below hb)
                  replace By := Lib.hid (By.out.below hb)
                  replace Bq := Lib.hid (Bq.out.below hb)
                  replace Br := Lib.hid (Br.out.below hb)
                  replace HB := Lib.hid (HB.out.trans (hb.mono HB.out.size))
                  replace HT := Lib.hid (HT.out.below hb)
                  replace HRG := Lib.hid (HRG.out.trans (hb.mono HRG.out.size))
                  clear hb
                  clear hh
                  have hh := KS.out _ HRG.out
                  refine hK.out _ _ (fun _ => hh) ?_
                  clear hK K
                  refine wpAnyE_ready (rs := [7]) (by kernel_rfl) (by simp) (AllReadyE.cons rfl (fun K hK => ?_) AllReadyE.nil)
                  go_simp
                  refine (add_walk _ _ (qq * xt) rr _ (by first | exact Vp7.out | exact Vp7.out.below (below_new _ _) | exact (Vp7.out.below (below_new _ _)).below ((Below.refl _ _).drew)) (by first | exact Br.out.2 | exact Br.out.2.below (below_new _ _) | exact (Br.out.2.below (below_new _ _)).below ((Below.refl _ _).drew)) ((LQ.out.mul Lt.out).l1 (by decide)) ((LR.out).l1 (by decide))).mono ?_
                  rintro e w77 ⟨vq7, rfl, hvq7, hb⟩
                  obtain ⟨sq7, Aq7, lq7, cq7, rfl⟩ := hvq7.shape
                  have Vq7 := Lib.hid hvq7
                  clear hvq7
                  replace Bs := Lib.hid (Bs.out.below hb)
                  replace Bt := Lib.hid (Bt.out.below hb)
                  replace Bu := Lib.hid (Bu.out.below hb)
                  replace Bleft := Lib.hid (Bleft.out.below hb)
                  replace Bright := Lib.hid (Bright.out.below hb)
                  replace Bx := Lib.hid (Bx.out.below hb)
                  replace By := Lib.hid (By.out.below hb)
                  replace Bq := Lib.hid (Bq.out.below hb)
                  replace Br := Lib.hid (Br.out.below hb)
                  replace Vp7 := Lib.hid (Vp7.out.below hb)
                  replace HB := Lib.hid (HB.out.trans (hb.mono HB.out.size))
                  replace HT := Lib.hid (HT.out.below hb)
                  replace HRG := Lib.hid (HRG.out.trans (hb.mono HRG.out.size))
                  clear hb
                  clear hh
                  have hh := KS.out _ HRG.out
                  refine hK.out _ _ (fun _ => hh) ?_
                  clear hK K
                  refine wpAnyE_ready (rs := [9]) (by kernel_rfl) (by simp) (AllReadyE.cons rfl (fun K hK => ?_) AllReadyE.nil)
                  go_simp
                  refine (compare_walk _ _ (qq * xt + rr) xs _ (by first | exact Vq7.out | exact Vq7.out.below (below_new _ _) | exact (Vq7.out.below (below_new _ _)).below ((Below.refl _ _).drew)) (by first | exact Bs.out.2 | exact Bs.out.2.below (below_new _ _) | exact (Bs.out.2.below (below_new _ _)).below ((Below.refl _ _).drew)) (((LQ.out.mul Lt.out).add (LR.out.mono (by decide))).l1 (by decide)) ((Ls.out).l1 (by decide))).mono ?_
                  rintro e w78 ⟨rfl, hb⟩
                  rw [cmpI_eq HQR.out.1]
                  replace Bs := Lib.hid (Bs.out.below hb)
                  replace Bt := Lib.hid (Bt.out.below hb)
                  replace Bu := Lib.hid (Bu.out.below hb)
                  replace Bleft := Lib.hid (Bleft.out.below hb)
                  replace Bright := Lib.hid (Bright.out.below hb)
                  replace Bx := Lib.hid (Bx.out.below hb)
                  replace By := Lib.hid (By.out.below hb)
                  replace Bq := Lib.hid (Bq.out.below hb)
                  replace Br := Lib.hid (Br.out.below hb)
                  replace Vp7 := Lib.hid (Vp7.out.below hb)
                  replace Vq7 := Lib.hid (Vq7.out.below hb)
                  replace HB := Lib.hid (HB.out.trans (hb.mono HB.out.size))
                  replace HT := Lib.hid (HT.out.below hb)
                  replace HRG := Lib.hid (HRG.out.trans (hb.mono HRG.out.size))
                  clear hb
                  clear hh
                  have hh := KS.out _ HRG.out
                  refine hK.out _ _ (fun _ => hh) ?_
                  clear hK K
                  refine wpAnyE_taked (i := 10) (v := ?_) (some 136) rfl (by rfl) (by kernel_rfl) (by kernel_rfl) (by kernel_rfl) (by kernel_rfl) (fun _ _ _ h => h) (Or.inl ⟨by rfl, ?_⟩) hh ?_
                  rotate_left
                  · (intro w' hSw; (try dsimp only at hSw); go_simp; try with_reducible rfl)
                  simp only [Act.put, List.setIfInBounds_toArray, List.set_cons_zero, List.set_cons_succ]
                  refine wpAnyE_taked (i := 11) (v := ?_) (some 137) rfl (by rfl) (by kernel_rfl) (by kernel_rfl) (by kernel_rfl) (by kernel_rfl) (fun _ _ _ h => h) (Or.inl ⟨by rfl, ?_⟩) hh ?_
                  rotate_left
                  · (intro w' hSw; (try dsimp only at hSw); go_simp; try with_reducible rfl)
                  simp only [Act.put, List.setIfInBounds_toArray, List.set_cons_zero, List.set_cons_succ]
                  refine wpAnyE_taked (i := 12) (v := ?_) (some 138) rfl (by rfl) (by kernel_rfl) (by kernel_rfl) (by kernel_rfl) (by kernel_rfl) (fun _ _ _ h => h) (Or.inl ⟨by rfl, ?_⟩) hh ?_
                  rotate_left
                  · (intro w' hSw; (try dsimp only at hSw); go_simp; try with_reducible rfl)
                  simp only [Act.put, List.setIfInBounds_toArray, List.set_cons_zero, List.set_cons_succ]
                  refine wpAnyE_taked (i := 13) (v := ?_) (some 139) rfl (by rfl) (by kernel_rfl) (by kernel_rfl) (by kernel_rfl) (by kernel_rfl) (fun _ _ _ h => h) (Or.inl ⟨by rfl, ?_⟩) hh ?_
                  rotate_left
                  · (intro w' hSw; (try dsimp only at hSw); go_simp; try with_reducible rfl)
                  simp only [Act.put, List.setIfInBounds_toArray, List.set_cons_zero, List.set_cons_succ]
                  refine wpAnyE_taked (i := 15) (v := ?_) (some 141) rfl (by rfl) (by kernel_rfl) (by kernel_rfl) (by kernel_rfl) (by kernel_rfl) (fun _ _ _ h => h) (Or.inl ⟨by rfl, ?_⟩) hh ?_
                  rotate_left
                  · (intro w' hSw; (try dsimp only at hSw); go_simp; try with_reducible rfl)
                  simp only [Act.put, List.setIfInBounds_toArray, List.set_cons_zero, List.set_cons_succ]
                  refine wpAnyE_ready (rs := [14]) (by kernel_rfl) (by simp) (AllReadyE.cons rfl (fun K hK => ?_) AllReadyE.nil)
                  go_simp
                  refine (abs_walk _ rr _ (by first | exact Br.out.2 | exact Br.out.2.below (below_new _ _) | exact (Br.out.2.below (below_new _ _)).below ((Below.refl _ _).drew))).mono ?_
                  rintro e w79 ⟨va7, rfl, hva7, hb⟩
                  obtain ⟨sa7, Aa7, la7, ca7, rfl⟩ := hva7.shape
                  have Va7 := Lib.hid hva7
                  clear hva7
                  replace Bs := Lib.hid (Bs.out.below hb)
                  replace Bt := Lib.hid (Bt.out.below hb)
                  replace Bu := Lib.hid (Bu.out.below hb)
                  replace Bleft := Lib.hid (Bleft.out.below hb)
                  replace Bright := Lib.hid (Bright.out.below hb)
                  replace Bx := Lib.hid (Bx.out.below hb)
                  replace By := Lib.hid (By.out.below hb)
                  replace Bq := Lib.hid (Bq.out.below hb)
                  replace Br := Lib.hid (Br.out.below hb)
                  replace Vp7 := Lib.hid (Vp7.out.below hb)
                  replace Vq7 := Lib.hid (Vq7.out.below hb)
                  replace HB := Lib.hid (HB.out.trans (hb.mono HB.out.size))
                  replace HT := Lib.hid (HT.out.below hb)
                  replace HRG := Lib.hid (HRG.out.trans (hb.mono HRG.out.size))
                  clear hb
                  clear hh
                  have hh := KS.out _ HRG.out
                  refine hK.out _ _ (fun _ => hh) ?_
                  clear hK K
                  refine wpAnyE_ready (rs := [16]) (by kernel_rfl) (by simp) (AllReadyE.cons rfl (fun K hK => ?_) AllReadyE.nil)
                  go_simp
                  refine (abs_walk _ xt _ (by first | exact Bt.out.2 | exact Bt.out.2.below (below_new _ _) | exact (Bt.out.2.below (below_new _ _)).below ((Below.refl _ _).drew))).mono ?_
                  rintro e w80 ⟨vb7, rfl, hvb7, hb⟩
                  obtain ⟨sb7, Ab7, lb7, cb7, rfl⟩ := hvb7.shape
                  have Vb7 := Lib.hid hvb7
                  clear hvb7
                  replace Bs := Lib.hid (Bs.out.below hb)
                  replace Bt := Lib.hid (Bt.out.below hb)
                  replace Bu := Lib.hid (Bu.out.below hb)
                  replace Bleft := Lib.hid (Bleft.out.below hb)
                  replace Bright := Lib.hid (Bright.out.below hb)
                  replace Bx := Lib.hid (Bx.out.below hb)
                  replace By := Lib.hid (By.out.below hb)
                  replace Bq := Lib.hid (Bq.out.below hb)
                  replace Br := Lib.hid (Br.out.below hb)
                  replace Vp7 := Lib.hid (Vp7.out.below hb)
                  replace Vq7 := Lib.hid (Vq7.out.below hb)
                  replace Va7 := Lib.hid (Va7.out.below hb)
                  replace HB := Lib.hid (HB.out.trans (hb.mono HB.out.size))
                  replace HT := Lib.hid (HT.out.below hb)
                  replace HRG := Lib.hid (HRG.out.trans (hb.mono HRG.out.size))
                  clear hb
                  clear hh
                  have hh := KS.out _ HRG.out
                  refine hK.out _ _ (fun _ => hh) ?_
                  clear hK K
                  refine wpAnyE_ready (rs := [17]) (by kernel_rfl) (by simp) (AllReadyE.cons rfl (fun K hK => ?_) AllReadyE.nil)
                  go_simp
                  refine (compare_walk _ _ (rr.natAbs : Nat) (xt.natAbs : Nat) _ (by first | exact Va7.out | exact Va7.out.below (below_new _ _) | exact (Va7.out.below (below_new _ _)).below ((Below.refl _ _).drew)) (by first | exact Vb7.out | exact Vb7.out.below (below_new _ _) | exact (Vb7.out.below (below_new _ _)).below ((Below.refl _ _).drew)) ((LR.out.abs).l1 (by decide)) ((Lt.out.abs).l1 (by decide))).mono ?_
                  rintro e w81 ⟨rfl, hb⟩
                  rw [cmpI_lt HQR.out.2.1]
                  replace Bs := Lib.hid (Bs.out.below hb)
                  replace Bt := Lib.hid (Bt.out.below hb)
                  replace Bu := Lib.hid (Bu.out.below hb)
                  replace Bleft := Lib.hid (Bleft.out.below hb)
                  replace Bright := Lib.hid (Bright.out.below hb)
                  replace Bx := Lib.hid (Bx.out.below hb)
                  replace By := Lib.hid (By.out.below hb)
                  replace Bq := Lib.hid (Bq.out.below hb)
                  replace Br := Lib.hid (Br.out.below hb)
                  replace Vp7 := Lib.hid (Vp7.out.below hb)
                  replace Vq7 := Lib.hid (Vq7.out.below hb)
                  replace Va7 := Lib.hid (Va7.out.below hb)
                  replace Vb7 := Lib.hid (Vb7.out.below hb)
                  replace HB := Lib.hid (HB.out.trans (hb.mono HB.out.size))
                  replace HT := Lib.hid (HT.out.below hb)
                  replace HRG := Lib.hid (HRG.out.trans (hb.mono HRG.out.size))
                  clear hb
                  clear hh
                  have hh := KS.out _ HRG.out
                  refine hK.out _ _ (fun _ => hh) ?_
                  clear hK K
                  refine wpAnyE_taked (i := 18) (v := ?_) (some 144) rfl (by rfl) (by kernel_rfl) (by kernel_rfl) (by kernel_rfl) (by kernel_rfl) (fun _ _ _ h => h) (Or.inl ⟨by rfl, ?_⟩) hh ?_
                  rotate_left
                  · (intro w' hSw; (try dsimp only at hSw); go_simp; try with_reducible rfl)
                  simp only [Act.put, List.setIfInBounds_toArray, List.set_cons_zero, List.set_cons_succ]
                  refine wpAnyE_taked (i := 19) (v := ?_) (some 145) rfl (by rfl) (by kernel_rfl) (by kernel_rfl) (by kernel_rfl) (by kernel_rfl) (fun _ _ _ h => h) (Or.inl ⟨by rfl, ?_⟩) hh ?_
                  rotate_left
                  · (intro w' hSw; (try dsimp only at hSw); go_simp; try with_reducible rfl)
                  simp only [Act.put, List.setIfInBounds_toArray, List.set_cons_zero, List.set_cons_succ]
                  refine wpAnyE_taked (i := 20) (v := ?_) (some 146) rfl (by rfl) (by kernel_rfl) (by kernel_rfl) (by kernel_rfl) (by kernel_rfl) (fun _ _ _ h => h) (Or.inl ⟨by rfl, ?_⟩) hh ?_
                  rotate_left
                  · (intro w' hSw; (try dsimp only at hSw); go_simp; try with_reducible rfl)
                  simp only [Act.put, List.setIfInBounds_toArray, List.set_cons_zero, List.set_cons_succ]
                  refine wpAnyE_taked (i := 21) (v := ?_) (some 147) rfl (by rfl) (by kernel_rfl) (by kernel_rfl) (by kernel_rfl) (by kernel_rfl) (fun _ _ _ h => h) (Or.inl ⟨by rfl, ?_⟩) hh ?_
                  rotate_left
                  · (intro w' hSw; (try dsimp only at hSw); go_simp; try with_reducible rfl)
                  simp only [Act.put, List.setIfInBounds_toArray, List.set_cons_zero, List.set_cons_succ]
                  refine wpAnyE_taked (i := 23) (v := ?_) (some 149) rfl (by rfl) (by kernel_rfl) (by kernel_rfl) (by kernel_rfl) (by kernel_rfl) (fun _ _ _ h => h) (Or.inl ⟨by rfl, ?_⟩) hh ?_
                  rotate_left
                  · (intro w' hSw; (try dsimp only at hSw); go_simp; try with_reducible rfl)
                  simp only [Act.put, List.setIfInBounds_toArray, List.set_cons_zero, List.set_cons_succ]
                  refine wpAnyE_ready (rs := [22]) (by kernel_rfl) (by simp) (AllReadyE.cons rfl (fun K hK => ?_) AllReadyE.nil)
                  go_simp
                  refine (sign_walk _ rr _ (by first | exact Br.out.2 | exact Br.out.2.below (below_new _ _) | exact (Br.out.2.below (below_new _ _)).below ((Below.refl _ _).drew))).mono ?_
                  rintro e w82 ⟨rfl, hb⟩
                  replace Bs := Lib.hid (Bs.out.below hb)
                  replace Bt := Lib.hid (Bt.out.below hb)
                  replace Bu := Lib.hid (Bu.out.below hb)
                  replace Bleft := Lib.hid (Bleft.out.below hb)
                  replace Bright := Lib.hid (Bright.out.below hb)
                  replace Bx := Lib.hid (Bx.out.below hb)
                  replace By := Lib.hid (By.out.below hb)
                  replace Bq := Lib.hid (Bq.out.below hb)
                  replace Br := Lib.hid (Br.out.below hb)
                  replace Vp7 := Lib.hid (Vp7.out.below hb)
                  replace Vq7 := Lib.hid (Vq7.out.below hb)
                  replace Va7 := Lib.hid (Va7.out.below hb)
                  replace Vb7 := Lib.hid (Vb7.out.below hb)
                  replace HB := Lib.hid (HB.out.trans (hb.mono HB.out.size))
                  replace HT := Lib.hid (HT.out.below hb)
                  replace HRG := Lib.hid (HRG.out.trans (hb.mono HRG.out.size))
                  clear hb
                  clear hh
                  have hh := KS.out _ HRG.out
                  refine hK.out _ _ (fun _ => hh) ?_
                  clear hK K
                  refine wpAnyE_ready (rs := [24]) (by kernel_rfl) (by simp) (AllReadyE.cons rfl (fun K hK => ?_) AllReadyE.nil)
                  go_simp
                  refine (sign_walk _ xt _ (by first | exact Bt.out.2 | exact Bt.out.2.below (below_new _ _) | exact (Bt.out.2.below (below_new _ _)).below ((Below.refl _ _).drew))).mono ?_
                  rintro e w83 ⟨rfl, hb⟩
                  replace Bs := Lib.hid (Bs.out.below hb)
                  replace Bt := Lib.hid (Bt.out.below hb)
                  replace Bu := Lib.hid (Bu.out.below hb)
                  replace Bleft := Lib.hid (Bleft.out.below hb)
                  replace Bright := Lib.hid (Bright.out.below hb)
                  replace Bx := Lib.hid (Bx.out.below hb)
                  replace By := Lib.hid (By.out.below hb)
                  replace Bq := Lib.hid (Bq.out.below hb)
                  replace Br := Lib.hid (Br.out.below hb)
                  replace Vp7 := Lib.hid (Vp7.out.below hb)
                  replace Vq7 := Lib.hid (Vq7.out.below hb)
                  replace Va7 := Lib.hid (Va7.out.below hb)
                  replace Vb7 := Lib.hid (Vb7.out.below hb)
                  replace HB := Lib.hid (HB.out.trans (hb.mono HB.out.size))
                  replace HT := Lib.hid (HT.out.below hb)
                  replace HRG := Lib.hid (HRG.out.trans (hb.mono HRG.out.size))
                  clear hb
                  clear hh
                  have hh := KS.out _ HRG.out
                  refine hK.out _ _ (fun _ => hh) ?_
                  clear hK K
                  refine wpAnyE_taked (i := 25) (v := .int .i64 pp) (some 151) rfl (by rfl) (by kernel_rfl) (by kernel_rfl) (by kernel_rfl) (by kernel_rfl) (fun _ _ _ h => h) (Or.inl ⟨by rfl, ?_⟩) hh ?_
                  · (intro w' hSw; clear hSw; go_simp; (try rw [HPP.out]); (try rw [IntWalk.i64_in pp (by have := HP0.out; omega)]))
                  simp only [Act.put, List.setIfInBounds_toArray, List.set_cons_zero, List.set_cons_succ]
                  refine wpAnyE_taked (i := 26) (v := .bool true) (some 152) rfl (by rfl) (by kernel_rfl) (by kernel_rfl) (by kernel_rfl) (by kernel_rfl) (fun _ _ _ h => h) (Or.inl ⟨by rfl, ?_⟩) hh ?_
                  · (intro w' hSw; clear hSw; go_simp; simp [HP0.out.1])
                  simp only [Act.put, List.setIfInBounds_toArray, List.set_cons_zero, List.set_cons_succ]
                  refine wpAnyE_taked (i := 27) (v := ?_) (some 153) rfl (by rfl) (by kernel_rfl) (by kernel_rfl) (by kernel_rfl) (by kernel_rfl) (fun _ _ _ h => h) (Or.inl ⟨by rfl, ?_⟩) hh ?_
                  rotate_left
                  · (intro w' hSw; (try dsimp only at hSw); go_simp; try with_reducible rfl)
                  simp only [Act.put, List.setIfInBounds_toArray, List.set_cons_zero, List.set_cons_succ]
                  refine wpAnyE_taked (i := 28) (v := ?_) (some 6) rfl (by rfl) (by kernel_rfl) (by kernel_rfl) (by kernel_rfl) (by kernel_rfl) (fun _ _ _ h => h) (Or.inl ⟨by rfl, ?_⟩) hh ?_
                  rotate_left
                  · (intro w' hSw; (try dsimp only at hSw); go_simp; try with_reducible rfl)
                  simp only [Act.put, List.setIfInBounds_toArray, List.set_cons_zero, List.set_cons_succ]
                  refine wpAnyE_done (by kernel_rfl) ?_ _
                  clear hh KS HRG
                  have k0Bs := Bs.out.c0
                  have k1Bs := Bs.out.c1
                  have k2Bs := Bs.out.1.lt
                  have k0Bt := Bt.out.c0
                  have k1Bt := Bt.out.c1
                  have k2Bt := Bt.out.1.lt
                  have k0Bu := Bu.out.c0
                  have k1Bu := Bu.out.c1
                  have k2Bu := Bu.out.1.lt
                  have k0Bleft := Bleft.out.c0
                  have k1Bleft := Bleft.out.c1
                  have k2Bleft := Bleft.out.1.lt
                  have k0Bright := Bright.out.c0
                  have k1Bright := Bright.out.c1
                  have k2Bright := Bright.out.1.lt
                  have k0Bx := Bx.out.c0
                  have k1Bx := Bx.out.c1
                  have k2Bx := Bx.out.1.lt
                  have k0By := By.out.c0
                  have k1By := By.out.c1
                  have k2By := By.out.1.lt
                  have k0Bq := Bq.out.c0
                  have k1Bq := Bq.out.c1
                  have k2Bq := Bq.out.1.lt
                  have k0Br := Br.out.c0
                  have k1Br := Br.out.c1
                  have k2Br := Br.out.1.lt
                  go_wp2_with fail
                  go_returns
                  exact ⟨rfl, HB.out⟩
      · have HNu := Lib.hid hu
        have HKs := Lib.hid hs
        have HKt := Lib.hid ht
        clear hs ht hu
        go_enter Tryd.func13, Tryd.ntmps13
        go_wp2_with fail
        refine (known_walk _ HT.out).mono ?_
        rintro e w1 ⟨rfl, hb1⟩
        replace HB := Lib.hid (HB.out.trans (hb1.mono HB.out.size))
        replace HT := Lib.hid (HT.out.below hb1)
        clear hb1
        go_wp2_with fail
        refine (right_yes s _ HKs.out).mono ?_
        rintro e w2 ⟨rfl, rfl⟩
        go_wp2_with fail
        refine (right_yes t _ HKt.out).mono ?_
        rintro e w3 ⟨rfl, rfl⟩
        go_wp2_with fail
        refine (right_no u _ HNu.out hzu).mono ?_
        rintro e w4 ⟨rfl, rfl⟩
        go_wp2_with fail
        refine (known_walk _ HT.out).mono ?_
        rintro e w5 ⟨rfl, hb5⟩
        replace HB := Lib.hid (HB.out.trans (hb5.mono HB.out.size))
        replace HT := Lib.hid (HT.out.below hb5)
        clear hb5
        go_wp2_with fail
        go_returns
        exact ⟨rfl, HB.out⟩
    · have HNt := Lib.hid ht
      have HKs := Lib.hid hs
      clear hs ht
      go_enter Tryd.func13, Tryd.ntmps13
      go_wp2_with fail
      refine (known_walk _ HT.out).mono ?_
      rintro e w1 ⟨rfl, hb1⟩
      replace HB := Lib.hid (HB.out.trans (hb1.mono HB.out.size))
      replace HT := Lib.hid (HT.out.below hb1)
      clear hb1
      go_wp2_with fail
      refine (right_yes s _ HKs.out).mono ?_
      rintro e w2 ⟨rfl, rfl⟩
      go_wp2_with fail
      refine (right_no t _ HNt.out hzt).mono ?_
      rintro e w3 ⟨rfl, rfl⟩
      go_wp2_with fail
      refine (known_walk _ HT.out).mono ?_
      rintro e w4 ⟨rfl, hb4⟩
      replace HB := Lib.hid (HB.out.trans (hb4.mono HB.out.size))
      replace HT := Lib.hid (HT.out.below hb4)
      clear hb4
      go_wp2_with fail
      go_returns
      exact ⟨rfl, HB.out⟩
  · have HNs := Lib.hid hs
    clear hs
    go_enter Tryd.func13, Tryd.ntmps13
    go_wp2_with fail
    refine (known_walk _ HT.out).mono ?_
    rintro e w1 ⟨rfl, hb1⟩
    replace HB := Lib.hid (HB.out.trans (hb1.mono HB.out.size))
    replace HT := Lib.hid (HT.out.below hb1)
    clear hb1
    go_wp2_with fail
    refine (right_no s _ HNs.out hzs).mono ?_
    rintro e w2 ⟨rfl, rfl⟩
    go_wp2_with fail
    refine (known_walk _ HT.out).mono ?_
    rintro e w3 ⟨rfl, hb3⟩
    replace HB := Lib.hid (HB.out.trans (hb3.mono HB.out.size))
    replace HT := Lib.hid (HT.out.below hb3)
    clear hb3
    go_wp2_with fail
    go_returns
    exact ⟨rfl, HB.out⟩
end Go.Proofs.YtjeaemoiafamaaaDoor
