/- IntegerGcds: the law holds at every two strings. -/
import Derived.Test.YtjeaemoiafamaaaDoorPkE
namespace Go.Proofs.YtjeaemoiafamaaaDoor
open Go.RowKit

theorem gcd_lim {n : Nat} {a b : Int} (h : n = Nat.gcd a.natAbs b.natAbs) (ha : Lim 60 a) (hb : Lim 60 b) : Lim 60 (n : Nat) := by
  subst h
  rcases Nat.eq_zero_or_pos a.natAbs with h0 | h0
  · rw [h0, Nat.gcd_zero_left]; exact hb.abs
  · exact ha.le (by rw [Int.natAbs_natCast]; exact Nat.gcd_le_left _ h0)
theorem gcd_mod_l {n : Nat} {a b : Int} (h : n = Nat.gcd a.natAbs b.natAbs) : Int.fmod a (n : Nat) = 0 := by
  subst h
  rw [Int.fmod_eq_emod_of_nonneg _ (Int.natCast_nonneg _)]
  exact Int.emod_eq_zero_of_dvd (Int.ofNat_dvd_left.2 (Nat.gcd_dvd_left _ _))
theorem gcd_mod_r {n : Nat} {a b : Int} (h : n = Nat.gcd a.natAbs b.natAbs) : Int.fmod b (n : Nat) = 0 := by
  subst h
  rw [Int.fmod_eq_emod_of_nonneg _ (Int.natCast_nonneg _)]
  exact Int.emod_eq_zero_of_dvd (Int.ofNat_dvd_left.2 (Nat.gcd_dvd_right _ _))
theorem gcd_quot {n : Nat} {a b : Int} (h : n = Nat.gcd a.natAbs b.natAbs) (hn : ((n : Nat) : Int) ≠ 0) : ((Nat.gcd (Int.fdiv a (n : Nat)).natAbs (Int.fdiv b (n : Nat)).natAbs : Nat) : Int) = 1 := by
  have e : ∀ c : Int, (n : Int) ∣ c → (Int.fdiv c (n : Nat)).natAbs = c.natAbs / n := by
    intro c hc
    rw [Int.fdiv_eq_ediv_of_nonneg _ (Int.natCast_nonneg _), Int.natAbs_ediv_of_dvd hc, Int.natAbs_natCast]
  have h1 : (n : Int) ∣ a := by rw [h]; exact Int.ofNat_dvd_left.2 (Nat.gcd_dvd_left _ _)
  have h2 : (n : Int) ∣ b := by rw [h]; exact Int.ofNat_dvd_left.2 (Nat.gcd_dvd_right _ _)
  rw [e a h1, e b h2, Nat.gcd_div (by rw [h]; exact Nat.gcd_dvd_left _ _) (by rw [h]; exact Nat.gcd_dvd_right _ _), ← h, Nat.div_self (by omega)]
  rfl

set_option maxHeartbeats 3200000 in
theorem Gcds_law (s t : ByteArray) (w : World) (ht : Tab w) (hzs : s.size ≤ 9223372036854775807) (hzt : t.size ≤ 9223372036854775807) :
    Calls Tryd.prog 7 #[.string s, .string t] w fun e w' => e = .returned (.bool true) ∧ Below w.heap.size w w' := by
  have HT := Lib.hid ht
  have HB : Hid (Below w.heap.size w w) := Lib.hid (Below.refl _ _)
  clear ht
  by_cases hs : okS s
  · skip
    by_cases ht : okS t
    · skip
      obtain ⟨xs, hts, _, _⟩ := chk_ok hs.2
      have hxs : s = txt xs := by apply ByteArray.ext; apply Array.toList_inj.1; rw [hts, txt_list]
      have Ls := Lib.hid (lim_text hxs hs.1)
      have HXs := Lib.hid hxs
      have HKs := Lib.hid hs
      clear hts hxs hs
      obtain ⟨xt, htt, _, _⟩ := chk_ok ht.2
      have hxt : t = txt xt := by apply ByteArray.ext; apply Array.toList_inj.1; rw [htt, txt_list]
      have Lt := Lib.hid (lim_text hxt ht.1)
      have HXt := Lib.hid hxt
      have HKt := Lib.hid ht
      clear htt hxt ht
      go_enter Tryd.func7, Tryd.ntmps7
      go_wp2_with fail
      refine (known_walk _ HT.out).mono ?_
      rintro e w1 ⟨rfl, hb1⟩
      replace HB := Lib.hid (HB.out.trans (hb1.mono HB.out.size))
      replace HT := Lib.hid (HT.out.below hb1)
      clear hb1
      go_wp2_with fail
      refine (right_yes s _ HKs.out).mono ?_
      rintro e w2 ⟨rfl, rfl⟩
      go_wp2_with fail
      refine (right_yes t _ HKt.out).mono ?_
      rintro e w3 ⟨rfl, rfl⟩
      by_cases hsz : ¬ (s.size ≤ 60 ∧ t.size ≤ 60)
      · have HSZ := Lib.hid hsz
        clear hsz
        by_cases h1 : 60 < s.size
        · have h60 : (60 : Int) < ((s.size : Nat) : Int) := by omega
          clear h1
          go_wp2_with fail
          refine (known_walk _ HT.out).mono ?_
          rintro e w4 ⟨rfl, hb4⟩
          replace HB := Lib.hid (HB.out.trans (hb4.mono HB.out.size))
          replace HT := Lib.hid (HT.out.below hb4)
          clear hb4
          go_wp2_with fail
          go_returns
          exact ⟨rfl, HB.out⟩
        · have h60 : ((s.size : Nat) : Int) ≤ 60 := by omega
          have h60d : decide ((60 : Int) < ((s.size : Nat) : Int)) = false := decide_eq_false (by omega)
          have h61 : (60 : Int) < ((t.size : Nat) : Int) := by have := HSZ.out; omega
          clear h1
          go_wp2_with fail
          refine (known_walk _ HT.out).mono ?_
          rintro e w4 ⟨rfl, hb4⟩
          replace HB := Lib.hid (HB.out.trans (hb4.mono HB.out.size))
          replace HT := Lib.hid (HT.out.below hb4)
          clear hb4
          go_wp2_with fail
          go_returns
          exact ⟨rfl, HB.out⟩
      · replace hsz : s.size ≤ 60 ∧ t.size ≤ 60 := by omega
        replace Ls := Lib.hid (lim_text HXs.out hsz.1)
        replace Lt := Lib.hid (lim_text HXt.out hsz.2)
        have hs6 : ((s.size : Nat) : Int) ≤ 60 := by omega
        have ht6 : ((t.size : Nat) : Int) ≤ 60 := by omega
        have hs6d : decide ((60 : Int) < ((s.size : Nat) : Int)) = false := decide_eq_false (by omega)
        have ht6d : decide ((60 : Int) < ((t.size : Nat) : Int)) = false := decide_eq_false (by omega)
        clear hsz
        go_wp2_with fail
        clear hs6 ht6 hs6d ht6d
        have hxs := HXs.out
        subst hxs
        have hxt := HXt.out
        subst hxt
        refine (read_ok _ xs _ HKs.out rfl).mono ?_
        rintro e w4 ⟨vs, rfl, hvs, hb4⟩
        obtain ⟨ss, As, ls, cs, rfl⟩ := hvs.shape
        have Vs := Lib.hid hvs
        clear hvs
        replace HB := Lib.hid (HB.out.trans (hb4.mono HB.out.size))
        replace HT := Lib.hid (HT.out.below hb4)
        clear hb4
        have Bs := Lib.hid (Box.made Vs.out)
        have hn5 := below_new w4 (.cells #[.bool ss, .slice As ls cs] 25)
        replace HB := Lib.hid (HB.out.trans (hn5.mono HB.out.size))
        replace HT := Lib.hid (HT.out.below hn5)
        obtain ⟨w5, hw5⟩ : ∃ w5, w5 = w4.alloc (.cells #[.bool ss, .slice As ls cs] 25) := ⟨_, rfl⟩
        rw [← hw5] at Bs HB HT
        clear hn5 Vs
        go_wp2_with fail
        rw [← hw5]
        clear hw5
        refine (read_ok _ xt _ HKt.out rfl).mono ?_
        rintro e w6 ⟨vt, rfl, hvt, hb6⟩
        obtain ⟨st, At, lt, ct, rfl⟩ := hvt.shape
        have Vt := Lib.hid hvt
        clear hvt
        replace Bs := Lib.hid (Bs.out.below hb6)
        replace HB := Lib.hid (HB.out.trans (hb6.mono HB.out.size))
        replace HT := Lib.hid (HT.out.below hb6)
        clear hb6
        have k0Bs := Bs.out.c0
        have k1Bs := Bs.out.c1
        have k2Bs := Bs.out.1.lt
        have Bt := Lib.hid (Box.made Vt.out)
        have hn7 := below_new w6 (.cells #[.bool st, .slice At lt ct] 25)
        replace Bs := Lib.hid (Bs.out.below hn7)
        replace HB := Lib.hid (HB.out.trans (hn7.mono HB.out.size))
        replace HT := Lib.hid (HT.out.below hn7)
        obtain ⟨w7, hw7⟩ : ∃ w7, w7 = w6.alloc (.cells #[.bool st, .slice At lt ct] 25) := ⟨_, rfl⟩
        rw [← hw7] at Bs Bt HB HT
        clear hn7 Vt
        obtain ⟨gn, hgn⟩ : ∃ gn, gn = Nat.gcd xs.natAbs xt.natAbs := ⟨_, rfl⟩
        have HGN := Lib.hid hgn
        clear hgn
        have hgc := fun va vb W h1 h2 => gcd_walk va vb xs xt W h1 h2 (Ls.out.l1 (by decide)) (Lt.out.l1 (by decide))
        have hgd := fun va vb W h1 h2 => gcd_walk va vb xt xs W h1 h2 (Lt.out.l1 (by decide)) (Ls.out.l1 (by decide))
        have hrg := fun W => rgcd_walk xs xt W (Ls.out.few (by decide)) (Lt.out.few (by decide))
        simp only [Nat.gcd_comm xt.natAbs xs.natAbs] at hgd
        simp only [← HGN.out] at hgc hgd hrg
        have HGC := Lib.hid hgc
        have HGD := Lib.hid hgd
        have HRGC := Lib.hid hrg
        clear hgc hgd hrg
        have LG : Hid (Lim 60 (gn : Nat)) := Lib.hid (gcd_lim HGN.out Ls.out Lt.out)
        go_wp2_with fail
        rw [← hw7]
        clear hw7
        clear k0Bs k1Bs k2Bs
        refine (HGC.out _ _ _ Bs.out.2 Bt.out.2).mono ?_
        rintro e w8 ⟨vg, rfl, hvg, hb8⟩
        obtain ⟨sg, Ag, lg, cg, rfl⟩ := hvg.shape
        have Vg := Lib.hid hvg
        clear hvg
        replace Bs := Lib.hid (Bs.out.below hb8)
        replace Bt := Lib.hid (Bt.out.below hb8)
        replace HB := Lib.hid (HB.out.trans (hb8.mono HB.out.size))
        replace HT := Lib.hid (HT.out.below hb8)
        clear hb8
        have k0Bs := Bs.out.c0
        have k1Bs := Bs.out.c1
        have k2Bs := Bs.out.1.lt
        have k0Bt := Bt.out.c0
        have k1Bt := Bt.out.c1
        have k2Bt := Bt.out.1.lt
        have Bg := Lib.hid (Box.made Vg.out)
        have hn9 := below_new w8 (.cells #[.bool sg, .slice Ag lg cg] 25)
        replace Bs := Lib.hid (Bs.out.below hn9)
        replace Bt := Lib.hid (Bt.out.below hn9)
        replace HB := Lib.hid (HB.out.trans (hn9.mono HB.out.size))
        replace HT := Lib.hid (HT.out.below hn9)
        obtain ⟨w9, hw9⟩ : ∃ w9, w9 = w8.alloc (.cells #[.bool sg, .slice Ag lg cg] 25) := ⟨_, rfl⟩
        rw [← hw9] at Bs Bt Bg HB HT
        clear hn9 Vg
        go_wp2_with fail
        rw [← hw9]
        clear hw9
        clear k0Bs k1Bs k2Bs k0Bt k1Bt k2Bt
        have HRG : Hid (Below w9.heap.size w9 w9) := Lib.hid (Below.refl _ _)
        have g0Bs := Bs.out.c0
        have g1Bs := Bs.out.c1
        have glBs := Bs.out.1.lt
        have g0Bt := Bt.out.c0
        have g1Bt := Bt.out.c1
        have glBt := Bt.out.1.lt
        have g0Bg := Bg.out.c0
        have g1Bg := Bg.out.c1
        have glBg := Bg.out.1.lt
        have KS : Hid (∀ w', Below w9.heap.size w9 w' → (w'.cell? ⟨w4.heap.size, 0, none⟩ = some (.bool ss) ∧ w'.cell? ⟨w4.heap.size, 1, none⟩ = some (.slice As ls cs) ∧ w'.cell? ⟨w6.heap.size, 0, none⟩ = some (.bool st) ∧ w'.cell? ⟨w6.heap.size, 1, none⟩ = some (.slice At lt ct) ∧ w'.cell? ⟨w8.heap.size, 0, none⟩ = some (.bool sg) ∧ w'.cell? ⟨w8.heap.size, 1, none⟩ = some (.slice Ag lg cg))) := Lib.hid (fun w' hb => ⟨((bbelow hb).1 w4.heap.size 0 glBs).trans g0Bs, ((bbelow hb).1 w4.heap.size 1 glBs).trans g1Bs, ((bbelow hb).1 w6.heap.size 0 glBt).trans g0Bt, ((bbelow hb).1 w6.heap.size 1 glBt).trans g1Bt, ((bbelow hb).1 w8.heap.size 0 glBg).trans g0Bg, ((bbelow hb).1 w8.heap.size 1 glBg).trans g1Bg⟩)
        have tok0 : True := trivial
        have tok1 : True := trivial
        have tok2 : True := trivial
        have tok3 : True := trivial
        have tok4 : True := trivial
        go_region_held3 (fun w' => w'.cell? ⟨w4.heap.size, 0, none⟩ = some (.bool ss) ∧ w'.cell? ⟨w4.heap.size, 1, none⟩ = some (.slice As ls cs) ∧ w'.cell? ⟨w6.heap.size, 0, none⟩ = some (.bool st) ∧ w'.cell? ⟨w6.heap.size, 1, none⟩ = some (.slice At lt ct) ∧ w'.cell? ⟨w8.heap.size, 0, none⟩ = some (.bool sg) ∧ w'.cell? ⟨w8.heap.size, 1, none⟩ = some (.slice Ag lg cg))
          (first | (with_reducible exact ⟨g0Bs, g1Bs, g0Bt, g1Bt, g0Bg, g1Bg⟩) | (with_reducible exact KS.out _ HRG.out) | go_keep)
          (first
            | (go_at_call 17
               have _t := tok0
               refine (text_lim _ (gn : Nat) 61 _ (by exact Bg.out.2) (LG.out.mono (by decide)) (by decide) (by exact HT.out)).mono ?_
               rintro e w10 ⟨rfl, hb10⟩
               have hb10 : Below w9.heap.size w9 w10 := by first | exact hb10 | exact (Below.refl _ _).drew.trans hb10 | exact (below_drewN _ _ _).trans hb10
               replace Bs := Lib.hid (Bs.out.below hb10)
               replace Bt := Lib.hid (Bt.out.below hb10)
               replace Bg := Lib.hid (Bg.out.below hb10)
               replace HB := Lib.hid (HB.out.trans (hb10.mono HB.out.size))
               replace HT := Lib.hid (HT.out.below hb10)
               replace HRG := Lib.hid (HRG.out.trans (hb10.mono HRG.out.size))
               clear hb10 tok0 _t)
            | (go_at_call 30
               have _t := tok1
               refine (HRGC.out _).mono ?_
               rintro e w11 ⟨rfl, hb11⟩
               have hb11 : Below w10.heap.size w10 w11 := by first | exact hb11 | exact (Below.refl _ _).drew.trans hb11 | exact (below_drewN _ _ _).trans hb11
               replace Bs := Lib.hid (Bs.out.below hb11)
               replace Bt := Lib.hid (Bt.out.below hb11)
               replace Bg := Lib.hid (Bg.out.below hb11)
               replace HB := Lib.hid (HB.out.trans (hb11.mono HB.out.size))
               replace HT := Lib.hid (HT.out.below hb11)
               replace HRG := Lib.hid (HRG.out.trans (hb11.mono HRG.out.size))
               clear hb11 tok1 _t)
            | (go_at_call 29
               have _t := tok2
               refine (HGD.out _ _ _ (by exact Bt.out.2) (by exact Bs.out.2)).mono ?_
               rintro e w12 ⟨vd, rfl, hvd, hb12⟩
               have hb12 : Below w11.heap.size w11 w12 := by first | exact hb12 | exact (Below.refl _ _).drew.trans hb12 | exact (below_drewN _ _ _).trans hb12
               have Vd := Lib.hid hvd
               replace Bs := Lib.hid (Bs.out.below hb12)
               replace Bt := Lib.hid (Bt.out.below hb12)
               replace Bg := Lib.hid (Bg.out.below hb12)
               replace HB := Lib.hid (HB.out.trans (hb12.mono HB.out.size))
               replace HT := Lib.hid (HT.out.below hb12)
               replace HRG := Lib.hid (HRG.out.trans (hb12.mono HRG.out.size))
               clear hb12 tok2 _t hvd)
            | (go_at_call 17
               have _t := tok3
               refine (text_lim _ (gn : Nat) 61 _ (by exact Vd.out) (LG.out.mono (by decide)) (by decide) (by exact HT.out)).mono ?_
               rintro e w13 ⟨rfl, hb13⟩
               have hb13 : Below w12.heap.size w12 w13 := by first | exact hb13 | exact (Below.refl _ _).drew.trans hb13 | exact (below_drewN _ _ _).trans hb13
               replace Bs := Lib.hid (Bs.out.below hb13)
               replace Bt := Lib.hid (Bt.out.below hb13)
               replace Bg := Lib.hid (Bg.out.below hb13)
               replace Vd := Lib.hid (Vd.out.below hb13)
               replace HB := Lib.hid (HB.out.trans (hb13.mono HB.out.size))
               replace HT := Lib.hid (HT.out.below hb13)
               replace HRG := Lib.hid (HRG.out.trans (hb13.mono HRG.out.size))
               clear hb13 tok3 _t)
            | (go_at_call 17
               have _t := tok4
               refine (text_lim _ (gn : Nat) 61 _ (by exact Bg.out.2) (LG.out.mono (by decide)) (by decide) (by exact HT.out)).mono ?_
               rintro e w14 ⟨rfl, hb14⟩
               have hb14 : Below w13.heap.size w13 w14 := by first | exact hb14 | exact (Below.refl _ _).drew.trans hb14 | exact (below_drewN _ _ _).trans hb14
               replace Bs := Lib.hid (Bs.out.below hb14)
               replace Bt := Lib.hid (Bt.out.below hb14)
               replace Bg := Lib.hid (Bg.out.below hb14)
               replace Vd := Lib.hid (Vd.out.below hb14)
               replace HB := Lib.hid (HB.out.trans (hb14.mono HB.out.size))
               replace HT := Lib.hid (HT.out.below hb14)
               replace HRG := Lib.hid (HRG.out.trans (hb14.mono HRG.out.size))
               clear hb14 tok4 _t))
        clear g0Bs g1Bs glBs g0Bt g1Bt glBt g0Bg g1Bg glBg KS HRG
        have k0Bs := Bs.out.c0
        have k1Bs := Bs.out.c1
        have k2Bs := Bs.out.1.lt
        have k0Bt := Bt.out.c0
        have k1Bt := Bt.out.c1
        have k2Bt := Bt.out.1.lt
        have k0Bg := Bg.out.c0
        have k1Bg := Bg.out.c1
        have k2Bg := Bg.out.1.lt
        go_wp2_with fail
        clear k0Bs k1Bs k2Bs k0Bt k1Bt k2Bt k0Bg k1Bg k2Bg
        refine (sign_walk _ (gn : Nat) _ Bg.out.2).mono ?_
        rintro e w15 ⟨rfl, hb15⟩
        replace Bs := Lib.hid (Bs.out.below hb15)
        replace Bt := Lib.hid (Bt.out.below hb15)
        replace Bg := Lib.hid (Bg.out.below hb15)
        replace Vd := Lib.hid (Vd.out.below hb15)
        replace HB := Lib.hid (HB.out.trans (hb15.mono HB.out.size))
        replace HT := Lib.hid (HT.out.below hb15)
        clear hb15
        have k0Bs := Bs.out.c0
        have k1Bs := Bs.out.c1
        have k2Bs := Bs.out.1.lt
        have k0Bt := Bt.out.c0
        have k1Bt := Bt.out.c1
        have k2Bt := Bt.out.1.lt
        have k0Bg := Bg.out.c0
        have k1Bg := Bg.out.c1
        have k2Bg := Bg.out.1.lt
        by_cases hz : gn = 0
        · have hxs0 : xs = 0 := by have := HGN.out; rw [hz] at this; have := Nat.eq_zero_of_gcd_eq_zero_left this.symm; omega
          have hxt0 : xt = 0 := by have := HGN.out; rw [hz] at this; have := Nat.eq_zero_of_gcd_eq_zero_right this.symm; omega
          subst hxs0
          subst hxt0
          subst hz
          have h48d : (txt (0 : Int)).toList = [48] := by rw [txt_zero, ByteArray.toList_eq]
          have h48c : ((txt (0 : Int)).toList == [48]) = true := by rw [h48d]; rfl
          have hsg : (sgI ((0 : Nat) : Int) == 0) = true := rfl
          go_wp2_with fail
          go_returns
          exact ⟨rfl, HB.out⟩
        · have hgi : ((gn : Nat) : Int) ≠ 0 := by omega
          have hsg : (sgI ((gn : Nat) : Int) == 0) = false := sgI_ne hgi
          have HGI := Lib.hid hgi
          clear hgi hz
          go_wp2_with fail
          clear k0Bs k1Bs k2Bs k0Bt k1Bt k2Bt k0Bg k1Bg k2Bg
          refine (divmod_walk _ _ xs (gn : Nat) _ Bs.out.2 Bg.out.2 (Ls.out.l1 (by decide)) (LG.out.l2 (by decide)) HGI.out).mono ?_
          rintro e w16 ⟨vx, vp, rfl, hvx, hvp, hb16⟩
          obtain ⟨sx, Ax, lx, cx, rfl⟩ := hvx.shape
          have Vx := Lib.hid hvx
          clear hvx
          obtain ⟨sp, Ap, lp, cp, rfl⟩ := hvp.shape
          have Vp := Lib.hid hvp
          clear hvp
          replace Bs := Lib.hid (Bs.out.below hb16)
          replace Bt := Lib.hid (Bt.out.below hb16)
          replace Bg := Lib.hid (Bg.out.below hb16)
          replace Vd := Lib.hid (Vd.out.below hb16)
          replace HB := Lib.hid (HB.out.trans (hb16.mono HB.out.size))
          replace HT := Lib.hid (HT.out.below hb16)
          clear hb16
          have k0Bs := Bs.out.c0
          have k1Bs := Bs.out.c1
          have k2Bs := Bs.out.1.lt
          have k0Bt := Bt.out.c0
          have k1Bt := Bt.out.c1
          have k2Bt := Bt.out.1.lt
          have k0Bg := Bg.out.c0
          have k1Bg := Bg.out.c1
          have k2Bg := Bg.out.1.lt
          have Bx := Lib.hid (Box.made Vx.out)
          have hn17 := below_new w16 (.cells #[.bool sx, .slice Ax lx cx] 25)
          have Bp := Lib.hid (Box.made (Vp.out.below hn17))
          have ho17 := below_new (w16.alloc (.cells #[.bool sx, .slice Ax lx cx] 25)) (.cells #[.bool sp, .slice Ap lp cp] 25)
          replace Bx := Lib.hid (Bx.out.below ho17)
          replace Bs := Lib.hid ((Bs.out.below hn17).below ho17)
          replace Bt := Lib.hid ((Bt.out.below hn17).below ho17)
          replace Bg := Lib.hid ((Bg.out.below hn17).below ho17)
          replace Vd := Lib.hid ((Vd.out.below hn17).below ho17)
          replace HB := Lib.hid ((HB.out.trans (hn17.mono HB.out.size)).trans (ho17.mono (Nat.le_trans HB.out.size hn17.size)))
          replace HT := Lib.hid ((HT.out.below hn17).below ho17)
          rw [show (w16.alloc (.cells #[.bool sx, .slice Ax lx cx] 25)).heap.size = w16.heap.size + 1 from size_alloc _ _] at Bp
          obtain ⟨w17, hw17⟩ : ∃ w17, w17 = (w16.alloc (.cells #[.bool sx, .slice Ax lx cx] 25)).alloc (.cells #[.bool sp, .slice Ap lp cp] 25) := ⟨_, rfl⟩
          rw [← hw17] at Bs Bt Bg Vd Bx Bp HB HT
          clear hn17 ho17 Vx Vp
          go_wp2_with fail
          rw [← hw17]
          clear hw17
          clear k0Bs k1Bs k2Bs k0Bt k1Bt k2Bt k0Bg k1Bg k2Bg
          refine (divmod_walk _ _ xt (gn : Nat) _ Bt.out.2 Bg.out.2 (Lt.out.l1 (by decide)) (LG.out.l2 (by decide)) HGI.out).mono ?_
          rintro e w18 ⟨vy, vq, rfl, hvy, hvq, hb18⟩
          obtain ⟨sy, Ay, ly, cy, rfl⟩ := hvy.shape
          have Vy := Lib.hid hvy
          clear hvy
          obtain ⟨sq, Aq, lq, cq, rfl⟩ := hvq.shape
          have Vq := Lib.hid hvq
          clear hvq
          replace Bs := Lib.hid (Bs.out.below hb18)
          replace Bt := Lib.hid (Bt.out.below hb18)
          replace Bg := Lib.hid (Bg.out.below hb18)
          replace Vd := Lib.hid (Vd.out.below hb18)
          replace Bx := Lib.hid (Bx.out.below hb18)
          replace Bp := Lib.hid (Bp.out.below hb18)
          replace HB := Lib.hid (HB.out.trans (hb18.mono HB.out.size))
          replace HT := Lib.hid (HT.out.below hb18)
          clear hb18
          have k0Bs := Bs.out.c0
          have k1Bs := Bs.out.c1
          have k2Bs := Bs.out.1.lt
          have k0Bt := Bt.out.c0
          have k1Bt := Bt.out.c1
          have k2Bt := Bt.out.1.lt
          have k0Bg := Bg.out.c0
          have k1Bg := Bg.out.c1
          have k2Bg := Bg.out.1.lt
          have k0Bx := Bx.out.c0
          have k1Bx := Bx.out.c1
          have k2Bx := Bx.out.1.lt
          have k0Bp := Bp.out.c0
          have k1Bp := Bp.out.c1
          have k2Bp := Bp.out.1.lt
          have By := Lib.hid (Box.made Vy.out)
          have hn19 := below_new w18 (.cells #[.bool sy, .slice Ay ly cy] 25)
          have Bq := Lib.hid (Box.made (Vq.out.below hn19))
          have ho19 := below_new (w18.alloc (.cells #[.bool sy, .slice Ay ly cy] 25)) (.cells #[.bool sq, .slice Aq lq cq] 25)
          replace By := Lib.hid (By.out.below ho19)
          replace Bs := Lib.hid ((Bs.out.below hn19).below ho19)
          replace Bt := Lib.hid ((Bt.out.below hn19).below ho19)
          replace Bg := Lib.hid ((Bg.out.below hn19).below ho19)
          replace Vd := Lib.hid ((Vd.out.below hn19).below ho19)
          replace Bx := Lib.hid ((Bx.out.below hn19).below ho19)
          replace Bp := Lib.hid ((Bp.out.below hn19).below ho19)
          replace HB := Lib.hid ((HB.out.trans (hn19.mono HB.out.size)).trans (ho19.mono (Nat.le_trans HB.out.size hn19.size)))
          replace HT := Lib.hid ((HT.out.below hn19).below ho19)
          rw [show (w18.alloc (.cells #[.bool sy, .slice Ay ly cy] 25)).heap.size = w18.heap.size + 1 from size_alloc _ _] at Bq
          obtain ⟨w19, hw19⟩ : ∃ w19, w19 = (w18.alloc (.cells #[.bool sy, .slice Ay ly cy] 25)).alloc (.cells #[.bool sq, .slice Aq lq cq] 25) := ⟨_, rfl⟩
          rw [← hw19] at Bs Bt Bg Vd Bx Bp By Bq HB HT
          clear hn19 ho19 Vy Vq
          have hps : Int.fmod xs (gn : Nat) = 0 := gcd_mod_l HGN.out
          have hqs : Int.fmod xt (gn : Nat) = 0 := gcd_mod_r HGN.out
          have HPS := Lib.hid hps
          have HQS := Lib.hid hqs
          clear hps hqs
          go_wp2_with fail
          rw [← hw19]
          clear hw19
          clear k0Bs k1Bs k2Bs k0Bt k1Bt k2Bt k0Bg k1Bg k2Bg k0Bx k1Bx k2Bx k0Bp k1Bp k2Bp
          refine (sign_walk _ _ _ Bp.out.2).mono ?_
          rintro e w20 ⟨rfl, hb20⟩
          rw [HPS.out, show sgI 0 = 0 from rfl]
          replace Bs := Lib.hid (Bs.out.below hb20)
          replace Bt := Lib.hid (Bt.out.below hb20)
          replace Bg := Lib.hid (Bg.out.below hb20)
          replace Vd := Lib.hid (Vd.out.below hb20)
          replace Bx := Lib.hid (Bx.out.below hb20)
          replace Bp := Lib.hid (Bp.out.below hb20)
          replace By := Lib.hid (By.out.below hb20)
          replace Bq := Lib.hid (Bq.out.below hb20)
          replace HB := Lib.hid (HB.out.trans (hb20.mono HB.out.size))
          replace HT := Lib.hid (HT.out.below hb20)
          clear hb20
          have k0Bs := Bs.out.c0
          have k1Bs := Bs.out.c1
          have k2Bs := Bs.out.1.lt
          have k0Bt := Bt.out.c0
          have k1Bt := Bt.out.c1
          have k2Bt := Bt.out.1.lt
          have k0Bg := Bg.out.c0
          have k1Bg := Bg.out.c1
          have k2Bg := Bg.out.1.lt
          have k0Bx := Bx.out.c0
          have k1Bx := Bx.out.c1
          have k2Bx := Bx.out.1.lt
          have k0Bp := Bp.out.c0
          have k1Bp := Bp.out.c1
          have k2Bp := Bp.out.1.lt
          have k0By := By.out.c0
          have k1By := By.out.c1
          have k2By := By.out.1.lt
          have k0Bq := Bq.out.c0
          have k1Bq := Bq.out.c1
          have k2Bq := Bq.out.1.lt
          go_wp2_with fail
          clear k0Bs k1Bs k2Bs k0Bt k1Bt k2Bt k0Bg k1Bg k2Bg k0Bx k1Bx k2Bx k0Bp k1Bp k2Bp k0By k1By k2By k0Bq k1Bq k2Bq
          refine (sign_walk _ _ _ Bq.out.2).mono ?_
          rintro e w21 ⟨rfl, hb21⟩
          rw [HQS.out, show sgI 0 = 0 from rfl]
          replace Bs := Lib.hid (Bs.out.below hb21)
          replace Bt := Lib.hid (Bt.out.below hb21)
          replace Bg := Lib.hid (Bg.out.below hb21)
          replace Vd := Lib.hid (Vd.out.below hb21)
          replace Bx := Lib.hid (Bx.out.below hb21)
          replace Bp := Lib.hid (Bp.out.below hb21)
          replace By := Lib.hid (By.out.below hb21)
          replace Bq := Lib.hid (Bq.out.below hb21)
          replace HB := Lib.hid (HB.out.trans (hb21.mono HB.out.size))
          replace HT := Lib.hid (HT.out.below hb21)
          clear hb21
          have k0Bs := Bs.out.c0
          have k1Bs := Bs.out.c1
          have k2Bs := Bs.out.1.lt
          have k0Bt := Bt.out.c0
          have k1Bt := Bt.out.c1
          have k2Bt := Bt.out.1.lt
          have k0Bg := Bg.out.c0
          have k1Bg := Bg.out.c1
          have k2Bg := Bg.out.1.lt
          have k0Bx := Bx.out.c0
          have k1Bx := Bx.out.c1
          have k2Bx := Bx.out.1.lt
          have k0Bp := Bp.out.c0
          have k1Bp := Bp.out.c1
          have k2Bp := Bp.out.1.lt
          have k0By := By.out.c0
          have k1By := By.out.c1
          have k2By := By.out.1.lt
          have k0Bq := Bq.out.c0
          have k1Bq := Bq.out.c1
          have k2Bq := Bq.out.1.lt
          go_wp2_with fail
          clear k0Bs k1Bs k2Bs k0Bt k1Bt k2Bt k0Bg k1Bg k2Bg k0Bx k1Bx k2Bx k0Bp k1Bp k2Bp k0By k1By k2By k0Bq k1Bq k2Bq
          refine (gcd_walk _ _ _ _ _ Bx.out.2 By.out.2 ((Ls.out.fdiv HGI.out).l1 (by decide)) ((Lt.out.fdiv HGI.out).l1 (by decide))).mono ?_
          rintro e w22 ⟨vo, rfl, hvo, hb22⟩
          obtain ⟨so, Ao, lo, co, rfl⟩ := hvo.shape
          have Vo := Lib.hid hvo
          clear hvo
          replace Bs := Lib.hid (Bs.out.below hb22)
          replace Bt := Lib.hid (Bt.out.below hb22)
          replace Bg := Lib.hid (Bg.out.below hb22)
          replace Vd := Lib.hid (Vd.out.below hb22)
          replace Bx := Lib.hid (Bx.out.below hb22)
          replace Bp := Lib.hid (Bp.out.below hb22)
          replace By := Lib.hid (By.out.below hb22)
          replace Bq := Lib.hid (Bq.out.below hb22)
          replace HB := Lib.hid (HB.out.trans (hb22.mono HB.out.size))
          replace HT := Lib.hid (HT.out.below hb22)
          clear hb22
          have k0Bs := Bs.out.c0
          have k1Bs := Bs.out.c1
          have k2Bs := Bs.out.1.lt
          have k0Bt := Bt.out.c0
          have k1Bt := Bt.out.c1
          have k2Bt := Bt.out.1.lt
          have k0Bg := Bg.out.c0
          have k1Bg := Bg.out.c1
          have k2Bg := Bg.out.1.lt
          have k0Bx := Bx.out.c0
          have k1Bx := Bx.out.c1
          have k2Bx := Bx.out.1.lt
          have k0Bp := Bp.out.c0
          have k1Bp := Bp.out.c1
          have k2Bp := Bp.out.1.lt
          have k0By := By.out.c0
          have k1By := By.out.c1
          have k2By := By.out.1.lt
          have k0Bq := Bq.out.c0
          have k1Bq := Bq.out.c1
          have k2Bq := Bq.out.1.lt
          have ho := Vo.out
          rw [gcd_quot HGN.out HGI.out] at ho
          replace Vo := Lib.hid ho
          clear ho
          go_wp2_with fail
          clear k0Bs k1Bs k2Bs k0Bt k1Bt k2Bt k0Bg k1Bg k2Bg k0Bx k1Bx k2Bx k0Bp k1Bp k2Bp k0By k1By k2By k0Bq k1Bq k2Bq
          refine (text_lim _ 1 10 _ Vo.out (lim_small (by decide)) (by decide) HT.out).mono ?_
          rintro e w23 ⟨rfl, hb23⟩
          rw [txt_1]
          replace Bs := Lib.hid (Bs.out.below hb23)
          replace Bt := Lib.hid (Bt.out.below hb23)
          replace Bg := Lib.hid (Bg.out.below hb23)
          replace Vd := Lib.hid (Vd.out.below hb23)
          replace Bx := Lib.hid (Bx.out.below hb23)
          replace Bp := Lib.hid (Bp.out.below hb23)
          replace By := Lib.hid (By.out.below hb23)
          replace Bq := Lib.hid (Bq.out.below hb23)
          replace Vo := Lib.hid (Vo.out.below hb23)
          replace HB := Lib.hid (HB.out.trans (hb23.mono HB.out.size))
          replace HT := Lib.hid (HT.out.below hb23)
          clear hb23
          have k0Bs := Bs.out.c0
          have k1Bs := Bs.out.c1
          have k2Bs := Bs.out.1.lt
          have k0Bt := Bt.out.c0
          have k1Bt := Bt.out.c1
          have k2Bt := Bt.out.1.lt
          have k0Bg := Bg.out.c0
          have k1Bg := Bg.out.c1
          have k2Bg := Bg.out.1.lt
          have k0Bx := Bx.out.c0
          have k1Bx := Bx.out.c1
          have k2Bx := Bx.out.1.lt
          have k0Bp := Bp.out.c0
          have k1Bp := Bp.out.c1
          have k2Bp := Bp.out.1.lt
          have k0By := By.out.c0
          have k1By := By.out.c1
          have k2By := By.out.1.lt
          have k0Bq := Bq.out.c0
          have k1Bq := Bq.out.c1
          have k2Bq := Bq.out.1.lt
          go_wp2_with fail
          go_returns
          exact ⟨rfl, HB.out⟩
    · have HNt := Lib.hid ht
      have HKs := Lib.hid hs
      clear hs ht
      go_enter Tryd.func7, Tryd.ntmps7
      go_wp2_with fail
      refine (known_walk _ HT.out).mono ?_
      rintro e w1 ⟨rfl, hb1⟩
      replace HB := Lib.hid (HB.out.trans (hb1.mono HB.out.size))
      replace HT := Lib.hid (HT.out.below hb1)
      clear hb1
      go_wp2_with fail
      refine (right_yes s _ HKs.out).mono ?_
      rintro e w2 ⟨rfl, rfl⟩
      go_wp2_with fail
      refine (right_no t _ HNt.out hzt).mono ?_
      rintro e w3 ⟨rfl, rfl⟩
      go_wp2_with fail
      refine (known_walk _ HT.out).mono ?_
      rintro e w4 ⟨rfl, hb4⟩
      replace HB := Lib.hid (HB.out.trans (hb4.mono HB.out.size))
      replace HT := Lib.hid (HT.out.below hb4)
      clear hb4
      go_wp2_with fail
      go_returns
      exact ⟨rfl, HB.out⟩
  · have HNs := Lib.hid hs
    clear hs
    go_enter Tryd.func7, Tryd.ntmps7
    go_wp2_with fail
    refine (known_walk _ HT.out).mono ?_
    rintro e w1 ⟨rfl, hb1⟩
    replace HB := Lib.hid (HB.out.trans (hb1.mono HB.out.size))
    replace HT := Lib.hid (HT.out.below hb1)
    clear hb1
    go_wp2_with fail
    refine (right_no s _ HNs.out hzs).mono ?_
    rintro e w2 ⟨rfl, rfl⟩
    go_wp2_with fail
    refine (known_walk _ HT.out).mono ?_
    rintro e w3 ⟨rfl, hb3⟩
    replace HB := Lib.hid (HB.out.trans (hb3.mono HB.out.size))
    replace HT := Lib.hid (HT.out.below hb3)
    clear hb3
    go_wp2_with fail
    go_returns
    exact ⟨rfl, HB.out⟩
end Go.Proofs.YtjeaemoiafamaaaDoor
