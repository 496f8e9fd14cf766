/- IntegerParses: the law holds at every string. -/
import Derived.Test.YtjeaemoiafamaaaDoorPkE
import Derived.Test.YtjeaemoiafamaaaDoorIntR
namespace Go.Proofs.YtjeaemoiafamaaaDoor
open Go.RowKit

theorem wp_at_make {P : Program} {d : Option Nat} {t0 t1 : TypeId} {l c : Operand} {p : String} {af : Array Edge} {g : Option (Nat × Bool)} {a : Act} {w : World} {K : Act → World → Prop} {Q : Exit → Act → World → Prop}
    (h : Oper.wp P { dst := d, op := Op.makeSlice t0 l c, type := t1, pos := p, after := af, guard := g } a w K Q) : Oper.wp P { dst := d, op := Op.makeSlice t0 l c, type := t1, pos := p, after := af, guard := g } a w K Q := h

theorem wp_mk {P : Program} (w : World) {o : Oper} {a : Act} {K : Act → World → Prop} {Q : Exit → Act → World → Prop}
    (l c : Operand) (t : TypeId) (hop : o.op = Op.makeSlice t l c)
    (e : TypeId) (i : TypeInfo) (z : Value) (h1 : P.underlying t = some (.slice e)) (h2 : P.info? e = some i) (h3 : i.zero = some z) (h4 : i.size = 1) (hz : z.cells = #[z])
    (L C : Int) (n : Nat) (hl : a.eval l = .int .i64 L) (hc : a.eval c = .int .i64 C) (hL : L = (n : Int)) (hC : C = (n : Int)) (b2 : i.bytes * n ≤ 281474976710656)
    (b3 : n ≤ maxLen)
    (hK : ∀ w', Row w' w.heap.size e (List.replicate n z) → Below w.heap.size w w' → w.heap.size < w'.heap.size → K (a.put o.dst (.slice (some ⟨w.heap.size, 0, none⟩) n n)) w') :
    Oper.wp P o a w K Q := by
  obtain ⟨w', hrun, r1, r2⟩ := run_make_full (P := P) w w.heap.size t e i z 1 h1 h2 h3 h4 .i64 .i64 n b2 b3 (Nat.le_refl _)
  subst hL
  subst hC
  unfold Oper.wp
  simp [execOp, hop, hl, hc, hrun, Result.andThen]
  rw [hz, Nat.mul_one] at r1
  have hr := Row.made r1
  exact hK w' hr ((Below.refl _ _).grown r2 (Nat.le_refl _) (by simp)) hr.lt

set_option maxRecDepth 100000 in
set_option maxHeartbeats 1600000 in
theorem Parses_law (s : ByteArray) (w : World) (ht : Tab w) (hzs : s.size ≤ 9223372036854775807) :
    Calls Tryd.prog 4 #[.string s] w fun e w' => e = .returned (.bool true) ∧ Below w.heap.size w w' := by
  obtain ⟨i0, hi0, hz0, hz1, hz2⟩ := info_parts info8
  have HT := Lib.hid ht
  have HB : Hid (Below w.heap.size w w) := Lib.hid (Below.refl _ _)
  clear ht
  by_cases hsz : ¬ s.size ≤ 200
  · have h2 : (200 : Int) < ((s.size : Nat) : Int) := by omega
    clear hsz
    go_enter Tryd.func4, Tryd.ntmps4
    go_wp2_with fail
    refine (known_walk _ HT.out).mono ?_
    rintro e w1 ⟨rfl, hb1⟩
    replace HB := Lib.hid (HB.out.trans (hb1.mono HB.out.size))
    replace HT := Lib.hid (HT.out.below hb1)
    clear hb1
    go_wp2_with fail
    refine (known_walk _ HT.out).mono ?_
    rintro e w2 ⟨rfl, hb2⟩
    replace HB := Lib.hid (HB.out.trans (hb2.mono HB.out.size))
    replace HT := Lib.hid (HT.out.below hb2)
    clear hb2
    go_wp2_with fail
    go_returns
    exact ⟨rfl, HB.out⟩
  · by_cases hc : chk s.data.toList = 0
    · have HC := Lib.hid hc
      obtain ⟨xs, hts, _, _⟩ := chk_ok hc
      have hxs : s = txt xs := by apply ByteArray.ext; apply Array.toList_inj.1; rw [hts, txt_list]
      have Ls := Lib.hid (lim_text hxs (show s.size ≤ 200 from by omega))
      have HSZ : Hid (s.size ≤ 200) := Lib.hid (by omega)
      have HP := Lib.hid (fun W => parse_ok s xs W (by omega) hxs hc)
      have hcs : chkS s = 0 := by unfold chkS; rw [if_neg (by omega)]; exact hc
      have hrc := fun W => rcheck_walk s W hzs
      rw [hcs] at hrc
      have HRC := Lib.hid hrc
      have HX := Lib.hid hxs
      have hs200 : ((s.size : Nat) : Int) ≤ 200 := by omega
      have hsd : decide ((200 : Int) < ((s.size : Nat) : Int)) = false := decide_eq_false (by omega)
      clear hc hts hxs hcs hrc hsz
      go_enter Tryd.func4, Tryd.ntmps4
      go_wp2_with fail
      refine (known_walk _ HT.out).mono ?_
      rintro e w1 ⟨rfl, hb1⟩
      replace HB := Lib.hid (HB.out.trans (hb1.mono HB.out.size))
      replace HT := Lib.hid (HT.out.below hb1)
      clear hb1
      go_wp2_with fail
      refine (HP.out _).mono ?_
      rintro e w2 ⟨va, rfl, hva, hb2⟩
      obtain ⟨sa, Aa, la, ca, rfl⟩ := hva.shape
      have Va := Lib.hid hva
      clear hva
      replace HB := Lib.hid (HB.out.trans (hb2.mono HB.out.size))
      replace HT := Lib.hid (HT.out.below hb2)
      clear hb2
      have Ba := Lib.hid (Box.made Va.out)
      have hn3 := below_new w2 (.cells #[.bool sa, .slice Aa la ca] 25)
      replace HB := Lib.hid (HB.out.trans (hn3.mono HB.out.size))
      replace HT := Lib.hid (HT.out.below hn3)
      obtain ⟨w3, hw3⟩ : ∃ w3, w3 = w2.alloc (.cells #[.bool sa, .slice Aa la ca] 25) := ⟨_, rfl⟩
      rw [← hw3] at Ba HB HT
      clear hn3 Va
      try simp only []
      try go_at_K
      iterate 25 (first | go_values | go_skip | go_guarded | go_step | go_upon)
      refine wp_mk _ _ _ _ rfl 5 i0 (.int .u8 0) Tryd.underlying37 hi0 hz0 hz1 rfl _ _ 65537 rfl rfl (by omega) (by omega) (by rw [hz2]; omega) (by unfold maxLen; omega) ?_
      intro w4 hrow4 hb4 hs4
      have hpre := hrow4
      simp only [World.alloc, Array.size_push] at hpre
      rw [← hw3] at hb4 hs4
      clear hrow4
      have hrow4 := hpre
      clear hpre
      try clear hw3
      replace Ba := Lib.hid (Ba.out.below hb4)
      replace HB := Lib.hid (HB.out.trans (hb4.mono HB.out.size))
      replace HT := Lib.hid (HT.out.below hb4)
      have hconv := conv_zeros 65537 w4 _ hrow4
      clear hrow4 hb4 hs4
      obtain ⟨Z, hZ⟩ : ∃ Z, Z = zeros 65537 := ⟨_, rfl⟩
      have hZs : Z.size = 65537 := by rw [hZ]; exact zeros_size _
      rw [← hZ] at hconv
      have HZS := Lib.hid hZs
      clear hZ hZs
      have k0Ba := Ba.out.c0
      have k1Ba := Ba.out.c1
      have k2Ba := Ba.out.1.lt
      go_wp2_with fail
      clear k0Ba k1Ba k2Ba
      refine (parse_long Z _ (by rw [HZS.out]; decide) (by rw [HZS.out]; decide)).mono ?_
      rintro e w5 ⟨vf, rfl, hvf, hb5⟩
      obtain ⟨sf, Af, lf, cf, rfl⟩ := hvf.shape
      have Vf := Lib.hid hvf
      clear hvf
      replace Ba := Lib.hid (Ba.out.below hb5)
      replace HB := Lib.hid (HB.out.trans (hb5.mono HB.out.size))
      replace HT := Lib.hid (HT.out.below hb5)
      clear hb5
      have k0Ba := Ba.out.c0
      have k1Ba := Ba.out.c1
      have k2Ba := Ba.out.1.lt
      clear hconv
      have Bf := Lib.hid (Box.made Vf.out)
      have hn6 := below_new w5 (.cells #[.bool sf, .slice Af lf cf] 25)
      replace Ba := Lib.hid (Ba.out.below hn6)
      replace HB := Lib.hid (HB.out.trans (hn6.mono HB.out.size))
      replace HT := Lib.hid (HT.out.below hn6)
      obtain ⟨w6, hw6⟩ : ∃ w6, w6 = w5.alloc (.cells #[.bool sf, .slice Af lf cf] 25) := ⟨_, rfl⟩
      rw [← hw6] at Ba Bf HB HT
      clear hn6 Vf
      go_wp2_with fail
      rw [← hw6]
      clear hw6
      clear k0Ba k1Ba k2Ba
      refine (HRC.out _).mono ?_
      rintro e w7 ⟨rfl, rfl⟩
      have k0Ba := Ba.out.c0
      have k1Ba := Ba.out.c1
      have k2Ba := Ba.out.1.lt
      have k0Bf := Bf.out.c0
      have k1Bf := Bf.out.c1
      have k2Bf := Bf.out.1.lt
      go_wp2_with fail
      clear k0Ba k1Ba k2Ba k0Bf k1Bf k2Bf
      refine (text_lim _ xs 200 _ Ba.out.2 Ls.out (by decide) HT.out).mono ?_
      rintro e w8 ⟨rfl, hb8⟩
      rw [← HX.out]
      replace Ba := Lib.hid (Ba.out.below hb8)
      replace Bf := Lib.hid (Bf.out.below hb8)
      replace HB := Lib.hid (HB.out.trans (hb8.mono HB.out.size))
      replace HT := Lib.hid (HT.out.below hb8)
      clear hb8
      have k0Ba := Ba.out.c0
      have k1Ba := Ba.out.c1
      have k2Ba := Ba.out.1.lt
      have k0Bf := Bf.out.c0
      have k1Bf := Bf.out.c1
      have k2Bf := Bf.out.1.lt
      go_wp2_with fail
      go_returns
      exact ⟨rfl, HB.out⟩
    · have HP := Lib.hid (fun W => parse_err s W (by omega) hc)
      have hcs : chkS s = chk s.data.toList := by unfold chkS; rw [if_neg (by omega)]
      have hrc := fun W => rcheck_walk s W hzs
      rw [hcs] at hrc
      obtain ⟨c, hce⟩ : ∃ c : Nat, c = chk s.data.toList := ⟨_, rfl⟩
      rw [← hce] at hrc hc
      replace HP := HP.out
      rw [← hce] at HP
      replace HP := Lib.hid HP
      have HRC := Lib.hid hrc
      have hc0 : (((c : Nat) : Int) != 0) = true := by simp [hc]
      have hc0b : (((c : Nat) : Int) == 0) = false := by rw [beq_eq_false_iff_ne]; omega
      have hs200 : ((s.size : Nat) : Int) ≤ 200 := by omega
      have hsd : decide ((200 : Int) < ((s.size : Nat) : Int)) = false := decide_eq_false (by omega)
      clear hc hcs hrc hsz hce
      go_enter Tryd.func4, Tryd.ntmps4
      have h48d : (txt (0 : Int)).toList = [48] := by rw [txt_zero, ByteArray.toList_eq]
      have h48c : ((txt (0 : Int)).toList == [48]) = true := by rw [h48d]; rfl
      go_wp2_with fail
      refine (known_walk _ HT.out).mono ?_
      rintro e w1 ⟨rfl, hb1⟩
      replace HB := Lib.hid (HB.out.trans (hb1.mono HB.out.size))
      replace HT := Lib.hid (HT.out.below hb1)
      clear hb1
      go_wp2_with fail
      refine (HP.out _).mono ?_
      rintro e w2 ⟨va, rfl, hva, hb2⟩
      obtain ⟨sa, Aa, la, ca, rfl⟩ := hva.shape
      have Va := Lib.hid hva
      clear hva
      replace HB := Lib.hid (HB.out.trans (hb2.mono HB.out.size))
      replace HT := Lib.hid (HT.out.below hb2)
      clear hb2
      have Ba := Lib.hid (Box.made Va.out)
      have hn3 := below_new w2 (.cells #[.bool sa, .slice Aa la ca] 25)
      replace HB := Lib.hid (HB.out.trans (hn3.mono HB.out.size))
      replace HT := Lib.hid (HT.out.below hn3)
      obtain ⟨w3, hw3⟩ : ∃ w3, w3 = w2.alloc (.cells #[.bool sa, .slice Aa la ca] 25) := ⟨_, rfl⟩
      rw [← hw3] at Ba HB HT
      clear hn3 Va
      try simp only []
      try go_at_K
      iterate 25 (first | go_values | go_skip | go_guarded | go_step | go_upon)
      refine wp_mk _ _ _ _ rfl 5 i0 (.int .u8 0) Tryd.underlying37 hi0 hz0 hz1 rfl _ _ 65537 rfl rfl (by omega) (by omega) (by rw [hz2]; omega) (by unfold maxLen; omega) ?_
      intro w4 hrow4 hb4 hs4
      have hpre := hrow4
      simp only [World.alloc, Array.size_push] at hpre
      rw [← hw3] at hb4 hs4
      clear hrow4
      have hrow4 := hpre
      clear hpre
      try clear hw3
      replace Ba := Lib.hid (Ba.out.below hb4)
      replace HB := Lib.hid (HB.out.trans (hb4.mono HB.out.size))
      replace HT := Lib.hid (HT.out.below hb4)
      have hconv := conv_zeros 65537 w4 _ hrow4
      clear hrow4 hb4 hs4
      obtain ⟨Z, hZ⟩ : ∃ Z, Z = zeros 65537 := ⟨_, rfl⟩
      have hZs : Z.size = 65537 := by rw [hZ]; exact zeros_size _
      rw [← hZ] at hconv
      have HZS := Lib.hid hZs
      clear hZ hZs
      have k0Ba := Ba.out.c0
      have k1Ba := Ba.out.c1
      have k2Ba := Ba.out.1.lt
      go_wp2_with fail
      clear k0Ba k1Ba k2Ba
      refine (parse_long Z _ (by rw [HZS.out]; decide) (by rw [HZS.out]; decide)).mono ?_
      rintro e w5 ⟨vf, rfl, hvf, hb5⟩
      obtain ⟨sf, Af, lf, cf, rfl⟩ := hvf.shape
      have Vf := Lib.hid hvf
      clear hvf
      replace Ba := Lib.hid (Ba.out.below hb5)
      replace HB := Lib.hid (HB.out.trans (hb5.mono HB.out.size))
      replace HT := Lib.hid (HT.out.below hb5)
      clear hb5
      have k0Ba := Ba.out.c0
      have k1Ba := Ba.out.c1
      have k2Ba := Ba.out.1.lt
      clear hconv
      have Bf := Lib.hid (Box.made Vf.out)
      have hn6 := below_new w5 (.cells #[.bool sf, .slice Af lf cf] 25)
      replace Ba := Lib.hid (Ba.out.below hn6)
      replace HB := Lib.hid (HB.out.trans (hn6.mono HB.out.size))
      replace HT := Lib.hid (HT.out.below hn6)
      obtain ⟨w6, hw6⟩ : ∃ w6, w6 = w5.alloc (.cells #[.bool sf, .slice Af lf cf] 25) := ⟨_, rfl⟩
      rw [← hw6] at Ba Bf HB HT
      clear hn6 Vf
      go_wp2_with fail
      rw [← hw6]
      clear hw6
      clear k0Ba k1Ba k2Ba
      refine (HRC.out _).mono ?_
      rintro e w7 ⟨rfl, rfl⟩
      have k0Ba := Ba.out.c0
      have k1Ba := Ba.out.c1
      have k2Ba := Ba.out.1.lt
      have k0Bf := Bf.out.c0
      have k1Bf := Bf.out.c1
      have k2Bf := Bf.out.1.lt
      go_wp2_with fail
      clear k0Ba k1Ba k2Ba k0Bf k1Bf k2Bf
      refine (text_lim _ 0 10 _ Ba.out.2 (lim_small (by decide)) (by decide) HT.out).mono ?_
      rintro e w8 ⟨rfl, hb8⟩
      replace Ba := Lib.hid (Ba.out.below hb8)
      replace Bf := Lib.hid (Bf.out.below hb8)
      replace HB := Lib.hid (HB.out.trans (hb8.mono HB.out.size))
      replace HT := Lib.hid (HT.out.below hb8)
      clear hb8
      have k0Ba := Ba.out.c0
      have k1Ba := Ba.out.c1
      have k2Ba := Ba.out.1.lt
      have k0Bf := Bf.out.c0
      have k1Bf := Bf.out.c1
      have k2Bf := Bf.out.1.lt
      go_wp2_with fail
      go_returns
      exact ⟨rfl, HB.out⟩
end Go.Proofs.YtjeaemoiafamaaaDoor
