/- Texts of this proof, laid together: Lowered Digit Long Divide Held DivMod Gcd Power Bits Int Sum Text Parse Parsed. -/
import Derived.Test.YtjeaemoiafamaaaDoorPkB
import Derived.Test.YtjeaemoiafamaaaDoorShelf
import Derived.Test.YtjeaemoiafamaaaDoorPkA
import Derived.Deep.DeepCutAuto
import Derived.Lib.ItoaNum
import Derived.Deep.RegionHeld3
import Derived.Deep.LoopGhost
import Derived.BigQuiet
import Derived.Lib.QuoteBits
import Derived.Lib.AppendIntMem
import Derived.WalkKit
import Derived.Laws.IdiomCopy
import Derived.Deep.Upon
import Derived.Lib.EndianMore

/- integer.lowered: a magnitude divided by a power of 2. -/
namespace Go.Proofs.YtjeaemoiafamaaaDoor
open Go.RowKit

theorem lowered_walk (b off ca y : Nat) (l : List Nat) (w : World) (ha : U32 w (some ⟨b, off, none⟩) l) (hda : Dig l) (hla : l.length < 17592186044416) (hy : y < 32) :
    Calls Tryd.prog 82 #[.slice (some ⟨b, off, none⟩) l.length ca, .int .i64 (y : Nat)] w fun e w' => ∃ v, e = .returned v ∧ IsMag w' v (val l / 2 ^ y) ∧ Below w.heap.size w w' := by
  obtain ⟨i0, hi0, hz0, hz1, hz2⟩ := info_parts info32
  go_enter Tryd.func82, Tryd.ntmps82
  go_wp2_with fail
  refine (Tryd.slices_Clone i0 (.int .u32 0) 1 4 hi0 hz0 hz1 hz2 rfl (by omega) (fun w => by kernel_rfl) b off l.length ca (l.map (fun d => Value.int .u32 (d : Nat))) w (by simp) (by unfold maxLen; omega) (by omega) ?_ ?_).mono ?_
  · intro j u hu
    rw [List.getElem?_map] at hu
    rcases Nat.lt_or_ge j l.length with hj | hj
    · rcases ha with h0 | ⟨b', off', hA, hc, _⟩
      · omega
      · simp only [Option.some.injEq, Addr.mk.injEq, and_true] at hA
        obtain ⟨rfl, rfl⟩ := hA
        rw [hc j hj]
        simp only [dg_lt hj]
        simpa [hj] using hu
    · rw [List.getElem?_eq_none hj] at hu; simp at hu
  · intro u hu
    obtain ⟨_, _, rfl⟩ := List.mem_map.1 hu
    rfl
  rintro e w1 ⟨v1, rfl, hown, hne, hb1⟩
  obtain ⟨g, cap, rfl, -, hown⟩ := Own.of_owns hown hne
  have hown : Own32 w1 w.heap.size g cap l := hown
  have hglt := hown.lt
  obtain ⟨Q, hQ⟩ : ∃ Q, Q = 2 ^ y := ⟨_, rfl⟩
  obtain ⟨R, hR⟩ : ∃ R, R = 2 ^ (32 - y) := ⟨_, rfl⟩
  have hQR : Q * R = 4294967296 := by rw [hQ, hR, ← Nat.pow_add, show y + (32 - y) = 32 by omega]
  have hQ0 : 0 < Q := by rw [hQ]; exact Nat.two_pow_pos y
  have hQ1 : (2 : Int) ^ y = (Q : Nat) := by rw [hQ]; simp
  have HQ := Lib.hid hQ
  have HQR := Lib.hid hQR
  have HQ0 := Lib.hid hQ0
  have HR := Lib.hid hR
  have HOWN := Lib.hid hown
  have HB1 := Lib.hid hb1
  clear hQ hQR hQ0 hR hown hb1 hne
  go_wp2_with fail
  go_loopw [11] (fun iv wr => ∃ (k : Nat) (lo : List Nat), k ≤ l.length ∧ iv = .int .i64 k ∧ Own32 wr w.heap.size g cap lo ∧ Hid (lo.length = l.length) ∧ Dig lo ∧ Hid (∀ j, k ≤ j → dg lo j = dg l j) ∧ Hid (Q * val (lo.take k) + dg l 0 % Q = val (l.take k) + BB ^ k * (dg l k % Q)) ∧ Below w.heap.size w wr)
    (fun iv _ => l.length - (intOf iv).toNat)
  case atStart => exact ⟨0, l, Nat.zero_le _, rfl, HOWN.out, rfl, hda, fun _ _ => rfl, by show _ = _; simp [val], HB1.out⟩
  case round =>
    obtain ⟨k, lo, hk, rfl, hown, hlo, hdlo, hsame, hinv, hbw⟩ := hrel
    have HDLO := Lib.hid hdlo
    clear hdlo
    by_cases hkl : k < l.length
    · have hlo' := hlo.out
      have hg := hown.cell (j := k) (by omega)
      have hfr := hown.free k
      rw [hsame.out k (Nat.le_refl _)] at hg
      have hkk : ((k : Nat) : Int) < (l.length : Nat) := by omega
      have hbx : ((dg l k : Nat) : Int) < 4294967296 := by have := hda k; omega
      clear hlo'
      obtain ⟨a, haq⟩ : ∃ a, a = dg l k / Q := ⟨_, rfl⟩
      have ha1 : ((dg l k : Nat) : Int) / (Q : Nat) = (a : Nat) := by rw [haq]; simp
      have HAQ := Lib.hid haq
      clear haq
      by_cases hk1 : k + 1 < l.length
      · obtain ⟨b', off', hA, hbb, hcell⟩ := Cells.at_ ha (by omega)
        simp only [Option.some.injEq, Addr.mk.injEq, and_true] at hA
        obtain ⟨rfl, rfl⟩ := hA
        have hcx := ((bbelow hbw).1 b (off + (k + 1)) hbb).trans (hcell (k + 1) hk1)
        have hkk1 : ((k : Nat) : Int) + 1 < (l.length : Nat) := by omega
        have hbx1 : ((dg l (k + 1) : Nat) : Int) < 4294967296 := by have := hda (k + 1); omega
        obtain ⟨z, hz⟩ : ∃ z, z = dg l (k + 1) * 4294967296 / Q % 4294967296 := ⟨_, rfl⟩
        obtain ⟨z1, hz1⟩ : ∃ z, z = dg l (k + 1) * 4294967296 / Q := ⟨_, rfl⟩
        rw [← hz1] at hz
        have hzz : ((dg l (k + 1) : Nat) : Int) * 4294967296 / (Q : Nat) = (z1 : Nat) := by rw [hz1]; simp
        have hzz1 : ((z1 : Nat) : Int) % 4294967296 = (z : Nat) := by omega
        have HZ := Lib.hid hz
        have HZ1 := Lib.hid hz1
        have hd1 := lowered_digit (a := dg l k) (b := dg l (k + 1)) HQR.out HQ0.out
        have hd2 := lowered_lt (a := dg l k) (b := dg l (k + 1)) HQR.out HQ0.out (by omega)
        rw [← hz1, ← hz, ← HAQ.out] at hd1
        rw [← HAQ.out, ← hd1.1] at hd2
        have hor : bits .or .u32 ((a : Nat) : Int) ((z : Nat) : Int) = ((a + z : Nat) : Int) := by
          rw [bits_or_comm, or32 (32 - y) z a ?_ (by rw [← HR.out]; exact hd2.1) (by omega), Nat.add_comm]
          rw [← HR.out, hd1.1, Nat.mul_mod_right]
        have HD1 := Lib.hid hd1
        have HD2 := Lib.hid hd2
        clear hz hz1 hd1 hd2 hcell
        go_wp2_with fail
        go_region
        go_wp2_with fail
        go_roundw
        case rel =>
          have hset := (hown.set k a rfl).set k (a + z) (v := .int .u32 (((a : Nat) : Int) + (z : Nat))) (by simp)
          rw [List.set_set] at hset
          have hd1 := HD1.out
          have hd2 := HD2.out
          refine ⟨k + 1, lo.set k (a + z), by omega, by simp, hset, by show _ = _; rw [List.length_set]; exact hlo.out, HDLO.out.set _ _ (by omega), ?_, ?_, ?_⟩
          · intro j hj
            rw [dg_set, if_neg (by omega)]
            exact hsame.out j (by omega)
          · have := lowered_step (lo := lo) (l := l) (k := k) (Q := Q) (R := R) (b0 := dg l 0 % Q) (by rw [hlo.out]; exact hkl) HQR.out hinv.out
            rw [← hd1.1, ← HAQ.out] at this
            exact this
          · exact ((hbw.setCell (p := ⟨g, k, none⟩) hglt.1 _).drew).setCell (p := ⟨g, k, none⟩) hglt.1 _
        case measure => first | (simp [intOf]; done) | (simp [intOf]; omega)
      · have hkk1 : ¬ (((k : Nat) : Int) + 1 < (l.length : Nat)) := by omega
        go_wp2_with fail
        go_roundw
        case rel =>
          have hset := hown.set k a rfl
          have h0 : dg l (k + 1) = 0 := dg_ge (by omega)
          have hal := (lowered_lt (a := dg l k) (b := 0) HQR.out HQ0.out (by omega)).2
          rw [← HAQ.out, Nat.zero_mod, Nat.mul_zero, Nat.add_zero] at hal
          refine ⟨k + 1, lo.set k a, by omega, by simp, hset, by show _ = _; rw [List.length_set]; exact hlo.out, HDLO.out.set _ _ hal, ?_, ?_, hbw.setCell (p := ⟨g, k, none⟩) hglt.1 _⟩
          · intro j hj
            rw [dg_set, if_neg (by omega)]
            exact hsame.out j (by omega)
          · have := lowered_step (lo := lo) (l := l) (k := k) (Q := Q) (R := R) (b0 := dg l 0 % Q) (by rw [hlo.out]; exact hkl) HQR.out hinv.out
            rw [← HAQ.out, h0, Nat.zero_mod, Nat.mul_zero, Nat.add_zero] at this
            rw [h0, Nat.zero_mod]
            exact this
        case measure => first | (simp [intOf]; done) | (simp [intOf]; omega)
    · obtain rfl : k = l.length := by omega
      go_wp2_with fail
      have hv := lowered_end hlo.out HQ0.out hinv.out
      rw [HQ.out] at hv
      refine (trim_walk _ _ _ lo _ hlo.out.symm (by have := hown.le; rw [hlo.out] at this; exact this.1) hown.le.2 hown.u32 HDLO.out).mono ?_
      rintro e w2 ⟨rfl, hle2, rfl⟩
      have hle3 := hown.le
      have HV := Lib.hid hv
      clear hv
      go_wp2_with fail
      go_returns
      refine ⟨_, rfl, ⟨_, cap, by rw [← HV.out]; rfl, by rw [← HV.out]; omega, hle3.2, by rw [← HV.out]; exact hown.u32.trimmed HDLO.out⟩, hbw⟩

end Go.Proofs.YtjeaemoiafamaaaDoor

/- integer.digit: the next digit of a quotient (Knuth's division). -/
namespace Go.Proofs.YtjeaemoiafamaaaDoor
open Go.RowKit

set_option maxRecDepth 100000 in
set_option maxHeartbeats 1600000 in
theorem digit_walk (g i m cu cv bv offv : Nat) (lu lv : List Nat) (w : World) (hu : Row32 w g lu) (hdu : Dig lu) (hiu : i + m + 2 < lu.length) (hlu : lu.length < 17592186044416)
    (hv : U32 w (some ⟨bv, offv, none⟩) lv) (hlv : lv.length = m + 2) (hdv : Dig lv) (hne : bv ≠ g) (htop : 2147483648 ≤ dg lv (m + 1)) (hlt : sv lu i (m + 3) < BB * sv lv 0 (m + 2)) :
    Calls Tryd.prog 81 #[.slice (some ⟨g, i, none⟩) (m + 3) cu, .slice (some ⟨bv, offv, none⟩) (m + 2) cv] w fun e w' => e = .returned (.int .u32 (sv lu i (m + 3) / sv lv 0 (m + 2) : Nat)) ∧
      ∃ lo, Row32 w' g lo ∧ Dig lo ∧ lo.length = lu.length ∧ (∀ j, j < i ∨ i + m + 2 < j → dg lo j = dg lu j) ∧ sv lo i (m + 3) = sv lu i (m + 3) % sv lv 0 (m + 2) ∧ w.grownBy w' (some g) := by
  have hcv : ∀ j, j < m + 2 → w.cell? ⟨bv, offv + j, none⟩ = some (.int .u32 (dg lv j : Nat)) := by
    rcases hv with h0 | ⟨b', off', hA, hc, _⟩
    · omega
    · simp only [Option.some.injEq, Addr.mk.injEq, and_true] at hA
      obtain ⟨rfl, rfl⟩ := hA
      intro j hj
      exact hc j (by omega)
  have hcu : ∀ j, j < m + 3 → w.cell? ⟨g, i + j, none⟩ = some (.int .u32 (dg lu (i + j) : Nat)) := fun j hj => hu.cell (by omega)
  have hfu : ∀ j, w.frozen? ⟨g, i + j, none⟩ = false := fun j => hu.free _
  have u0 := hcu m (by omega)
  have u1 := hcu (m + 1) (by omega)
  have u2 := hcu (m + 2) (by omega)
  have v0 := hcv m (by omega)
  have v1 := hcv (m + 1) (by omega)
  have HCU := Lib.hid hcu
  have HCV := Lib.hid hcv
  have HFU := Lib.hid hfu
  clear hcu hcv hfu
  obtain ⟨x0, hx0⟩ : ∃ x, x = dg lu (i + m) := ⟨_, rfl⟩
  obtain ⟨x1, hx1⟩ : ∃ x, x = dg lu (i + (m + 1)) := ⟨_, rfl⟩
  obtain ⟨x2, hx2⟩ : ∃ x, x = dg lu (i + (m + 2)) := ⟨_, rfl⟩
  obtain ⟨y0, hy0⟩ : ∃ x, x = dg lv m := ⟨_, rfl⟩
  obtain ⟨y1, hy1⟩ : ∃ x, x = dg lv (m + 1) := ⟨_, rfl⟩
  rw [← hx0] at u0
  rw [← hx1] at u1
  rw [← hx2] at u2
  rw [← hy0] at v0
  rw [← hy1] at v1
  have bx0 : ((x0 : Nat) : Int) < 4294967296 := by have := hdu (i + m); omega
  have bx1 : ((x1 : Nat) : Int) < 4294967296 := by have := hdu (i + (m + 1)); omega
  have bx2 : ((x2 : Nat) : Int) < 4294967296 := by have := hdu (i + (m + 2)); omega
  have by0 : ((y0 : Nat) : Int) < 4294967296 := by have := hdv m; omega
  have by1 : ((y1 : Nat) : Int) < 4294967296 := by have := hdv (m + 1); omega
  have by2 : 2147483648 ≤ ((y1 : Nat) : Int) := by omega
  have HX0 := Lib.hid hx0
  have HX1 := Lib.hid hx1
  have HX2 := Lib.hid hx2
  have HY0 := Lib.hid hy0
  have HY1 := Lib.hid hy1
  have HLV := Lib.hid hlv
  have HLT := Lib.hid hlt
  have HDU := Lib.hid hdu
  have HDV := Lib.hid hdv
  have HU := Lib.hid hu
  obtain ⟨h, hh⟩ : ∃ h : Nat, h = x2 * 4294967296 + x1 := ⟨_, rfl⟩
  have hor := or_shl32 x2 x1 (by omega) (by omega)
  rw [← hh] at hor
  have hhb : ((h : Nat) : Int) ≤ 18446744073709551615 := by omega
  have ⟨hE, hV0⟩ := est_facts hdu hdv hx0 hx1 hx2 hy0 hy1 hh (by omega) hlt
  obtain ⟨D, hD⟩ : ∃ D, D = sv lu i (m + 3) / sv lv 0 (m + 2) := ⟨_, rfl⟩
  rw [← hD] at hE
  have HD := Lib.hid hD
  have HV0 := Lib.hid hV0
  have HE := Lib.hid hE
  clear hD hE hV0
  obtain ⟨q0, hq0⟩ : ∃ q : Nat, q = h / y1 := ⟨_, rfl⟩
  obtain ⟨r0, hr0⟩ : ∃ q : Nat, q = h % y1 := ⟨_, rfl⟩
  have hq1 : ((h : Nat) : Int) / (y1 : Nat) = (q0 : Nat) := by rw [hq0]; simp
  have hr1 : ((h : Nat) : Int) % (y1 : Nat) = (r0 : Nat) := by rw [hr0]; simp
  have hqb : ((q0 : Nat) : Int) ≤ 18446744073709551615 := by
    have := Nat.div_le_self h y1
    rw [← hq0] at this
    omega
  have HQ0 := Lib.hid hq0
  have HR0 := Lib.hid hr0
  clear hq0 hr0
  have HH := Lib.hid hh
  clear hx0 hx1 hx2 hy0 hy1 hlv hlt htop hdu hdv hv hh
  go_enter Tryd.func81, Tryd.ntmps81
  go_wp2_with fail
  go_quiet (fail)
  go_wp2_with fail
  go_quiet (fail)
  go_upto_block 0 with (fail)
  rw [hr1]
  go_cut [7, 8] (fun qv _ wx => ∃ q : Nat, qv = .int .u64 q ∧ ((q : Nat) : Int) < 4294967296 ∧ D ≤ q ∧ q ≤ D + 1 ∧ Drew w wx)
  case first =>
    go_wp2_with fail
    go_loopw [7, 8] (fun qv rv wx => ∃ q r : Nat, qv = .int .u64 q ∧ rv = .int .u64 r ∧ Hid (q * y1 + r = h) ∧ D ≤ q ∧ ((q : Nat) : Int) ≤ 18446744073709551615 ∧ ((r : Nat) : Int) < 8589934592 ∧ Drew w wx) (fun _ rv _ => 4294967296 - (intOf rv).toNat)
    case atStart =>
      refine ⟨q0, r0, rfl, rfl, ?_, ?_, hqb, ?_, ((Drew.mk w _).step _)⟩
      · rw [HQ0.out, HR0.out, Nat.mul_comm]; exact Nat.div_add_mod _ _
      · rw [HQ0.out]; exact HE.out.start
      · have := Nat.mod_lt h (show 0 < y1 by omega)
        rw [← HR0.out] at this
        omega
    case round =>
      obtain ⟨q, r, rfl, rfl, hqr, hDq, hqb, hrb, hdr⟩ := hrel
      obtain ⟨nd, hdr⟩ := hdr
      subst hdr
      by_cases hr : ((r : Nat) : Int) < 4294967296
      · by_cases hq : (4294967296 : Int) ≤ (q : Nat)
        · have hb := HE.out.big q (by omega)
          go_wp2_with fail
          go_quiet (fail)
          go_wp2_with fail
          go_roundw
          case rel => exact ⟨q - 1, r + y1, congrArg (Value.int .u64) (by omega), congrArg (Value.int .u64) (by omega), est_next (by omega) hqr, hb, by omega, by omega, Drew.mk _ _⟩
          case measure => first | (simp [intOf]; done) | (simp [intOf]; omega)
        · obtain ⟨p, hp⟩ : ∃ p : Nat, p = q * y0 := ⟨_, rfl⟩
          have hp1 : ((q : Nat) : Int) * ((y0 : Nat) : Int) = (p : Nat) := by rw [hp]; simp
          have hp2 : ((p : Nat) : Int) ≤ 18446744065119617025 := by
            have := Nat.mul_le_mul (show q ≤ 4294967295 by omega) (show y0 ≤ 4294967295 by omega)
            omega
          have hor2 := or_shl32 r x0 (by omega) (by omega)
          obtain ⟨z, hz⟩ : ∃ z : Nat, z = r * 4294967296 + x0 := ⟨_, rfl⟩
          rw [← hz] at hor2
          have hzb : ((z : Nat) : Int) ≤ 18446744073709551615 := by omega
          have HP := Lib.hid hp
          have HZ := Lib.hid hz
          have hq' : ((q : Nat) : Int) < 4294967296 := by omega
          have hdq : decide ((4294967296 : Int) ≤ (q : Nat)) = false := by simp [hq]
          clear hp hz hq
          by_cases ht : ((z : Nat) : Int) < ((p : Nat) : Int)
          · have ⟨hb, hqp⟩ := HE.out.down q r hqr.out (by rw [← HP.out, ← HZ.out]; omega)
            go_wp2_with fail
            go_quiet (fail)
            go_wp2_with fail
            go_roundw
            case rel => exact ⟨q - 1, r + y1, congrArg (Value.int .u64) (by omega), congrArg (Value.int .u64) (by omega), est_next hqp hqr, hb, by omega, by omega, Drew.mk _ _⟩
            case measure => first | (simp [intOf]; done) | (simp [intOf]; omega)
          · have hdt : decide (z < p) = false := decide_eq_false (by omega)
            go_wp2_with fail
            go_quiet (fail)
            have := HE.out.up q r hqr.out (by rw [← HP.out, ← HZ.out]; omega) (by omega)
            go_wp2_with fail
            go_meet
            exact ⟨q, rfl, hq', hDq, this, Drew.step ⟨_, rfl⟩ _⟩
      · have hd : decide (((r : Nat) : Int) < 4294967296) = false := by simp [hr]
        clear hr
        go_wp2_with fail
        go_quiet (fail)
        go_wp2_with fail
        go_meet
        have := HE.out.far q r hqr.out (by have := of_decide_eq_false hd; omega)
        exact ⟨q, rfl, by omega, hDq, this.2, Drew.step ⟨_, rfl⟩ _⟩
  case rest =>
    obtain ⟨q, rfl, hq32, hDq, hqD, hdr⟩ := hcut
    obtain ⟨nd, hdr⟩ := hdr
    subst hdr
    have w0 : Row32 (w.drewN nd) g lu := HU.out
    have wc := fun j hj => (HCV.out j hj)
    have wg : w.grownBy (w.drewN nd) (some g) := ⟨rfl, rfl, rfl, Nat.le_refl _, fun _ _ _ => rfl⟩
    obtain ⟨W, hW⟩ : ∃ W, W = w.drewN nd := ⟨_, rfl⟩
    rw [← hW] at w0 wg ⊢
    clear hW
    have WC := Lib.hid wc
    clear wc
    go_wp2_with fail
    go_loopw [9, 10, 86] (fun cv bv kv wr => ∃ (k c b : Nat) (lo : List Nat), k ≤ m + 2 ∧ cv = .int .u64 c ∧ bv = .int .i64 b ∧ kv = .int .i64 k ∧ Row32 wr g lo ∧ lo.length = lu.length ∧ Hid (Dig lo) ∧ b ≤ 1 ∧ ((c : Nat) : Int) < 4294967296 ∧
        Hid (sv lu i k + BB ^ k * (c + b) = sv lo i k + q * sv lv 0 k) ∧ Hid (∀ j, (j < i ∨ i + k ≤ j) → dg lo j = dg lu j) ∧ w.grownBy wr (some g))
      (fun _ _ kv _ => m + 2 - (intOf kv).toNat)
    case atStart => exact ⟨0, 0, 0, lu, Nat.zero_le _, rfl, rfl, rfl, w0, rfl, HDU, by omega, by omega, by show _ = _; simp [sv], by show ∀ _, _; exact fun _ _ => rfl, wg⟩
    case round =>
      obtain ⟨k, c, b, lo, hk, rfl, rfl, rfl, hrow, hlo, HDLO, hb1, hc, hinv, hsame, hgr⟩ := hrel
      have HGR := Lib.hid hgr
      clear hgr
      by_cases hkm : ((k : Nat) : Int) < (m : Nat) + 2
      · have hcy := (HGR.out.cell (WC.out k (by omega)) (by simp; exact hne))
        have hby : ((dg lv k : Nat) : Int) < 4294967296 := by have := HDV.out k; omega
        have hgo := hrow.cell (j := i + k) (by omega)
        have hfo := hrow.free (i + k)
        have hsk := hsame.out (i + k) (.inr (Nat.le_refl _))
        have hgb : ((dg lo (i + k) : Nat) : Int) < 4294967296 := by have := HDLO.out (i + k); omega
        have HSK := Lib.hid hsk
        clear hsk
        obtain ⟨p, hp⟩ : ∃ p : Nat, p = q * dg lv k := ⟨_, rfl⟩
        have hp1 : ((q : Nat) : Int) * ((dg lv k : Nat) : Int) = (p : Nat) := by rw [hp]; simp
        have hp2 : ((p : Nat) : Int) ≤ 18446744065119617025 := by
          have := Nat.mul_le_mul (show q ≤ 4294967295 by omega) (show dg lv k ≤ 4294967295 by omega)
          omega
        have HP := Lib.hid hp
        clear hp
        obtain ⟨s, hs⟩ : ∃ s : Nat, ((c : Nat) : Int) + ((p : Nat) : Int) = (s : Nat) := ⟨c + p, by simp⟩
        have hs2 : ((s : Nat) : Int) ≤ 18446744069414584320 := by omega
        obtain ⟨e, he⟩ : ∃ e : Nat, ((s : Nat) : Int) % 4294967296 = (e : Nat) := ⟨s % 4294967296, by simp⟩
        have he2 : ((e : Nat) : Int) < 4294967296 := by omega
        obtain ⟨n1, hn1⟩ : ∃ n : Int, ((dg lo (i + k) : Nat) : Int) - (b : Nat) = n := ⟨_, rfl⟩
        obtain ⟨n2, hn2⟩ : ∃ n : Int, n1 - ((e : Nat) : Int) = n := ⟨_, rfl⟩
        have hb1' : -4294967297 < n2 := by omega
        have hb2' : n2 < 4294967297 := by omega
        by_cases hneg : n2 < 0
        all_goals
          go_wp2_with fail
          go_roundw
          case rel =>
            have hst := mulsub_step (lo := lo) (l0 := lu) (lv := lv) (i := i) (j := k) (c := c) (b := b) (b' := if n2 < 0 then 1 else 0) (q := q) (x := (dg lo (i + k) + 4294967296 - b - e) % 4294967296) (s := s) (by omega) hinv (by rw [← HP.out]; omega)
              (by rw [← HSK.out]; split <;> omega)
            refine ⟨k + 1, s / 4294967296, if n2 < 0 then 1 else 0, lo.set (i + k) ((dg lo (i + k) + 4294967296 - b - e) % 4294967296), by omega, by simp, ?_, by simp, hrow.set (i + k) _ ?_, by rw [List.length_set]; exact hlo, Lib.hid (HDLO.out.set _ _ (Nat.mod_lt _ (by omega))), by split <;> omega, by omega, Lib.hid hst, ?_, grownBy_trans HGR.out (grownBy_set _ _ _ _)⟩
            · simp [hneg]
            · refine congrArg (Value.int .u32) ?_; omega
            · refine Lib.hid fun j hj => ?_
              rw [dg_set, if_neg (by omega)]
              exact hsame.out j (by omega)
          case measure => first | (simp [intOf]; done) | (simp [intOf]; omega)
      · obtain rfl : k = m + 2 := by omega
        have hgo := hrow.cell (j := i + (m + 2)) (by omega)
        have hfo := hrow.free (i + (m + 2))
        rw [hsame.out (i + (m + 2)) (.inr (Nat.le_refl _)), ← HX2.out] at hgo
        obtain ⟨n1, hn1⟩ : ∃ n : Int, ((x2 : Nat) : Int) - (b : Nat) = n := ⟨_, rfl⟩
        obtain ⟨n2, hn2⟩ : ∃ n : Int, n1 - ((c : Nat) : Int) = n := ⟨_, rfl⟩
        have hb1' : -4294967297 < n2 := by omega
        have hb2' : n2 < 4294967297 := by omega
        have hsk := hsame.out (i + (m + 2)) (.inr (Nat.le_refl _))
        rw [← HX2.out] at hsk
        have HSK := Lib.hid hsk
        clear hsk
        by_cases hneg : (0 : Int) ≤ n2
        · go_wp2_with fail
          go_returns
          obtain ⟨x, hx⟩ : ∃ x : Nat, n2 = (x : Nat) := ⟨n2.toNat, by omega⟩
          have hset := hrow.set (i + (m + 2)) x (v := .int .u32 n2) (by rw [hx])
          have hS := sub_step lo lu lv (i := i) (m := m + 2) (q := q) (x := x) (c := c) (b := b) (by omega) hinv (by rw [← HX2.out]; omega)
          have he := sub_end HV0.out hS (by rw [← HD.out]; exact hDq)
          have hq : ((q : Nat) : Int) = ((sv lu i (m + 3) : Nat) : Int) / ((sv lv 0 (m + 2) : Nat) : Int) := by rw [← Int.natCast_ediv]; exact congrArg _ he.1
          refine ⟨congrArg (fun z => Ending.returned (Value.int .u32 z)) hq, lo.set (i + (m + 2)) x, hset, HDLO.out.set _ _ (by omega), by rw [List.length_set]; exact hlo, ?_, he.2, grownBy_trans HGR.out (grownBy_set _ _ _ _)⟩
          intro j hj
          rw [dg_set, if_neg (by omega)]
          exact hsame.out j (by omega)
        · obtain ⟨x, hx⟩ : ∃ x : Nat, n2 + 4294967296 = (x : Nat) := ⟨(n2 + 4294967296).toNat, by omega⟩
          have hxb : ((x : Nat) : Int) < 4294967296 := by omega
          have hx2 : n2 % 4294967296 = (x : Nat) := by omega
          go_wp2_with fail
          have hset := hrow.set (i + (m + 2)) x (v := .int .u32 (x : Nat)) rfl
          have hS := back_start lo lu lv (i := i) (m := m + 2) (q := q) (x := x) (c := c) (b := b) (by omega) hinv (by rw [← HX2.out]; omega)
          have hG := grownBy_trans HGR.out (grownBy_set wr g (i + (m + 2)) (.int .u32 (x : Nat)))
          obtain ⟨l1, hl1⟩ : ∃ l1, l1 = lo.set (i + (m + 2)) x := ⟨_, rfl⟩
          rw [← hl1] at hset hS
          have hd1 : Dig l1 := by rw [hl1]; exact HDLO.out.set _ _ (by omega)
          have hlen1 : l1.length = lu.length := by rw [hl1, List.length_set]; exact hlo
          have hsame1 : ∀ j, (j < i ∨ i + m + 2 < j) → dg l1 j = dg lu j := by
            intro j hj
            rw [hl1, dg_set, if_neg (by omega)]
            exact hsame.out j (by omega)
          obtain ⟨W2, hW2⟩ : ∃ W2, W2 = wr.setCell ⟨g, i + (m + 2), none⟩ (.int .u32 (x : Nat)) := ⟨_, rfl⟩
          rw [← hW2] at hset hG ⊢
          have hd1' := Lib.hid hd1
          have hsame1' := Lib.hid hsame1
          have hS' := Lib.hid hS
          have hlen1' := Lib.hid hlen1
          clear hW2 hl1 hrow hgo hfo hd1 hsame1 hS
          go_loopw [9, 139] (fun cv kv wr => ∃ (k c : Nat) (lo : List Nat), k ≤ m + 2 ∧ cv = .int .u64 c ∧ kv = .int .i64 k ∧ Row32 wr g lo ∧ lo.length = lu.length ∧ Hid (Dig lo) ∧ c ≤ 1 ∧
              Hid (sv lo i k + BB ^ k * c = sv l1 i k + sv lv 0 k) ∧ Hid (∀ j, (j < i ∨ i + k ≤ j) → dg lo j = dg l1 j) ∧ w.grownBy wr (some g))
            (fun _ kv _ => m + 2 - (intOf kv).toNat)
          case atStart => exact ⟨0, 0, l1, Nat.zero_le _, rfl, rfl, hset, hlen1, hd1', by omega, by show _ = _; simp [sv], by show ∀ _, _; exact fun _ _ => rfl, hG⟩
          case round =>
            obtain ⟨k, c3, l3, hk3, rfl, rfl, hrow3, hlo3, HDLO3, hc3, hinv3, hsame3, hgr3⟩ := hrel
            have HGR3 := Lib.hid hgr3
            clear hgr3
            by_cases hkm3 : ((k : Nat) : Int) < (m : Nat) + 2
            · have hcy := (HGR3.out.cell (WC.out k (by omega)) (by simp; exact hne))
              have hby : ((dg lv k : Nat) : Int) < 4294967296 := by have := HDV.out k; omega
              have hgo := hrow3.cell (j := i + k) (by omega)
              have hfo := hrow3.free (i + k)
              have hgb : ((dg l3 (i + k) : Nat) : Int) < 4294967296 := by have := HDLO3.out (i + k); omega
              obtain ⟨s, hs⟩ : ∃ s : Nat, ((c3 : Nat) : Int) + (((dg l3 (i + k) : Nat) : Int) + ((dg lv k : Nat) : Int)) = (s : Nat) := ⟨c3 + (dg l3 (i + k) + dg lv k), by simp⟩
              have hs2 : ((s : Nat) : Int) ≤ 8589934591 := by omega
              go_wp2_with fail
              go_roundw
              case rel =>
                have hst := back_step (lo := l3) (l0 := l1) (lv := lv) (i := i) (j := k) (c := c3) (s := s) (by omega) hinv3 (by rw [← hsame3.out (i + k) (.inr (Nat.le_refl _))]; omega)
                refine ⟨k + 1, s / 4294967296, l3.set (i + k) (s % 4294967296), by omega, by simp, by simp, hrow3.set (i + k) _ (by simp), by rw [List.length_set]; exact hlo3, Lib.hid (HDLO3.out.set _ _ (Nat.mod_lt _ (by omega))), by omega, Lib.hid hst, ?_, grownBy_trans HGR3.out (grownBy_set _ _ _ _)⟩
                refine Lib.hid fun j hj => ?_
                rw [dg_set, if_neg (by omega)]
                exact hsame3.out j (by omega)
              case measure => first | (simp [intOf]; done) | (simp [intOf]; omega)
            · obtain rfl : k = m + 2 := by omega
              have hgo := hrow3.cell (j := i + (m + 2)) (by omega)
              have hfo := hrow3.free (i + (m + 2))
              have hgb : ((dg l3 (i + (m + 2)) : Nat) : Int) < 4294967296 := by have := HDLO3.out (i + (m + 2)); omega
              obtain ⟨s, hs⟩ : ∃ s : Nat, ((dg l3 (i + (m + 2)) : Nat) : Int) + ((c3 : Nat) : Int) = (s : Nat) := ⟨dg l3 (i + (m + 2)) + c3, by simp⟩
              have hs2 : ((s : Nat) : Int) ≤ 8589934591 := by omega
              have hend := back_end (U := sv lu i (m + 3)) (V := sv lv 0 (m + 2)) (q := q) (S := sv l1 i (m + 3)) (T := sv (l3.set (i + (m + 2)) (s % 4294967296)) i (m + 3)) (X := BB ^ (m + 3)) (ov := s / 4294967296) HV0.out hS'.out (sv_lt hd1'.out _ _)
                (Nat.lt_of_lt_of_le (sv_lt HDV.out _ _) (Nat.pow_le_pow_right (by decide) (by omega))) (by rw [← HD.out]; exact hqD)
                (back_last l3 l1 lv (i := i) (m := m + 2) (c := c3) (s := s) (by omega) hinv3.out (by rw [← hsame3.out (i + (m + 2)) (.inr (Nat.le_refl _))]; omega))
                (sv_lt (HDLO3.out.set _ _ (Nat.mod_lt _ (by omega))) _ _)
              have HEND := Lib.hid hend
              have hq0 := hend.2.2
              clear hend
              go_wp2_with fail
              go_returns
              have hq : ((q : Nat) : Int) - 1 = ((sv lu i (m + 3) : Nat) : Int) / ((sv lv 0 (m + 2) : Nat) : Int) := by rw [← Int.natCast_ediv, ← HEND.out.1]; omega
              refine ⟨congrArg (fun z => Ending.returned (Value.int .u32 z)) hq, l3.set (i + (m + 2)) (s % 4294967296), hrow3.set (i + (m + 2)) _ (by simp), HDLO3.out.set _ _ (Nat.mod_lt _ (by omega)), by rw [List.length_set]; exact hlo3, ?_, HEND.out.2.1, grownBy_trans HGR3.out (grownBy_set _ _ _ _)⟩
              intro j hj
              rw [dg_set, if_neg (by omega), hsame3.out j (by omega)]
              exact hsame1'.out j hj

end Go.Proofs.YtjeaemoiafamaaaDoor

/- Plain mathematics of the long division. No program in sight. -/
namespace Go.Proofs.YtjeaemoiafamaaaDoor

theorem lead_bits {d : Nat} (h : 0 < d) (hd : d < 4294967296) : ∃ y, y < 32 ∧ (32 - (Lib.bitLen d : Int)) = ((y : Nat) : Int) ∧ 2147483648 ≤ d * 2 ^ y ∧ d * 2 ^ y < 4294967296 := by
  obtain ⟨h1, h2, h3⟩ := Lib.bitLenAux_bounds 64 d (Nat.lt_of_lt_of_le hd (by decide)) (by omega)
  obtain ⟨k, hk⟩ : ∃ k, k + 1 = Lib.bitLen d := ⟨Lib.bitLen d - 1, by unfold Lib.bitLen; omega⟩
  have e : Lib.bitLenAux 64 d = k + 1 := hk.symm
  rw [e] at h2 h3
  rw [Nat.add_sub_cancel] at h2
  have hk32 : k < 32 := by
    rcases Nat.lt_or_ge k 32 with g | g
    · exact g
    · have : 2 ^ 32 ≤ 2 ^ k := Nat.pow_le_pow_right (by decide) g
      omega
  refine ⟨31 - k, by omega, by rw [← hk]; omega, ?_, ?_⟩
  · have g1 := Nat.mul_le_mul_right (2 ^ (31 - k)) h2
    rw [← Nat.pow_add, show k + (31 - k) = 31 by omega] at g1
    exact g1
  · have g1 := Nat.mul_lt_mul_of_pos_right h3 (show 0 < 2 ^ (31 - k) from Nat.pow_pos (by decide))
    rw [← Nat.pow_add, show k + 1 + (31 - k) = 32 by omega] at g1
    exact g1

theorem sv_add (l : List Nat) (i a b : Nat) : sv l i (a + b) = sv l i a + BB ^ a * sv l (i + a) b := by
  induction b with
  | zero => simp [sv]
  | succ b ih =>
    rw [← Nat.add_assoc, sv_succ, ih, sv_succ, Nat.mul_add, Nat.pow_add, Nat.mul_assoc, Nat.add_assoc, ← Nat.add_assoc i a b]
theorem val_sv (l : List Nat) : val l = sv l 0 l.length := by rw [sv_val, List.take_length]
theorem sv_zeros {l : List Nat} {i j : Nat} (h : ∀ t, t < j → dg l (i + t) = 0) : sv l i j = 0 := by
  induction j with
  | zero => rfl
  | succ j ih => rw [sv_succ, ih (fun t ht => h t (by omega)), h j (by omega)]; rfl
theorem val_change {l m : List Nat} (hl : l.length = m.length) {i j : Nat} (hij : i + j ≤ l.length) (h : ∀ k, (k < i ∨ i + j ≤ k) → dg m k = dg l k) : val m + BB ^ i * sv l i j = val l + BB ^ i * sv m i j := by
  obtain ⟨r, hr⟩ : ∃ r, l.length = i + (j + r) := ⟨l.length - (i + j), by omega⟩
  rw [val_sv l, val_sv m, ← hl, hr, sv_add l 0 i, sv_add l (0 + i), sv_add m 0 i, sv_add m (0 + i)]
  rw [sv_congr (l := m) (m := l) (i := 0) (j := i) (fun t ht => h _ (by omega))]
  rw [sv_congr (l := m) (m := l) (i := 0 + i + j) (j := r) (fun t ht => h _ (by omega))]
  rw [Nat.mul_add, Nat.mul_add, Nat.zero_add]
  omega

theorem norm_top {b y n : Nat} (hn : (digs b).length = n + 1) (hy32 : y < 32) (hy : 2147483648 ≤ dg (digs b) n * 2 ^ y) (hy2 : dg (digs b) n * 2 ^ y < 4294967296) :
    (digs (2 ^ y * b)).length = n + 1 ∧ 2147483648 ≤ dg (digs (2 ^ y * b)) n := by
  have hb : b = sv (digs b) 0 n + BB ^ n * dg (digs b) n := by
    have := val_sv (digs b)
    rw [val_digs, hn, sv_succ, Nat.zero_add] at this
    exact this
  have hl := sv_lt (dig_digs b) 0 n
  have hP : 0 < BB ^ n := Nat.pow_pos (by decide)
  have hroom := (pow_mod_room (y := y) (d := dg (digs b) n) hy32).2
  rw [Nat.mod_eq_of_lt hy2] at hroom
  have h2 : 0 < 2 ^ y := Nat.pow_pos (by decide)
  have h3 : 2 ^ y * b < BB ^ (n + 1) := by
    have g1 : b < BB ^ n * (dg (digs b) n + 1) := by rw [Nat.mul_add, Nat.mul_one]; omega
    have g2 := Nat.mul_lt_mul_of_pos_left g1 h2
    have g3 : 2 ^ y * (BB ^ n * (dg (digs b) n + 1)) = BB ^ n * (dg (digs b) n * 2 ^ y + 2 ^ y) := by
      rw [Nat.mul_left_comm, Nat.mul_add, Nat.mul_one, Nat.mul_comm (2 ^ y)]
    have g4 : BB ^ n * (dg (digs b) n * 2 ^ y + 2 ^ y) ≤ BB ^ n * 4294967296 := Nat.mul_le_mul_left _ hroom
    rw [Nat.pow_succ, BB_eq]
    rw [BB_eq] at g2 g3 g4
    exact Nat.lt_of_lt_of_le g2 (by rw [g3]; exact g4)
  have h4 : b ≤ 2 ^ y * b := Nat.le_mul_of_pos_left _ h2
  have hlen : (digs (2 ^ y * b)).length = n + 1 := by
    have a1 := digs_len_le h3
    have a2 := digs_len_mono h4
    omega
  refine ⟨hlen, ?_⟩
  have hV : 2 ^ y * b = sv (digs (2 ^ y * b)) 0 n + BB ^ n * dg (digs (2 ^ y * b)) n := by
    have := val_sv (digs (2 ^ y * b))
    rw [val_digs, hlen, sv_succ, Nat.zero_add] at this
    exact this
  have hlV := sv_lt (dig_digs (2 ^ y * b)) 0 n
  have h5 : BB ^ n * 2147483648 ≤ 2 ^ y * b := by
    have g1 : BB ^ n * dg (digs b) n ≤ b := by omega
    have g2 := Nat.mul_le_mul_left (2 ^ y) g1
    have g3 : 2 ^ y * (BB ^ n * dg (digs b) n) = BB ^ n * (dg (digs b) n * 2 ^ y) := by rw [Nat.mul_left_comm, Nat.mul_comm (2 ^ y)]
    have g4 := Nat.mul_le_mul_left (BB ^ n) hy
    rw [← g3] at g4
    exact Nat.le_trans g4 g2
  have h6 : BB ^ n * 2147483648 < BB ^ n * (dg (digs (2 ^ y * b)) n + 1) := by
    have e1 : BB ^ n * (dg (digs (2 ^ y * b)) n + 1) = BB ^ n * dg (digs (2 ^ y * b)) n + BB ^ n := Nat.mul_succ _ _
    rw [e1]
    exact Nat.lt_of_le_of_lt h5 (by omega)
  have := Nat.lt_of_mul_lt_mul_left h6
  omega

/-- The loop of the long division: the digits from the place k on are found. -/
structure Long (U V n K k : Nat) (lo q : List Nat) : Prop where
  len : lo.length = K + n
  qlen : q.length = K
  hk : k ≤ K
  dig : Dig lo
  qdig : Dig q
  eq : U = val lo + V * (BB ^ k * val (q.drop k))
  low : sv lo k n < V
  zero : ∀ j, k + n ≤ j → dg lo j = 0

theorem Long.start {U V n K : Nat} {lo : List Nat} (hlen : lo.length = K + n) (hd : Dig lo) (hU : U = val lo) (hUV : U < BB ^ K * V) : Long U V n K K lo (List.replicate K 0) where
  len := hlen
  qlen := List.length_replicate
  hk := Nat.le_refl _
  dig := hd
  qdig := Dig.replicate _
  eq := by rw [List.drop_of_length_le (by rw [List.length_replicate]; exact Nat.le_refl _)]; simp [val, hU]
  low := by
    have h1 : U = sv lo 0 K + BB ^ K * sv lo K n := by rw [hU, val_sv, hlen, sv_add, Nat.zero_add]
    have h2 : BB ^ K * sv lo K n < BB ^ K * V := by omega
    exact Nat.lt_of_mul_lt_mul_left h2
  zero := fun j hj => dg_ge (by omega)
theorem Long.pre {U V n K k : Nat} {lo q : List Nat} (h : Long U V n K (k + 1) lo q) : sv lo k (n + 1) < BB * V := by
  rw [Nat.add_comm n 1, sv_add, sv_succ, sv_zero, Nat.pow_zero, Nat.one_mul, Nat.zero_add, Nat.pow_one, Nat.add_zero]
  have h1 := h.low
  have h2 := h.dig k
  have h3 := Nat.mul_le_mul_left BB (Nat.succ_le_of_lt h1)
  rw [Nat.mul_succ] at h3
  have : BB = 4294967296 := rfl
  omega
theorem Long.step {U V n K k : Nat} {lo q lo' : List Nat} (h : Long U V n K (k + 1) lo q) (hV : 0 < V) (hVn : V < BB ^ n) (hlen : lo'.length = lo.length) (hd : Dig lo') (hsame : ∀ j, j < k ∨ k + n < j → dg lo' j = dg lo j) (hsv : sv lo' k (n + 1) = sv lo k (n + 1) % V) :
    Long U V n K k lo' (q.set k (sv lo k (n + 1) / V)) := by
  have hk := h.hk
  have hll := h.len
  have hql := h.qlen
  have hpre := h.pre
  have hqd : sv lo k (n + 1) / V < 4294967296 := by rw [Nat.div_lt_iff_lt_mul hV]; exact hpre
  have hchg := val_change (l := lo) (m := lo') hlen.symm (i := k) (j := n + 1) (by omega) (fun j hj => hsame j (by omega))
  have hlow' : sv lo' k (n + 1) < V := by rw [hsv]; exact Nat.mod_lt _ hV
  have hsplit : sv lo' k (n + 1) = sv lo' k n + BB ^ n * dg lo' (k + n) := sv_succ _ _ _
  have hz : dg lo' (k + n) = 0 := by
    rcases Nat.eq_zero_or_pos (dg lo' (k + n)) with g | g
    · exact g
    · have := Nat.mul_le_mul_left (BB ^ n) g
      omega
  refine ⟨by omega, by rw [List.length_set]; exact hql, by omega, hd, h.qdig.set _ _ hqd, ?_, by omega, ?_⟩
  · rw [h.eq, val_drop_set _ _ _ (by omega)]
    have hdm := Nat.div_add_mod (sv lo k (n + 1)) V
    rw [← hsv] at hdm
    rw [← hdm, Nat.mul_add] at hchg
    have e1 : V * (BB ^ k * (sv lo k (n + 1) / V + BB * val (List.drop (k + 1) q))) = BB ^ k * (V * (sv lo k (n + 1) / V)) + V * (BB ^ (k + 1) * val (List.drop (k + 1) q)) := by
      rw [Nat.mul_add, Nat.mul_add, Nat.pow_succ, Nat.mul_left_comm, ← Nat.mul_assoc (BB ^ k) BB]
    rw [e1]
    omega
  · intro j hj
    rcases Nat.lt_or_eq_of_le hj with g | g
    · rw [hsame j (.inr g)]; exact h.zero j (by omega)
    · rw [← g]; exact hz
theorem Long.done {U V n K : Nat} {lo q : List Nat} (h : Long U V n K 0 lo q) : val lo = U % V ∧ val q = U / V := by
  have h1 : val lo < V := by
    rw [val_sv, h.len, Nat.add_comm, sv_add, sv_zeros (i := 0 + n) (j := K) (fun t _ => h.zero _ (by omega)), Nat.mul_zero, Nat.add_zero]
    exact h.low
  have h2 := h.eq
  rw [Nat.pow_zero, Nat.one_mul, List.drop_zero] at h2
  have hV : 0 < V := by omega
  constructor
  · rw [h2, Nat.add_mul_mod_self_left, Nat.mod_eq_of_lt h1]
  · rw [h2, Nat.add_mul_div_left _ _ hV, Nat.div_eq_of_lt h1, Nat.zero_add]

theorem long_room {a b y K n : Nat} (hla : (digs a).length + 1 = K + (n + 1)) (hlb : (digs b).length = n + 1) : 2 ^ y * a < BB ^ K * (2 ^ y * b) := by
  have h1 := lt_pow_digs a
  have h2 := can_val_pos (can_digs b) (by omega)
  rw [val_digs, hlb, Nat.add_sub_cancel] at h2
  rw [show (digs a).length = K + n by omega, Nat.pow_add] at h1
  have h3 : a < BB ^ K * b := Nat.lt_of_lt_of_le h1 (Nat.mul_le_mul_left _ h2)
  have := Nat.mul_lt_mul_of_pos_left h3 (show 0 < 2 ^ y from Nat.pow_pos (by decide))
  rwa [Nat.mul_left_comm] at this
theorem long_end {a b y : Nat} : 2 ^ y * a / (2 ^ y * b) = a / b ∧ 2 ^ y * a % (2 ^ y * b) / 2 ^ y = a % b := by
  have h2 : 0 < 2 ^ y := Nat.pow_pos (by decide)
  exact ⟨Nat.mul_div_mul_left _ _ h2, by rw [Nat.mul_mod_mul_left, Nat.mul_div_cancel_left _ h2]⟩

end Go.Proofs.YtjeaemoiafamaaaDoor

/- integer.divide: quotient and rest of two magnitudes. -/
namespace Go.Proofs.YtjeaemoiafamaaaDoor
open Go.RowKit

set_option maxRecDepth 100000 in
set_option maxHeartbeats 1600000 in
theorem divide_walk (A B : Option Addr) (ca cb a b : Nat) (w : World) (ha : U32 w A (digs a)) (hb : U32 w B (digs b)) (hca : (digs a).length ≤ ca) (hcm : ca ≤ maxLen) (hla : (digs a).length < 17592186044410) (hlb : (digs b).length < 17592186044410) (hb0 : 0 < b) :
    Calls Tryd.prog 59 #[.slice A (digs a).length ca, .slice B (digs b).length cb] w fun e w' => ∃ q r, e = .returned (.tuple #[q, r]) ∧ IsMag w' q (a / b) ∧ IsMag w' r (a % b) ∧ Below w.heap.size w w' := by
  obtain ⟨i0, hi0, hz0, hz1, hz2⟩ := info_parts info32
  have hbl : 0 < (digs b).length := digs_len_pos.2 hb0
  obtain ⟨n, hn⟩ : ∃ n, (digs b).length = n + 1 := ⟨(digs b).length - 1, by omega⟩
  obtain ⟨bo, off, rfl, hbo, hcell⟩ := Cells.at_ hb (by omega)
  have hn1 : (((digs b).length : Nat) : Int) - 1 = (n : Nat) := by omega
  have hn2 : (((digs b).length : Nat) : Int) ≤ 17592186044410 := by omega
  have hn3 : (0 : Int) < (((digs b).length : Nat) : Int) := by omega
  have hn4 : ((n : Nat) : Int) < (((digs b).length : Nat) : Int) := by omega
  have c0 := hcell 0 (by omega)
  have cn := hcell n (by omega)
  rw [Nat.add_zero] at c0
  have HN := Lib.hid hn
  have HC := Lib.hid hcell
  clear hn hcell
  have hd0 : ((dg (digs b) 0 : Nat) : Int) < 4294967296 := by have := dig_digs b 0; omega
  have hdn : ((dg (digs b) n : Nat) : Int) < 4294967296 := by have := dig_digs b n; omega
  by_cases hlt : a < b
  · have ho : ordN a b = -1 := if_pos hlt
    have ho2 : ordN a b < 0 := by omega
    clear ho
    go_enter Tryd.func59, Tryd.ntmps59
    go_wp2_with fail
    refine (order_walk A _ ca cb a b _ (by exact ha) (by exact hb) (by omega) (by omega)).mono ?_
    rintro e w1 ⟨rfl, hd1⟩
    obtain ⟨n1, rfl⟩ := hd1
    go_wp2_with fail
    go_returns
    have hB := below_drewN w.heap.size w n1
    have hB2 : Below w.heap.size w ((w.drewN n1).drew) := hB.drew
    refine ⟨_, _, rfl, ⟨none, 0, ?_, ?_, ?_, ?_⟩, ⟨A, ca, ?_, ?_, hcm, ?_⟩, ?_⟩
    · rw [Nat.div_eq_of_lt hlt, digs_zero]; rfl
    · rw [Nat.div_eq_of_lt hlt, digs_zero]; exact Nat.le_refl _
    · unfold maxLen; omega
    · rw [Nat.div_eq_of_lt hlt, digs_zero]; exact .inl rfl
    · rw [Nat.mod_eq_of_lt hlt]; rfl
    · rw [Nat.mod_eq_of_lt hlt]; exact hca
    · rw [Nat.mod_eq_of_lt hlt]; first | exact ha.below hB | exact ha.below hB2
    · first | exact hB | exact hB2
  · have ho2 : (0 : Int) ≤ ordN a b := by unfold ordN; rw [if_neg hlt]; split <;> omega
    have ho3 : decide (ordN a b < 0) = false := decide_eq_false (by omega)
    clear ho2
    by_cases h1 : (((digs b).length : Nat) : Int) == 1
    · have h0 : 0 < dg (digs b) 0 := by
        have hl1 : (digs b).length = 1 := by have := eq_of_beq h1; omega
        have hz := (can_digs b).2 hbl
        rw [hl1] at hz
        exact Nat.pos_of_ne_zero hz
      go_enter Tryd.func59, Tryd.ntmps59
      go_wp2_with fail
      refine (order_walk A _ ca cb a b _ (by exact ha) (by exact hb) (by omega) (by omega)).mono ?_
      rintro e w1 ⟨rfl, hd1⟩
      obtain ⟨n1, rfl⟩ := hd1
      go_wp2_with fail
      obtain ⟨rr, hrr⟩ : ∃ rr, rr = val (digs a) % dg (digs b) 0 := ⟨_, rfl⟩
      have hrb : rr < 4294967296 := by rw [hrr]; exact Nat.lt_of_le_of_lt (Nat.le_of_lt (Nat.mod_lt _ h0)) (by omega)
      refine (short_walk A ca (dg (digs b) 0) (digs a) _ (by exact ha) (dig_digs a) (by omega) (by omega) (by omega)).mono ?_
      rw [← hrr]
      have HRR := Lib.hid hrr
      clear hrr
      rintro e w2 ⟨v, rfl, hq, hb2⟩
      have HQ := Lib.hid hq
      have HB2 := Lib.hid hb2
      clear hq hb2
      go_wp2_with fail
      obtain ⟨r1, hsz, hB3⟩ := boxes1 w2 (.cells #[.int .u32 ((rr : Nat) : Int)] 60)
      obtain ⟨W, hW⟩ : ∃ W, W = w2.alloc (.cells #[.int .u32 ((rr : Nat) : Int)] 60) := ⟨_, rfl⟩
      rw [← hW] at r1 hsz hB3 ⊢
      clear hW hsz
      have r1 : Row32 W w2.heap.size [rr] := r1
      have hdr : Dig [rr] := Dig.cons hrb Dig.nil
      refine (trim_walk (some ⟨w2.heap.size, 0, none⟩) 1 1 [rr] W rfl (Nat.le_refl _) (by unfold maxLen; omega) r1.u32 hdr).mono ?_
      rintro e w4 ⟨rfl, ht1, rfl⟩
      go_wp2_with fail
      go_returns
      have hbe : b = dg (digs b) 0 := by
        have hl1 : (digs b).length = 0 + 1 := by have := eq_of_beq h1; omega
        have := val_sv (digs b)
        rw [val_digs, hl1, sv_succ, sv_zero, Nat.pow_zero, Nat.one_mul, Nat.zero_add] at this
        exact this
      have hvr : val [rr] = a % b := by
        rw [val_cons, val_nil, Nat.mul_zero, Nat.add_zero, HRR.out, val_digs, ← hbe]
      have hq := HQ.out
      rw [val_digs, ← hbe] at hq
      have hB : Below w.heap.size w W := (below_drewN _ w n1).trans ((HB2.out.mono (Nat.le_refl _)).trans (hB3.mono HB2.out.size))
      have hu := r1.u32.trimmed hdr
      rw [hvr] at hu ht1 ⊢
      exact ⟨_, _, rfl, hq.below hB3, ⟨_, 1, rfl, ht1, by unfold maxLen; omega, hu⟩, hB⟩
    · have hle := digs_len_mono (Nat.le_of_not_lt hlt)
      obtain ⟨K, hK⟩ : ∃ K, (digs a).length = (digs b).length + K := ⟨(digs a).length - (digs b).length, by omega⟩
      have hk0 : (((digs a).length : Nat) : Int) - (((digs b).length : Nat) : Int) = (K : Nat) := by omega
      have hk1 : ((K : Nat) : Int) ≤ 17592186044410 := by omega
      have HK := Lib.hid hK
      clear hK hle
      obtain ⟨m, hm⟩ : ∃ m, n = m + 1 := ⟨n - 1, by
        have : (digs b).length ≠ 1 := fun e => h1 (by rw [e]; rfl)
        have := HN.out
        omega⟩
      have hmb : ((m : Nat) : Int) ≤ 17592186044410 := by omega
      have hmn : ((m : Nat) : Int) + 2 = (((digs b).length : Nat) : Int) := by omega
      have HM := Lib.hid hm
      have HMN := Lib.hid hmn
      clear hm hmn
      have h1' : ((((digs b).length : Nat) : Int) == 1) = false := by simpa using h1
      clear h1
      obtain ⟨y, hy32, hy1, hy2, hy3⟩ := lead_bits (d := dg (digs b) n) (Nat.pos_of_ne_zero (by have := (can_digs b).2 hbl; rwa [HN.out, Nat.add_sub_cancel] at this)) (by omega)
      go_enter Tryd.func59, Tryd.ntmps59
      go_wp2_with fail
      refine (order_walk A _ ca cb a b _ (by exact ha) (by exact hb) (by omega) (by omega)).mono ?_
      rintro e w1 ⟨rfl, hd1⟩
      obtain ⟨n1, rfl⟩ := hd1
      go_wp2_with fail
      refine (Tryd.bits_LeadingZeros32 _ _ (by omega) (by omega)).mono ?_
      rintro e w2 ⟨rfl, rfl⟩
      rw [Int.toNat_natCast, hy1]
      go_wp2_with fail
      refine (raised_walk A ca y (digs a) _ (by exact ha) (dig_digs a) (by omega) hy32).mono ?_
      rintro e w3 ⟨g1, l1, rfl, r1, hd1, hv1, hl1, hb3, hg1⟩
      have HV1 := Lib.hid hv1
      have HL1 := Lib.hid hl1
      clear hv1 hl1
      have hb3' : Below w.heap.size w w3 := (below_drewN _ w n1).trans hb3
      go_wp2_with fail
      refine (raised_walk _ cb y (digs b) _ (by exact hb.below hb3') (dig_digs b) (by omega) hy32).mono ?_
      rintro e w4 ⟨g2, l2, rfl, r2, hd2, hv2, hl2, hb4, hg2⟩
      have hl2b : l2.length < 17592186044416 := by omega
      have HV2 := Lib.hid hv2
      have HL2 := Lib.hid hl2
      clear hv2 hl2
      go_wp2_with fail
      refine (trim_walk _ l2.length l2.length l2 _ rfl (Nat.le_refl _) (by unfold maxLen; omega) r2.u32 hd2).mono ?_
      rintro e w5 ⟨rfl, ht1, rfl⟩
      rw [HV2.out, val_digs]
      have hnt := norm_top HN.out hy32 hy2 hy3
      have hlV : (digs (2 ^ y * b)).length = m + 2 := by rw [hnt.1, HM.out]
      rw [hlV]
      have HLV := Lib.hid hlV
      have HNT := Lib.hid hnt
      have HT1 := Lib.hid ht1
      have HY2 := Lib.hid hy2
      have HY3 := Lib.hid hy3
      clear hlV hnt ht1 hy2 hy3
      go_wp2_with (at_make; refine wpList_mk _ rfl (.tmp 51) (.tmp 51) 23 rfl 60 i0 (.int .u32 0) Tryd.underlying23 hi0 hz0 hz1 rfl _ _ _ rfl rfl rfl rfl ?_ ?_ ?_)
      · omega
      · unfold maxLen; omega
      intro w6 hrow hb6 hs6
      have hr := Row32.made hrow
      clear hrow
      have HR := Lib.hid hr
      clear hr
      go_wp2_with fail
      have hb6' : Below w.heap.size w w6 := hb3'.trans ((hb4.mono hb3'.size).trans (hb6.mono (Nat.le_trans hb3'.size hb4.size)))
      have hr1 : Row32 w6 g1 l1 := (r1.below hb4 r1.lt).below hb6 (Nat.lt_of_lt_of_le r1.lt hb4.size)
      have hr2 : Row32 w6 g2 l2 := r2.below hb6 r2.lt
      have hg12 : g1 < g2 := Nat.lt_of_lt_of_le r1.lt hg2
      have hg2q : g2 < w4.heap.size := r2.lt
      have hwg1 : w.heap.size ≤ g1 := hg1
      obtain ⟨V, hV⟩ : ∃ V, V = 2 ^ y * b := ⟨_, rfl⟩
      have hv6 : U32 w6 (some ⟨g2, 0, none⟩) (digs V) := by
        have := hr2.u32.trimmed hd2
        rwa [HV2.out, val_digs, ← hV] at this
      have HB6 := Lib.hid hb6'
      have HR1 := Lib.hid hr1
      have HR2 := Lib.hid hr2
      have HV6 := Lib.hid hv6
      have HVV := Lib.hid hV
      clear hb6' hr1 hr2 hv6 hV r1 r2 hb3 hb3' hb4 hb6
      have hVlen : (digs V).length = m + 2 := by rw [HVV.out, HNT.out.1, HM.out]
      have hVtop : 2147483648 ≤ dg (digs V) (m + 1) := by rw [HVV.out, ← HM.out]; exact HNT.out.2
      have hVsv : sv (digs V) 0 (m + 2) = V := by rw [← hVlen, ← val_sv, val_digs]
      have hVp : 0 < V := by rw [HVV.out]; exact Nat.mul_pos (Nat.pow_pos (by decide)) hb0
      have hVlt : V < BB ^ (m + 2) := by have := lt_pow_digs V; rwa [hVlen] at this
      have hl1e : l1.length = K + 1 + (m + 2) := by rw [HL1.out, HK.out]; have := HMN.out; omega
      have hLong : Long (2 ^ y * a) V (m + 2) (K + 1) (K + 1) l1 (List.replicate (K + 1) 0) :=
        Long.start hl1e hd1 (by rw [HV1.out, val_digs]) (by rw [HVV.out]; exact long_room (n := m + 1) (by rw [HK.out]; have := HMN.out; omega) (by have := HMN.out; omega))
      have HLONG := Lib.hid hLong
      have HVL := Lib.hid hVlen
      have HVT := Lib.hid hVtop
      have HVS := Lib.hid hVsv
      have HVLT := Lib.hid hVlt
      have HL1E := Lib.hid hl1e
      clear hLong hVlen hVtop hVsv hVlt hl1e
      obtain ⟨gq, hgq⟩ : ∃ gq, gq = w4.heap.size := ⟨_, rfl⟩
      rw [← hgq] at HR hg2q ⊢
      clear hgq hs6
      obtain ⟨L1, hL1⟩ : ∃ L, L = l1.length := ⟨_, rfl⟩
      rw [← hL1]
      have HLL := Lib.hid hL1
      have hL1b : ((L1 : Nat) : Int) = (K : Nat) + 1 + ((m : Nat) + 2) := by rw [hL1, HL1E.out]; simp
      have HLB := Lib.hid hL1b
      clear hL1 hL1b
      go_loopw [11] (fun iv wr => ∃ (k : Nat) (z : Int) (lo q : List Nat), iv = .int .i64 z ∧ Hid (z = (k : Nat) - 1) ∧ k ≤ K + 1 ∧ Row32 wr g1 lo ∧ Row32 wr gq q ∧ Hid (Long (2 ^ y * a) V (m + 2) (K + 1) k lo q) ∧ U32 wr (some ⟨g2, 0, none⟩) (digs V) ∧ Below w.heap.size w wr)
        (fun iv _ => (intOf iv + 1).toNat)
      case atStart => exact ⟨K + 1, (K : Nat), l1, _, rfl, Lib.hid (by omega), Nat.le_refl _, HR1.out, HR.out, HLONG, HV6.out, HB6.out⟩
      case round =>
        obtain ⟨k, z, lo, q, rfl, hz, hk, hrl, hrq, hlong, hvv, hbw⟩ := hrel
        rcases k with _ | i
        · obtain rfl : z = -1 := by have := hz.out; omega
          have HRL := Lib.hid hrl
          have HRQ := Lib.hid hrq
          have HVVV := Lib.hid hvv
          have hql : K + 1 = q.length := hlong.out.qlen.symm
          have hll : L1 = lo.length := by rw [hlong.out.len, HLL.out, HL1E.out]
          have HQL := Lib.hid hql
          have HLL' := Lib.hid hll
          clear hrl hrq hvv hql hll hz
          have hfin := hlong.out.done
          have HF := Lib.hid hfin
          clear hfin
          have hL1b' : L1 < 17592186044416 := by have h1 := HLB.out; have h2 := HMN.out; have h3 := HK.out; omega
          go_wp2_with fail
          refine (trim_walk (some ⟨gq, 0, none⟩) (K + 1) (K + 1) q _ HQL.out (Nat.le_refl _) (by unfold maxLen; omega) (by exact HRQ.out.u32) (by exact hlong.out.qdig)).mono ?_
          rintro e w8 ⟨rfl, htq, rfl⟩
          have HTQ := Lib.hid htq
          clear htq
          go_wp2_with fail
          refine (trim_walk (some ⟨g1, 0, none⟩) L1 L1 lo _ HLL'.out (Nat.le_refl _) (by unfold maxLen; omega) (by exact HRL.out.u32) (by exact hlong.out.dig)).mono ?_
          rintro e w9 ⟨rfl, htl, rfl⟩
          have HTL := Lib.hid htl
          clear htl
          go_wp2_with fail
          refine (lowered_walk g1 0 L1 y (digs (val lo)) _ (by exact HRL.out.u32.trimmed hlong.out.dig) (dig_digs _) (by have := HTL.out; have := HLL'.out; omega) hy32).mono ?_
          rintro e w10 ⟨v, rfl, hmag, hb10⟩
          have HMAG := Lib.hid hmag
          have HB10 := Lib.hid hb10
          clear hmag hb10
          go_wp2_with fail
          go_returns
          have hle := long_end (a := a) (b := b) (y := y)
          rw [← HVV.out] at hle
          have hmag := HMAG.out
          rw [val_digs, HF.out.1, hle.2] at hmag
          have hq2 := HF.out.2.trans hle.1
          have huq := HRQ.out.u32.trimmed hlong.out.qdig
          have htq := HTQ.out
          rw [hq2] at huq htq ⊢
          exact ⟨_, v, rfl, ⟨_, K + 1, rfl, by have := HQL.out; omega, by unfold maxLen; omega, huq.below HB10.out⟩, hmag, hbw.trans (HB10.out.mono hbw.size)⟩
        · obtain rfl : z = (i : Nat) := by have := hz.out; omega
          clear hz
          have hbi : ((i : Nat) : Int) < (K : Nat) + 1 := by omega
          have hi1 : ((i : Nat) : Int) + ((m : Nat) + 2) + 1 ≤ (L1 : Nat) := by have := HLB.out; omega
          go_wp2_with fail
          rw [show i + (m + 2) + 1 - i = m + 3 by omega]
          have hqi : i < q.length := by rw [hlong.out.qlen]; omega
          have HLO := Lib.hid hlong.out.len
          obtain ⟨D, hD⟩ : ∃ D, D = sv lo i (m + 3) / V := ⟨_, rfl⟩
          have hDlt : D < 4294967296 := by
            rw [hD, Nat.div_lt_iff_lt_mul hVp]; exact hlong.out.pre
          refine (digit_walk g1 i m _ _ g2 0 lo (digs V) wr (by exact hrl) hlong.out.dig (by have := HLB.out; have := HLO.out; omega) (by have := HLB.out; have := HMN.out; have := HK.out; have := HLO.out; omega) (by exact hvv) HVL.out (dig_digs _) (by omega) HVT.out (by rw [HVS.out]; exact hlong.out.pre)).mono ?_
          rw [HVS.out, ← hD]
          rintro e w8 ⟨rfl, lo', hrl', hdl', hlen', hsame', hsv', hgr⟩
          have hb8 : Below w.heap.size w w8 := hbw.grown hgr (by exact hbw.size) (by simp; exact hwg1)
          have hrq8 : Row32 w8 gq q := (hgr.block gq hrq.lt (by simp; omega)).trans hrq
          have hvv8 : U32 w8 (some ⟨g2, 0, none⟩) (digs V) := Cells.grownBy' hvv hgr (by omega)
          have hL := hlong.out.step hVp HVLT.out hlen' hdl' (fun j hj => hsame' j (by omega)) hsv'
          have hL' : Long (2 ^ y * a) V (m + 2) (K + 1) i lo' (q.set i D) := by rw [hD]; exact hL
          have hcq := hrq8.cell hqi
          have hfq := hrq8.free i
          have HQI := Lib.hid hqi
          have HL := Lib.hid hL'
          have HB8 := Lib.hid hb8
          have HVV8 := Lib.hid hvv8
          have HRL8 := Lib.hid hrl'
          clear hlen' hsame' hsv' hL hL' hD hqi hb8 hvv8 hrl' hgr hdl' HLO hvv hrl hlong hrq hbw
          go_wp2_with fail
          go_roundw
          case rel =>
            have hrq9 := hrq8.set i D (v := .int .u32 (D : Nat)) rfl
            have hgs := grownBy_set w8 gq i (.int .u32 (D : Nat))
            refine ⟨i, ((i : Nat) : Int) - 1, lo', q.set i D, by simp, Lib.hid rfl, by omega, ?_, hrq9, HL, Cells.grownBy' HVV8.out hgs (by omega), HB8.out.grown hgs HB8.out.size (by simp; omega)⟩
            exact (hgs.block g1 HRL8.out.lt (by simp; omega)).trans HRL8.out
          case measure => first | (simp [intOf]; done) | (simp [intOf]; omega)
end Go.Proofs.YtjeaemoiafamaaaDoor

/- Regions that load variables, call, and store into those variables last: what is loaded is taken first; a condition on the world is asked only behind the operations that may come up before a load. -/
namespace Go.Proofs.YtjeaemoiafamaaaDoor
open Go.RowKit

section
variable {P : Program} {ops : Array Oper} {Q : Exit → Act → World → Prop} {md : Region.Mode} {S : World → Prop} {late : Nat → Bool}

/-- Operation j waits for operation i. -/
def rwaits (md : Region.Mode) (ops : Array Oper) (j i : Nat) : Bool :=
  match ops[j]? with
  | some o => o.after.any fun e => Region.binds md e && e.on == i
  | none => false
/-- No late operation comes up before i: it waits for i, or for one that waits for i. -/
def rearly (md : Region.Mode) (ops : Array Oper) (late : Nat → Bool) (listed : Array Bool) (i : Nat) : Bool :=
  !late i && (List.range ops.size).all fun j => !late j || listed.getD j true || rwaits md ops j i || (List.range ops.size).any fun k => !listed.getD k true && rwaits md ops k i && rwaits md ops j k

theorem rwaits_ready {listed : Array Bool} {i j : Nat} (hj : j ∈ Region.ready md ops listed) (hw : rwaits md ops j i = true) (hi : listed.getD i true = false) : False := by
  obtain ⟨_, o, ho, hall⟩ := mem_ready.1 hj
  unfold rwaits at hw
  rw [ho] at hw
  simp only [Array.any_eq_true, Bool.and_eq_true, beq_iff_eq] at hw
  obtain ⟨n, hn, hb, he⟩ := hw
  have h1 := hall _ (Array.getElem_mem hn) hb
  rw [he] at h1
  rcases Nat.lt_or_ge i listed.size with h' | h'
  · simp [h'] at hi h1; rw [hi] at h1; cases h1
  · simp [Array.getElem?_eq_none h'] at h1

/-- Whatever order is picked from here on, AND 'S' HOLDS BEHIND EVERY OPERATION THAT IS NOT LATE. -/
def wpAnyE (P : Program) (md : Region.Mode) (ops : Array Oper) (Q : Exit → Act → World → Prop) (S : World → Prop) (late : Nat → Bool) : Nat → Array Bool → Act → World → Prop
  | 0, listed, a, w => Region.ready md ops listed = [] ∧ Q .normal a w
  | fuel + 1, listed, a, w =>
    (Region.ready md ops listed = [] → Q .normal a w) ∧
    ∀ i ∈ Region.ready md ops listed, wpOp P ops Q i (fun a' w' => (late i = false → S w') ∧ wpAnyE P md ops Q S late fuel (listed.setIfInBounds i true) a' w') a w

theorem wpAny_of_late : ∀ (fuel : Nat) (listed : Array Bool) (a : Act) (w : World), wpAnyE P md ops Q S late fuel listed a w → wpAny P md ops Q fuel listed a w
  | 0, _, _, _, h => h
  | fuel + 1, _, _, _, h => ⟨h.1, fun i hi => wpOp_mono (fun a' w' h' => wpAny_of_late fuel _ a' w' h'.2) (h.2 i hi)⟩

theorem wpAnyE_first {i : Nat} {oi : Oper} {v : Value} (hi : ops[i]? = some oi) (hsel : ∀ (j : Nat) (o : Oper) cs b, ops[j]? = some o → o.op ≠ .select cs b)
    (hQ : ∀ c a w, Q (.panic c) (a.put oi.dst v) w → Q (.panic c) a w) (hli : late i = false) :
    ∀ (fuel : Nat) (listed : Array Bool) (a : Act) (w : World),
      (∀ j oj, ops[j]? = some oj → j ≠ i → listed.getD j true = false → (∀ e ∈ oj.after, Region.binds md e = true → e.on ≠ i) → oi.apart ops oj = true) →
      (∀ j, j < ops.size → late j = true → listed.getD j true = false → rwaits md ops j i = true ∨ ∃ k, listed.getD k true = false ∧ rwaits md ops k i = true ∧ rwaits md ops j k = true) →
      i ∈ Region.ready md ops listed → YieldsIf P ops S oi v a → S w →
      wpAnyE P md ops Q S late fuel (listed.setIfInBounds i true) (a.put oi.dst v) w → wpAnyE P md ops Q S late (fuel + 1) listed a w := by
  intro fuel
  induction fuel with
  | zero =>
    intro listed a w _ _ hr hy hS H
    refine ⟨fun h => (by rw [h] at hr; cases hr), fun j hj => ?_⟩
    by_cases hji : j = i
    · subst hji; exact hy.wpOp hi hS ⟨fun _ => hS, H⟩
    · have := ready_mono hj hji
      rw [H.1] at this
      cases this
  | succ fuel ih =>
    intro listed a w hfree hlate hr hy hS H
    have hun := (mem_ready.1 hr).1
    refine ⟨fun h => (by rw [h] at hr; cases hr), fun j hj => ?_⟩
    by_cases hji : j = i
    · subst hji; exact hy.wpOp hi hS ⟨fun _ => hS, H⟩
    · have h1 := H.2 j (ready_mono hj hji)
      obtain ⟨hjun, oj, hoj, hall⟩ := mem_ready.1 hj
      have hjl : late j = false := by
        rcases hb : late j with _ | _
        · rfl
        · rcases hlate j (Array.getElem?_eq_some_iff.1 hoj).1 hb hjun with h | ⟨k, hk, _, h⟩
          · exact (rwaits_ready hj h hun).elim
          · exact (rwaits_ready hj h hk).elim
      have hnot : ∀ e ∈ oj.after, Region.binds md e = true → e.on ≠ i := fun e he hb heq => by
        have h1 := hall e he hb
        have h0 := (mem_ready.1 hr).1
        rw [heq] at h1
        rcases Nat.lt_or_ge i listed.size with h' | h'
        · simp [h'] at h0 h1; rw [h0] at h1; cases h1
        · simp [Array.getElem?_eq_none h'] at h1
      have h2 := wpOp_putIf hoj (hfree j oj hoj hji hjun hnot) (fun cs b => hsel i oi cs b hi) (fun cs b => hsel j oj cs b hoj) hQ hy h1
      have hback : ∀ k, (listed.setIfInBounds j true).getD k true = false → listed.getD k true = false := fun k hk => by
        by_cases hjk : j = k
        · subst hjk; exact hjun
        · rw [getD_set_ne true hjk] at hk; exact hk
      have hfree' : ∀ k ok, ops[k]? = some ok → k ≠ i → (listed.setIfInBounds j true).getD k true = false →
          (∀ e ∈ ok.after, Region.binds md e = true → e.on ≠ i) → oi.apart ops ok = true := fun k ok hk hki hun hno =>
        hfree k ok hk hki (hback k hun) hno
      have hlate' : ∀ m, m < ops.size → late m = true → (listed.setIfInBounds j true).getD m true = false → rwaits md ops m i = true ∨ ∃ k, (listed.setIfInBounds j true).getD k true = false ∧ rwaits md ops k i = true ∧ rwaits md ops m k = true := fun m hms hm hmun => by
        rcases hlate m hms hm (hback m hmun) with h | ⟨k, hk, h3, h4⟩
        · exact .inl h
        · refine .inr ⟨k, ?_, h3, h4⟩
          have hjk : j ≠ k := fun e => by subst e; exact rwaits_ready hj h3 hun
          rw [getD_set_ne true hjk]; exact hk
      refine wpOp_mono (fun a' w' h3 => ⟨h3.2.1, ih (listed.setIfInBounds j true) a' w' hfree' hlate' (ready_mono hr (Ne.symm hji)) h3.1 (h3.2.1 hjl) ?_⟩) h2
      rw [Array.setIfInBounds_comm _ _ hji]
      exact h3.2.2

theorem wpAnyE_take {i : Nat} {oi : Oper} {v : Value} {fuel : Nat} {listed : Array Bool} {a : Act} {w : World} (hi : ops[i]? = some oi)
    (hs : Region.noSelect ops = true) (hf : Region.free md ops listed i = true) (hr : (Region.ready md ops listed).contains i = true) (he : rearly md ops late listed i = true)
    (hQ : ∀ c a w, Q (.panic c) (a.put oi.dst v) w → Q (.panic c) a w) (hy : YieldsIf P ops S oi v a) (hS : S w)
    (h : wpAnyE P md ops Q S late fuel (listed.setIfInBounds i true) (a.put oi.dst v) w) : wpAnyE P md ops Q S late (fuel + 1) listed a w := by
  unfold rearly at he
  simp only [Bool.and_eq_true, Bool.not_eq_true', List.all_eq_true, List.mem_range, Bool.or_eq_true, List.any_eq_true] at he
  obtain ⟨he1, he2⟩ := he
  refine wpAnyE_first hi (Region.noSelect_spec hs) hQ he1 fuel listed a w (Region.free_spec hi hf) (fun j hlt hj hun => ?_) (by simpa using hr) hy hS h
  · rcases he2 j hlt with ((h1 | h1) | h1) | ⟨k, _, ⟨h1, h2⟩, h3⟩
    · rw [hj] at h1; cases h1
    · rw [hun] at h1; cases h1
    · exact .inl h1
    · exact .inr ⟨k, by simpa using h1, h2, h3⟩

/-- The same, the place that is written named. -/
theorem wpAnyE_taked {i : Nat} {oi : Oper} {v : Value} {fuel : Nat} {listed : Array Bool} {a : Act} {w : World} (d : Option Nat) (hi : ops[i]? = some oi) (hd : oi.dst = d)
    (hs : Region.noSelect ops = true) (hf : Region.free md ops listed i = true) (hr : (Region.ready md ops listed).contains i = true) (he : rearly md ops late listed i = true)
    (hQ : ∀ c a w, Q (.panic c) (a.put oi.dst v) w → Q (.panic c) a w) (hy : YieldsIf P ops S oi v a) (hS : S w)
    (h : wpAnyE P md ops Q S late fuel (listed.setIfInBounds i true) (a.put d v) w) : wpAnyE P md ops Q S late (fuel + 1) listed a w :=
  wpAnyE_take hi hs hf hr he hQ hy hS (hd ▸ h)

/-- Each of the operations 'rs' comes up next. -/
def AllReadyE (P : Program) (md : Region.Mode) (ops : Array Oper) (Q : Exit → Act → World → Prop) (S : World → Prop) (late : Nat → Bool) (fuel : Nat) (listed : Array Bool) (a : Act) (w : World) (rs : List Nat) : Prop :=
  ∀ i ∈ rs, wpOp P ops Q i (fun a' w' => (late i = false → S w') ∧ wpAnyE P md ops Q S late fuel (listed.setIfInBounds i true) a' w') a w
theorem AllReadyE.nil {fuel : Nat} {listed : Array Bool} {a : Act} {w : World} : AllReadyE P md ops Q S late fuel listed a w [] := fun _ h => by cases h
theorem AllReadyE.cons {fuel : Nat} {listed : Array Bool} {a : Act} {w : World} {i : Nat} {o : Oper} {rs : List Nat} (ho : ops[i]? = some o)
    (h : ∀ K' : Act → World → Prop, Shut (∀ a w, (late i = false → S w) → wpAnyE P md ops Q S late fuel (listed.setIfInBounds i true) a w → K' a w) → if Region.wanted o (yielded ops a.tmps) = true then Oper.wp P o a w K' Q else K' (a.put o.dst undef) w)
    (hs : AllReadyE P md ops Q S late fuel listed a w rs) : AllReadyE P md ops Q S late fuel listed a w (i :: rs) := fun j hj => by
  rcases List.mem_cons.1 hj with rfl | hj
  · exact wpOp_step ho (fun K' hK => h K' (fun a w hS hW => hK a w ⟨hS, hW⟩))
  · exact hs j hj
theorem wpAnyE_ready {rs : List Nat} {fuel : Nat} {listed : Array Bool} {a : Act} {w : World} (hr : Region.ready md ops listed = rs) (hne : rs ≠ [])
    (h : AllReadyE P md ops Q S late fuel listed a w rs) : wpAnyE P md ops Q S late (fuel + 1) listed a w := ⟨fun h0 => absurd (hr ▸ h0) hne, hr ▸ h⟩
theorem wpAnyE_done {listed : Array Bool} {a : Act} {w : World} (hr : Region.ready md ops listed = []) (h : Q .normal a w) :
    ∀ fuel, wpAnyE P md ops Q S late fuel listed a w
  | 0 => ⟨hr, h⟩
  | _ + 1 => ⟨fun _ => h, by rw [hr]; simp⟩
theorem wp_region_late {id : Nat} {a : Act} {w : World} (S : World → Prop) (late : Nat → Bool) (hm : P.follows .mixedOrders = true)
    (h : wpAnyE P .any ops Q S late ops.size (Array.replicate ops.size false) a w.drew) : (Code.region id ops true).wp P Q a w :=
  wp_region_any hm (wpAny_of_late _ _ _ _ h)

end
end Go.Proofs.YtjeaemoiafamaaaDoor

/- integer.DivMod: the quotient, rounded down, and the rest. -/
namespace Go.Proofs.YtjeaemoiafamaaaDoor
open Go.RowKit

theorem boxes4 (w : World) (o1 o2 o3 o4 : Obj) : ((((w.alloc o1).alloc o2).alloc o3).alloc o4).heap[w.heap.size]? = some o1 ∧ ((((w.alloc o1).alloc o2).alloc o3).alloc o4).heap[w.heap.size + 1]? = some o2 ∧ ((((w.alloc o1).alloc o2).alloc o3).alloc o4).heap[w.heap.size + 2]? = some o3 ∧
    ((((w.alloc o1).alloc o2).alloc o3).alloc o4).heap[w.heap.size + 3]? = some o4 ∧ ((((w.alloc o1).alloc o2).alloc o3).alloc o4).heap.size = w.heap.size + 4 ∧ Below w.heap.size w ((((w.alloc o1).alloc o2).alloc o3).alloc o4) := by
  obtain ⟨h1, h2, h3, h4, _⟩ := boxes3 w o1 o2 o3
  refine ⟨heap_old _ _ _ _ h1, heap_old _ _ _ _ h2, heap_old _ _ _ _ h3, ?_, by rw [size_alloc, h4], by go_grown⟩
  rw [show w.heap.size + 3 = (((w.alloc o1).alloc o2).alloc o3).heap.size by rw [h4]]
  exact heap_new _ _

/-- Block g holds the integer n. -/
def At (w : World) (g : Nat) (n : Int) : Prop := ∃ s A l c, Row w g 25 [.bool s, .slice A l c] ∧ IsInt w (.agg #[.bool s, .slice A l c]) n
theorem At.lt {w : World} {g : Nat} {n : Int} (h : At w g n) : g < w.heap.size := by obtain ⟨_, _, _, _, hr, _⟩ := h; exact hr.lt
theorem At.below {w w' : World} {g : Nat} {n : Int} (h : At w g n) (hb : Below w.heap.size w w') : At w' g n := by
  obtain ⟨s, A, l, c, hr, hi⟩ := h
  exact ⟨s, A, l, c, hr.below hb hr.lt, hi.below hb⟩
theorem IsInt.far {w : World} {v x y : Value} {n : Int} {g : Nat} {p q : Value} (h : IsInt w v n) (hr : Row w g 25 [p, q]) (hp : ∀ n : Int, p ≠ .int .u32 n) (hq : ∀ n : Int, q ≠ .int .u32 n) :
    IsInt ((w.setCell ⟨g, 0, none⟩ x).setCell ⟨g, 1, none⟩ y) v n := by
  obtain ⟨A, c, hv, h1, h2, h3⟩ := h
  refine ⟨A, c, hv, h1, h2, h3.kept (grownBy_set2 _ _ _ _ _ _) hr ?_⟩
  intro v hv n
  simp only [List.mem_cons, List.not_mem_nil, or_false] at hv
  rcases hv with rfl | rfl
  · exact hp n
  · exact hq n
theorem Row.far {w : World} {g g' : Nat} {e : TypeId} {cs : List Value} {x y : Value} (h : Row w g e cs) (hne : g ≠ g') : Row ((w.setCell ⟨g', 0, none⟩ x).setCell ⟨g', 1, none⟩ y) g e cs :=
  ((grownBy_set2 w g' 0 1 x y).block g h.lt (by simp; exact hne)).trans h
theorem Row.put2 {w : World} {g : Nat} {e : TypeId} {p q x y : Value} (h : Row w g e [p, q]) : Row ((w.setCell ⟨g, 0, none⟩ x).setCell ⟨g, 1, none⟩ y) g e [x, y] := (h.set 0 x).set 1 y
/-- An integer is stored into a block of its own. -/
theorem At.put {w : World} {g : Nat} {p q x y : Value} {n : Int} (hr : Row w g 25 [p, q]) (hp : ∀ n : Int, p ≠ .int .u32 n) (hq : ∀ n : Int, q ≠ .int .u32 n) (h : IsInt w (.agg #[x, y]) n) :
    At ((w.setCell ⟨g, 0, none⟩ x).setCell ⟨g, 1, none⟩ y) g n := by
  obtain ⟨s, A, l, c, hv⟩ := h.shape
  simp only [Value.agg.injEq] at hv
  obtain ⟨rfl, rfl⟩ : x = .bool s ∧ y = .slice A l c := by simpa using hv
  exact ⟨s, A, l, c, hr.put2, h.far hr hp hq⟩
theorem At.far {w : World} {g g' : Nat} {n : Int} {p q x y : Value} (h : At w g n) (hne : g ≠ g') (hr : Row w g' 25 [p, q]) (hp : ∀ n : Int, p ≠ .int .u32 n) (hq : ∀ n : Int, q ≠ .int .u32 n) :
    At ((w.setCell ⟨g', 0, none⟩ x).setCell ⟨g', 1, none⟩ y) g n := by
  obtain ⟨s, A, l, c, h1, h2⟩ := h
  exact ⟨s, A, l, c, h1.far hne, h2.far hr hp hq⟩

/-- Two integers are stored anew into two blocks of their own: what stands there, and what the rest of the memory is. -/
theorem At.twice {w0 w : World} {g h : Nat} {p q p' q' x y x' y' : Value} {n m : Int} (rg : Row w g 25 [p, q]) (rh : Row w h 25 [p', q']) (hgh : g ≠ h) (hp : ∀ n : Int, p ≠ .int .u32 n) (hq : ∀ n : Int, q ≠ .int .u32 n) (hp' : ∀ n : Int, p' ≠ .int .u32 n) (hq' : ∀ n : Int, q' ≠ .int .u32 n)
    (h1 : IsInt w (.agg #[x, y]) n) (h2 : IsInt w (.agg #[x', y']) m) (hb : Below w0.heap.size w0 w) (hg : w0.heap.size ≤ g) (hh : w0.heap.size ≤ h) :
    At ((((w.setCell ⟨g, 0, none⟩ x).setCell ⟨g, 1, none⟩ y).setCell ⟨h, 0, none⟩ x').setCell ⟨h, 1, none⟩ y') g n ∧
    At ((((w.setCell ⟨g, 0, none⟩ x).setCell ⟨g, 1, none⟩ y).setCell ⟨h, 0, none⟩ x').setCell ⟨h, 1, none⟩ y') h m ∧
    Row ((((w.setCell ⟨g, 0, none⟩ x).setCell ⟨g, 1, none⟩ y).setCell ⟨h, 0, none⟩ x').setCell ⟨h, 1, none⟩ y') g 25 [x, y] ∧
    Row ((((w.setCell ⟨g, 0, none⟩ x).setCell ⟨g, 1, none⟩ y).setCell ⟨h, 0, none⟩ x').setCell ⟨h, 1, none⟩ y') h 25 [x', y'] ∧
    IsInt ((((w.setCell ⟨g, 0, none⟩ x).setCell ⟨g, 1, none⟩ y).setCell ⟨h, 0, none⟩ x').setCell ⟨h, 1, none⟩ y') (.agg #[x, y]) n ∧
    IsInt ((((w.setCell ⟨g, 0, none⟩ x).setCell ⟨g, 1, none⟩ y).setCell ⟨h, 0, none⟩ x').setCell ⟨h, 1, none⟩ y') (.agg #[x', y']) m ∧
    Below w0.heap.size w0 ((((w.setCell ⟨g, 0, none⟩ x).setCell ⟨g, 1, none⟩ y).setCell ⟨h, 0, none⟩ x').setCell ⟨h, 1, none⟩ y') := by
  have rh' := rh.far (x := x) (y := y) hgh.symm
  have i1 := h1.far (x := x) (y := y) rg hp hq
  have i2 := h2.far (x := x) (y := y) rg hp hq
  have i1' := i1.far (x := x') (y := y') rh' hp' hq'
  have i2' := i2.far (x := x') (y := y') rh' hp' hq'
  exact ⟨(At.put rg hp hq h1).far hgh rh' hp' hq', At.put rh' hp' hq' i2, (Row.put2 rg).far hgh, Row.put2 rh', i1', i2',
    (((hb.setCell (p := ⟨g, 0, none⟩) hg _).setCell (p := ⟨g, 1, none⟩) hg _).setCell (p := ⟨h, 0, none⟩) hh _).setCell (p := ⟨h, 1, none⟩) hh _⟩

theorem sgI_ne {b : Int} (hb : b ≠ 0) : (sgI b == 0) = false := by unfold sgI; split <;> first | rfl | (split <;> first | rfl | omega)

set_option maxHeartbeats 1600000 in
theorem divmod_walk (va vb : Value) (a b : Int) (w : World) (ha : IsInt w va a) (hb : IsInt w vb b) (hla : (digs a.natAbs).length < 8796093022208) (hlb : (digs b.natAbs).length < 8796093022200) (hb0 : b ≠ 0) :
    Calls Tryd.prog 27 #[va, vb] w fun e w' => ∃ q r, e = .returned (.tuple #[q, r, .int .i64 0]) ∧ IsInt w' q (Int.fdiv a b) ∧ IsInt w' r (Int.fmod a b) ∧ Below w.heap.size w w' := by
  have hia := ha
  have hib := hb
  obtain ⟨A, ca, rfl, hca, hcma, hua⟩ := ha
  obtain ⟨B, cb, rfl, hcb, hcmb, hub⟩ := hb
  obtain ⟨s, hs⟩ : ∃ s, s = decide (a < 0) := ⟨_, rfl⟩
  obtain ⟨t, ht⟩ : ∃ s, s = decide (b < 0) := ⟨_, rfl⟩
  rw [← hs] at hia ⊢
  rw [← ht] at hib ⊢
  have hsb := sgI_ne hb0
  have HS := Lib.hid hs
  have HT := Lib.hid ht
  have HUA := Lib.hid hua
  have HUB := Lib.hid hub
  have HIB := Lib.hid hib
  have HIA := Lib.hid hia
  have HB0 := Lib.hid hb0
  obtain ⟨na, hna⟩ : ∃ n, n = (digs a.natAbs).length := ⟨_, rfl⟩
  obtain ⟨nb, hnb⟩ : ∃ n, n = (digs b.natAbs).length := ⟨_, rfl⟩
  rw [← hna, ← hnb]
  have HNA := Lib.hid hna
  have HNB := Lib.hid hnb
  clear hs ht hua hub hib hia hb0 hna hnb
  obtain ⟨W, hW⟩ : ∃ W, W = (((w.alloc (.cells #[.bool s, .slice A na ca] 25)).alloc (.cells #[.bool t, .slice B nb cb] 25)).alloc (.cells #[.bool false, .slice none 0 0] 25)).alloc (.cells #[.bool false, .slice none 0 0] 25) := ⟨_, rfl⟩
  obtain ⟨r1, r2, r3, r4, hWs, hWB⟩ := boxes4 w (.cells #[.bool s, .slice A na ca] 25) (.cells #[.bool t, .slice B nb cb] 25) (.cells #[.bool false, .slice none 0 0] 25) (.cells #[.bool false, .slice none 0 0] 25)
  rw [← hW] at r1 r2 r3 r4 hWs hWB
  have r1 : Row W w.heap.size 25 [.bool s, .slice A na ca] := r1
  have r2 : Row W (w.heap.size + 1) 25 [.bool t, .slice B nb cb] := r2
  have r3 : Row W (w.heap.size + 1 + 1) 25 [.bool false, .slice none 0 0] := r3
  have r4 : Row W (w.heap.size + 1 + 1 + 1) 25 [.bool false, .slice none 0 0] := r4
  go_enter Tryd.func27, Tryd.ntmps27
  go_wp2_with fail
  rw [← hW]
  clear hW
  have HWB := Lib.hid hWB
  clear hWB
  refine (sign_walk _ b W (by have := HIB.out.below HWB.out; rwa [← HNB.out] at this)).mono ?_
  rintro e w1 ⟨rfl, hb1⟩
  have r1' := r1.below hb1 (by omega)
  have r2' := r2.below hb1 (by omega)
  have e1 := r1'.at_ 0 rfl
  have e2 := r1'.at_ 1 rfl
  have e3 := r2'.at_ 0 rfl
  have e4 := r2'.at_ 1 rfl
  have HW1 := Lib.hid (HWB.out.trans (hb1.mono HWB.out.size))
  go_wp2_with fail
  have hd := divide_walk A B ca cb a.natAbs b.natAbs w1 (by exact HUA.out.below HW1.out) (by exact HUB.out.below HW1.out) hca hcma (by omega) (by omega) (by have := HB0.out; omega)
  rw [← HNA.out, ← HNB.out] at hd
  refine hd.mono ?_
  clear hd
  rintro e w2 ⟨x, y, rfl, hx, hy, hb2⟩
  have hw2 := HW1.out.trans (hb2.mono HW1.out.size)
  have hbs := hb1.size
  have hbs2 := hb2.size
  have p1 := r1'.below hb2 (by omega)
  have p2 := r2'.below hb2 (by omega)
  have p3 := (r3.below hb1 (by omega)).below hb2 (by omega)
  have p4 := (r4.below hb1 (by omega)).below hb2 (by omega)
  have HX := Lib.hid hx
  have HY := Lib.hid hy
  have HW2 := Lib.hid hw2
  have hn2 : w.heap.size + 4 ≤ w2.heap.size := by omega
  clear hx hy hw2 hb2 r1 r2 r3 r4 r1' r2' hb1 HW1 hWs hsb e1 e2 e3 e4
  have P1 := Lib.hid p1
  have P2 := Lib.hid p2
  have P3 := Lib.hid p3
  have P4 := Lib.hid p4
  have HX' := Lib.hid (IsU32.below HX.out.isU32 ((Below.refl w2.heap.size w2).drew))
  have c1 := p1.at_ 0 rfl
  have c2 := p2.at_ 0 rfl
  have c1d : w2.drew.cell? ⟨w.heap.size, 0, none⟩ = some (.bool s) := c1
  have c2d : w2.drew.cell? ⟨w.heap.size + 1, 0, none⟩ = some (.bool t) := c2
  clear p1 p2 p3 p4
  go_upto_region 4 with (fail)
  go_cut [7] (fun _ wx => At wx w.heap.size a ∧ At wx (w.heap.size + 1) b ∧ At wx (w.heap.size + 1 + 1) (sgn (s != t) (a.natAbs / b.natAbs)) ∧ At wx (w.heap.size + 1 + 1 + 1) (sgn s (a.natAbs % b.natAbs)) ∧ Below w.heap.size w wx)
  case first =>
    go_region_held3 (fun w' => w'.cell? ⟨w.heap.size, 0, none⟩ = some (.bool s) ∧ w'.cell? ⟨w.heap.size + 1, 0, none⟩ = some (.bool t))
      (first | with_reducible exact ⟨c1, c2⟩ | with_reducible exact ⟨c1d, c2d⟩ | with_reducible exact ⟨e1', e3'⟩ | with_reducible exact ⟨e1'', e3''⟩ | exact ⟨(cell_far2 _ _ _ _ _ _ _ _ (by omega)).trans e1'', (cell_far2 _ _ _ _ _ _ _ _ (by omega)).trans e3''⟩ | exact ⟨(cell_far2 _ _ _ _ _ _ _ _ (by omega)).trans ((cell_far2 _ _ _ _ _ _ _ _ (by omega)).trans e1''), (cell_far2 _ _ _ _ _ _ _ _ (by omega)).trans ((cell_far2 _ _ _ _ _ _ _ _ (by omega)).trans e3'')⟩ | go_keep)
      (first
        | (go_at_call 45
           have hck := HI1
           clear hck
           refine (signed_walk s y (digs (a.natAbs % b.natAbs)) _ ?hy).mono ?_
           case hy => exact (HY.out.below HBA.out).isU32
           rintro e w4 ⟨v2, rfl, hi2, hbB⟩
           obtain ⟨s2, A2, l2, c2', rfl⟩ := hi2.shape
           have HI2 := Lib.hid hi2
           clear hi2
           have hbB : Below w3.heap.size w3 w4 := hbB
           have e1'' := ((bbelow hbB).1 w.heap.size 0 (by omega)).trans e1'
           have e3'' := ((bbelow hbB).1 (w.heap.size + 1) 0 (by omega)).trans e3'
           have hsB := hbB.size
           have q3 := (P3.out.below HBA.out (by omega)).below hbB (by omega)
           have q4 := (P4.out.below HBA.out (by omega)).below hbB (by omega)
           have k1 := q3.at_ 0 rfl
           have k2 := q3.at_ 1 rfl
           have k3 := q3.free 0
           have k4 := q3.free 1
           have k5 := q4.at_ 0 rfl
           have k6 := q4.at_ 1 rfl
           have k7 := q4.free 0
           have k8 := q4.free 1
           have Q3 := Lib.hid q3
           have Q4 := Lib.hid q4
           have HBB := Lib.hid hbB
           clear hbB q3 q4)
        | (go_at_call 45
           refine (signed_walk (s != t) x (digs (a.natAbs / b.natAbs)) _ ?hx).mono ?_
           case hx => exact HX'.out
           rintro e w3 ⟨v1, rfl, hi1, hbA⟩
           obtain ⟨s1, A1, l1, c1', rfl⟩ := hi1.shape
           have HI1 := Lib.hid hi1
           clear hi1
           have hbA : Below w2.heap.size w2 w3 := (Below.refl _ w2).drew.trans hbA
           have e1' := ((bbelow hbA).1 w.heap.size 0 (by omega)).trans c1
           have e3' := ((bbelow hbA).1 (w.heap.size + 1) 0 (by omega)).trans c2
           have hsA := hbA.size
           have HBA := Lib.hid hbA
           clear hbA))
    go_wp2_with fail
    go_meet
    have hi1 := HI1.out.below HBB.out
    have t1 := At.put Q3.out (by simp) (by simp) hi1
    have t4 := (Q4.out.far (x := .bool s1) (y := .slice A1 l1 c1') (show w.heap.size + 1 + 1 + 1 ≠ w.heap.size + 1 + 1 by omega))
    have t2 := At.put t4 (by simp) (by simp) (HI2.out.far Q3.out (by simp) (by simp))
    have b34 : Below w2.heap.size w2 w4 := HBA.out.trans (HBB.out.mono hsA)
    have ta : At w4 w.heap.size a := ⟨s, A, na, ca, P1.out.below b34 (by omega), by rw [HNA.out]; exact HIA.out.below (HW2.out.trans (b34.mono (by omega)))⟩
    have tb : At w4 (w.heap.size + 1) b := ⟨t, B, nb, cb, P2.out.below b34 (by omega), by rw [HNB.out]; exact HIB.out.below (HW2.out.trans (b34.mono (by omega)))⟩
    rw [val_digs] at t1 t2
    refine ⟨(ta.far (by omega) Q3.out (by simp) (by simp)).far (by omega) t4 (by simp) (by simp), (tb.far (by omega) Q3.out (by simp) (by simp)).far (by omega) t4 (by simp) (by simp), t1.far (by omega) t4 (by simp) (by simp), t2, ?_⟩
    have hb := HW2.out.trans (b34.mono (by omega))
    exact (((hb.setCell (p := ⟨w.heap.size + 1 + 1, 0, none⟩) (by simp; omega) _).setCell (p := ⟨w.heap.size + 1 + 1, 1, none⟩) (by simp; omega) _).setCell (p := ⟨w.heap.size + 1 + 1 + 1, 0, none⟩) (by simp; omega) _).setCell (p := ⟨w.heap.size + 1 + 1 + 1, 1, none⟩) (by simp; omega) _
  case rest =>
    obtain ⟨ha, hb, hq, hr, hbw⟩ := hcut
    obtain ⟨s2, A2, l2, c2, rb, hib⟩ := hb
    obtain ⟨s3, A3, l3, c3, rq, hiq⟩ := hq
    obtain ⟨s4, A4, l4, c4, rr, hir⟩ := hr
    obtain ⟨q0, hq0⟩ : ∃ q0, q0 = sgn (s != t) (a.natAbs / b.natAbs) := ⟨_, rfl⟩
    obtain ⟨r0, hr0⟩ : ∃ r0, r0 = sgn s (a.natAbs % b.natAbs) := ⟨_, rfl⟩
    rw [← hq0] at hiq
    rw [← hr0] at hir
    have HQ0 := Lib.hid hq0
    have HR0 := Lib.hid hr0
    have hsw := hbw.size
    have ts2 : s2 = decide (b < 0) := by obtain ⟨_, _, hv, _⟩ := hib; simp at hv; exact hv.1
    have ts4 : s4 = decide (r0 < 0) := by obtain ⟨_, _, hv, _⟩ := hir; simp at hv; exact hv.1
    have hqr := quot_rest a b HB0.out q0 r0 (by rw [hq0, HS.out, HT.out]) (by rw [hr0, HS.out])
    have hlq : (digs q0.natAbs).length < 8796093022208 := by
      rw [hq0, sgn_natAbs]; exact Nat.lt_of_le_of_lt (digs_len_mono (Nat.div_le_self _ _)) hla
    have hlr : (digs r0.natAbs).length < 8796093022208 := Nat.lt_of_le_of_lt (digs_len_mono (Nat.le_of_lt hqr.2)) (by omega)
    have HLQ := Lib.hid hlq
    have HLR := Lib.hid hlr
    clear hlq hlr
    have HQR := Lib.hid hqr
    have TS2 := Lib.hid ts2
    have TS4 := Lib.hid ts4
    clear hq0 hr0 hqr ts2 ts4 HQ0 HR0
    have hn4 := rr.lt
    by_cases hz : r0 = 0
    · have hz1 : (sgI r0 != 0) = false := by rw [hz]; rfl
      have hfl := floor_same HQR.out (.inl hz)
      have HFL := Lib.hid hfl
      have HIR := Lib.hid hir
      have k7 := rr.at_ 0 rfl
      have k8 := rr.at_ 1 rfl
      clear hz hfl hir
      go_wp2_with fail
      refine (sign_walk _ r0 wc (by exact HIR.out)).mono ?_
      rintro e wE ⟨rfl, hbE⟩
      clear k7 k8
      have rqE := rq.below hbE (by omega)
      have rrE := rr.below hbE (by omega)
      have hiqE : IsInt wE (.agg #[.bool s3, .slice A3 l3 c3]) (Int.fdiv a b) := by rw [← HFL.out.1]; exact hiq.below hbE
      have hirE : IsInt wE (.agg #[.bool s4, .slice A4 l4 c4]) (Int.fmod a b) := by rw [← HFL.out.2]; exact HIR.out.below hbE
      have hbwE : Below w.heap.size w wE := hbw.trans (hbE.mono hsw)
      clear rq rr rb
      have k5 := rqE.at_ 0 rfl
      have k6 := rqE.at_ 1 rfl
      have k7 := rrE.at_ 0 rfl
      have k8 := rrE.at_ 1 rfl
      have k9 := rqE.free 0
      have k10 := rqE.free 1
      have k11 := rrE.free 0
      have k12 := rrE.free 1
      have RQE := Lib.hid rqE
      have RRE := Lib.hid rrE
      have HIQE := Lib.hid hiqE
      have HIRE := Lib.hid hirE
      clear rqE rrE hiqE hirE
      go_wp2_with fail
      refine wp_region_late (fun w' => w'.cell? ⟨w.heap.size + 1 + 1, 0, none⟩ = some (.bool s3) ∧ w'.cell? ⟨w.heap.size + 1 + 1, 1, none⟩ = some (.slice A3 l3 c3) ∧
        w'.cell? ⟨w.heap.size + 1 + 1 + 1, 0, none⟩ = some (.bool s4) ∧ w'.cell? ⟨w.heap.size + 1 + 1 + 1, 1, none⟩ = some (.slice A4 l4 c4)) (fun i => decide (3 ≤ i)) (by kernel_rfl) ?_
      have htw := At.twice (w0 := w) RQE.out RRE.out (by omega) (by simp) (by simp) (by simp) (by simp) HIQE.out HIRE.out hbwE (by omega) (by omega)
      obtain ⟨-, -, f1, f2, f3, f4, f5⟩ := htw
      have F1 := Lib.hid f1
      have F2 := Lib.hid f2
      have F3 := Lib.hid f3
      have F4 := Lib.hid f4
      have F5 := Lib.hid f5
      have m1 := f1.at_ 0 rfl
      have m2 := f1.at_ 1 rfl
      have m3 := f2.at_ 0 rfl
      have m4 := f2.at_ 1 rfl
      have g1 := (RQE.out.put2 (x := .bool s3) (y := .slice A3 l3 c3))
      have g2 := (RRE.out.far (g' := w.heap.size + 1 + 1) (x := .bool s3) (y := .slice A3 l3 c3) (by omega))
      have n1 := g1.at_ 0 rfl
      have n2 := g1.at_ 1 rfl
      have n3 := g2.at_ 0 rfl
      have n4 := g2.at_ 1 rfl
      clear f1 f2 f3 f4 f5 g1 g2
      refine wpAnyE_take (i := 0) (v := .agg #[.bool s3, .slice A3 l3 c3]) rfl (by kernel_rfl) (by kernel_rfl) (by kernel_rfl) (by kernel_rfl) (fun _ _ _ h => h) (Or.inl ⟨by rfl, ?_⟩) ⟨k5, k6, k7, k8⟩ ?_
      · rintro w' ⟨m1, m2, m3, m4⟩
        go_simp
      simp only [Act.put, List.setIfInBounds_toArray]
      refine wpAnyE_take (i := 1) (v := .agg #[.bool s4, .slice A4 l4 c4]) rfl (by kernel_rfl) (by kernel_rfl) (by kernel_rfl) (by kernel_rfl) (fun _ _ _ h => h) (Or.inl ⟨by rfl, ?_⟩) ⟨k5, k6, k7, k8⟩ ?_
      · rintro w' ⟨m1, m2, m3, m4⟩
        go_simp
      simp only [Act.put]
      refine wpAnyE_ready (rs := [2]) (by kernel_rfl) (by simp) (AllReadyE.cons rfl (fun K hK => ?_) AllReadyE.nil)
      go_simp
      refine hK.out _ _ (fun _ => ⟨n1, n2, n3, n4⟩) ?_
      clear hK K
      refine wpAnyE_ready (rs := [3]) (by kernel_rfl) (by simp) (AllReadyE.cons rfl (fun K hK => ?_) AllReadyE.nil)
      go_simp
      refine hK.out _ _ (fun h => by simp at h) ?_
      clear hK K
      refine wpAnyE_ready (rs := [4]) (by kernel_rfl) (by simp) (AllReadyE.cons rfl (fun K hK => ?_) AllReadyE.nil)
      go_simp
      refine hK.out _ _ (fun h => by simp at h) ?_
      clear hK K
      refine wpAnyE_done (by kernel_rfl) ?_ _
      go_wp2_with fail
      refine bodyPost_ret (v := .tuple #[.agg #[.bool s3, .slice A3 l3 c3], .agg #[.bool s4, .slice A4 l4 c4], .int .i64 0]) (by simp [results, Tryd.results27, go_sem, m1, m2, m3, m4]) rfl ?_
      exact ⟨_, _, rfl, F3.out.below ((Below.refl _ _).drew), F4.out.below ((Below.refl _ _).drew), F5.out.drew⟩
    · have hz1 : (sgI r0 != 0) = true := by
        have := sgI_ne hz
        simpa using this
      by_cases hst : s4 = s2
      · have hst' : (s4 == s2) = true := by rw [hst]; simp
        have hfl := floor_same HQR.out (.inr (by rw [← TS4.out, ← TS2.out]; exact hst))
        have HFL := Lib.hid hfl
        have HIR := Lib.hid hir
        have k7 := rr.at_ 0 rfl
        have k8 := rr.at_ 1 rfl
        clear hst hz hfl hir
        go_wp2_with fail
        refine (sign_walk _ r0 wc (by exact HIR.out)).mono ?_
        rintro e wE ⟨rfl, hbE⟩
        have k3' := (rb.below hbE (by omega)).at_ 0 rfl
        clear k7 k8
        have rqE := rq.below hbE (by omega)
        have rrE := rr.below hbE (by omega)
        have hiqE : IsInt wE (.agg #[.bool s3, .slice A3 l3 c3]) (Int.fdiv a b) := by rw [← HFL.out.1]; exact hiq.below hbE
        have hirE : IsInt wE (.agg #[.bool s4, .slice A4 l4 c4]) (Int.fmod a b) := by rw [← HFL.out.2]; exact HIR.out.below hbE
        have hbwE : Below w.heap.size w wE := hbw.trans (hbE.mono hsw)
        clear rq rr rb
        have k5 := rqE.at_ 0 rfl
        have k6 := rqE.at_ 1 rfl
        have k7 := rrE.at_ 0 rfl
        have k8 := rrE.at_ 1 rfl
        have k9 := rqE.free 0
        have k10 := rqE.free 1
        have k11 := rrE.free 0
        have k12 := rrE.free 1
        have RQE := Lib.hid rqE
        have RRE := Lib.hid rrE
        have HIQE := Lib.hid hiqE
        have HIRE := Lib.hid hirE
        clear rqE rrE hiqE hirE
        go_wp2_with fail
        refine wp_region_late (fun w' => w'.cell? ⟨w.heap.size + 1 + 1, 0, none⟩ = some (.bool s3) ∧ w'.cell? ⟨w.heap.size + 1 + 1, 1, none⟩ = some (.slice A3 l3 c3) ∧
          w'.cell? ⟨w.heap.size + 1 + 1 + 1, 0, none⟩ = some (.bool s4) ∧ w'.cell? ⟨w.heap.size + 1 + 1 + 1, 1, none⟩ = some (.slice A4 l4 c4)) (fun i => decide (3 ≤ i)) (by kernel_rfl) ?_
        have htw := At.twice (w0 := w) RQE.out RRE.out (by omega) (by simp) (by simp) (by simp) (by simp) HIQE.out HIRE.out hbwE (by omega) (by omega)
        obtain ⟨-, -, f1, f2, f3, f4, f5⟩ := htw
        have F1 := Lib.hid f1
        have F2 := Lib.hid f2
        have F3 := Lib.hid f3
        have F4 := Lib.hid f4
        have F5 := Lib.hid f5
        have m1 := f1.at_ 0 rfl
        have m2 := f1.at_ 1 rfl
        have m3 := f2.at_ 0 rfl
        have m4 := f2.at_ 1 rfl
        have g1 := (RQE.out.put2 (x := .bool s3) (y := .slice A3 l3 c3))
        have g2 := (RRE.out.far (g' := w.heap.size + 1 + 1) (x := .bool s3) (y := .slice A3 l3 c3) (by omega))
        have n1 := g1.at_ 0 rfl
        have n2 := g1.at_ 1 rfl
        have n3 := g2.at_ 0 rfl
        have n4 := g2.at_ 1 rfl
        clear f1 f2 f3 f4 f5 g1 g2
        refine wpAnyE_take (i := 0) (v := .agg #[.bool s3, .slice A3 l3 c3]) rfl (by kernel_rfl) (by kernel_rfl) (by kernel_rfl) (by kernel_rfl) (fun _ _ _ h => h) (Or.inl ⟨by rfl, ?_⟩) ⟨k5, k6, k7, k8⟩ ?_
        · rintro w' ⟨m1, m2, m3, m4⟩
          go_simp
        simp only [Act.put, List.setIfInBounds_toArray]
        refine wpAnyE_take (i := 1) (v := .agg #[.bool s4, .slice A4 l4 c4]) rfl (by kernel_rfl) (by kernel_rfl) (by kernel_rfl) (by kernel_rfl) (fun _ _ _ h => h) (Or.inl ⟨by rfl, ?_⟩) ⟨k5, k6, k7, k8⟩ ?_
        · rintro w' ⟨m1, m2, m3, m4⟩
          go_simp
        simp only [Act.put]
        refine wpAnyE_ready (rs := [2]) (by kernel_rfl) (by simp) (AllReadyE.cons rfl (fun K hK => ?_) AllReadyE.nil)
        go_simp
        refine hK.out _ _ (fun _ => ⟨n1, n2, n3, n4⟩) ?_
        clear hK K
        refine wpAnyE_ready (rs := [3]) (by kernel_rfl) (by simp) (AllReadyE.cons rfl (fun K hK => ?_) AllReadyE.nil)
        go_simp
        refine hK.out _ _ (fun h => by simp at h) ?_
        clear hK K
        refine wpAnyE_ready (rs := [4]) (by kernel_rfl) (by simp) (AllReadyE.cons rfl (fun K hK => ?_) AllReadyE.nil)
        go_simp
        refine hK.out _ _ (fun h => by simp at h) ?_
        clear hK K
        refine wpAnyE_done (by kernel_rfl) ?_ _
        go_wp2_with fail
        refine bodyPost_ret (v := .tuple #[.agg #[.bool s3, .slice A3 l3 c3], .agg #[.bool s4, .slice A4 l4 c4], .int .i64 0]) (by simp [results, Tryd.results27, go_sem, m1, m2, m3, m4]) rfl ?_
        exact ⟨_, _, rfl, F3.out.below ((Below.refl _ _).drew), F4.out.below ((Below.refl _ _).drew), F5.out.drew⟩
      · have hst' : (s4 == s2) = false := by simpa using hst
        have hfl := floor_other HQR.out hz (by rw [← TS4.out, ← TS2.out]; exact hst)
        have HFL := Lib.hid hfl
        have HIR := Lib.hid hir
        have HIQ := Lib.hid hiq
        have HIB' := Lib.hid hib
        have k7 := rr.at_ 0 rfl
        have k8 := rr.at_ 1 rfl
        clear hst hz hfl hir hiq hib
        go_wp2_with fail
        refine (sign_walk _ r0 wc (by exact HIR.out)).mono ?_
        rintro e wS ⟨rfl, hbS⟩
        clear k7 k8
        have rbS := rb.below hbS (by omega)
        have rrS := rr.below hbS (by omega)
        have rqS := rq.below hbS (by omega)
        have k1 := rbS.at_ 0 rfl
        have k2 := rbS.at_ 1 rfl
        have k3 := rqS.at_ 0 rfl
        have k4 := rqS.at_ 1 rfl
        have k5 := rrS.at_ 0 rfl
        have k6 := rrS.at_ 1 rfl
        have RBS := Lib.hid rbS
        have RRS := Lib.hid rrS
        have RQS := Lib.hid rqS
        have HBS := Lib.hid hbS
        have hsS := hbS.size
        clear rbS rrS rqS hbS rb rr rq
        go_wp2_with fail
        clear hst' hz1
        have k1d : wS.drew.cell? ⟨w.heap.size + 1, 0, none⟩ = some (.bool s2) := k1
        have k2d : wS.drew.cell? ⟨w.heap.size + 1, 1, none⟩ = some (.slice A2 l2 c2) := k2
        have hl1 : (digs (1 : Int).natAbs).length < 8796093022208 := Nat.lt_of_le_of_lt (digs_len_le (k := 1) (by decide)) (by decide)
        have HL1 := Lib.hid hl1
        clear hl1
        go_cut [7] (fun _ wx => At wx (w.heap.size + 1 + 1) (Int.fdiv a b) ∧ At wx (w.heap.size + 1 + 1 + 1) (Int.fmod a b) ∧ Below w.heap.size w wx)
        case first =>
          have k3d : wS.drew.cell? ⟨w.heap.size + 1 + 1, 0, none⟩ = some (.bool s3) := k3
          have k4d : wS.drew.cell? ⟨w.heap.size + 1 + 1, 1, none⟩ = some (.slice A3 l3 c3) := k4
          have k5d : wS.drew.cell? ⟨w.heap.size + 1 + 1 + 1, 0, none⟩ = some (.bool s4) := k5
          have k6d : wS.drew.cell? ⟨w.heap.size + 1 + 1 + 1, 1, none⟩ = some (.slice A4 l4 c4) := k6
          refine wp_region_late (fun w' => w'.cell? ⟨w.heap.size + 1, 0, none⟩ = some (.bool s2) ∧ w'.cell? ⟨w.heap.size + 1, 1, none⟩ = some (.slice A2 l2 c2) ∧ w'.cell? ⟨w.heap.size + 1 + 1, 0, none⟩ = some (.bool s3) ∧ w'.cell? ⟨w.heap.size + 1 + 1, 1, none⟩ = some (.slice A3 l3 c3) ∧
            w'.cell? ⟨w.heap.size + 1 + 1 + 1, 0, none⟩ = some (.bool s4) ∧ w'.cell? ⟨w.heap.size + 1 + 1 + 1, 1, none⟩ = some (.slice A4 l4 c4)) (fun i => decide (6 ≤ i)) (by kernel_rfl) ?_
          refine wpAnyE_take (i := 0) (v := .agg #[.bool s3, .slice A3 l3 c3]) rfl (by kernel_rfl) (by kernel_rfl) (by kernel_rfl) (by kernel_rfl) (fun _ _ _ h => h) (Or.inl ⟨by rfl, ?_⟩) ⟨k1d, k2d, k3d, k4d, k5d, k6d⟩ ?_
          · rintro w' ⟨m1, m2, m3, m4, m5, m6⟩
            go_simp
          simp only [Act.put, List.setIfInBounds_toArray]
          refine wpAnyE_take (i := 3) (v := .agg #[.bool s4, .slice A4 l4 c4]) rfl (by kernel_rfl) (by kernel_rfl) (by kernel_rfl) (by kernel_rfl) (fun _ _ _ h => h) (Or.inl ⟨by rfl, ?_⟩) ⟨k1d, k2d, k3d, k4d, k5d, k6d⟩ ?_
          · rintro w' ⟨m1, m2, m3, m4, m5, m6⟩
            go_simp
          simp only [Act.put]
          refine wpAnyE_take (i := 4) (v := .agg #[.bool s2, .slice A2 l2 c2]) rfl (by kernel_rfl) (by kernel_rfl) (by kernel_rfl) (by kernel_rfl) (fun _ _ _ h => h) (Or.inl ⟨by rfl, ?_⟩) ⟨k1d, k2d, k3d, k4d, k5d, k6d⟩ ?_
          · rintro w' ⟨m1, m2, m3, m4, m5, m6⟩
            go_simp
          simp only [Act.put]
          refine wpAnyE_ready (rs := [1]) (by kernel_rfl) (by simp) (AllReadyE.cons rfl (fun K hK => ?_) AllReadyE.nil)
          go_simp
          refine (from_walk 1 _ (by decide) (by decide)).mono ?_
          rintro e wF ⟨v5, rfl, hi5, hbF⟩
          have hbF : Below wS.heap.size wS wF := (Below.refl _ wS).drew.trans hbF
          have hsF := hbF.size
          have HI5 := Lib.hid hi5
          have rbF := RBS.out.below hbF (by omega)
          have rqF := RQS.out.below hbF (by omega)
          have rrF := RRS.out.below hbF (by omega)
          go_wp2_with fail
          refine hK.out _ _ (fun _ => ⟨rbF.at_ 0 rfl, rbF.at_ 1 rfl, rqF.at_ 0 rfl, rqF.at_ 1 rfl, rrF.at_ 0 rfl, rrF.at_ 1 rfl⟩) ?_
          clear hK K hi5 k1d k2d k3d k4d k5d k6d k1 k2 k3 k4 k5 k6
          refine wpAnyE_ready (rs := [2]) (by kernel_rfl) (by simp) (AllReadyE.cons rfl (fun K hK => ?_) AllReadyE.nil)
          go_simp
          refine (sub_walk (.agg #[.bool s3, .slice A3 l3 c3]) v5 q0 1 wF ((HIQ.out.below HBS.out).below hbF) HI5.out HLQ.out HL1.out).mono ?_
          rintro e wG ⟨v6, rfl, hi6, hbG⟩
          obtain ⟨s6, A6, l6, c6, rfl⟩ := hi6.shape
          have hsG := hbG.size
          have rbG := rbF.below hbG (by omega)
          have rqG := rqF.below hbG (by omega)
          have rrG := rrF.below hbG (by omega)
          go_wp2_with fail
          refine hK.out _ _ (fun _ => ⟨rbG.at_ 0 rfl, rbG.at_ 1 rfl, rqG.at_ 0 rfl, rqG.at_ 1 rfl, rrG.at_ 0 rfl, rrG.at_ 1 rfl⟩) ?_
          clear hK K
          refine wpAnyE_ready (rs := [5]) (by kernel_rfl) (by simp) (AllReadyE.cons rfl (fun K hK => ?_) AllReadyE.nil)
          go_simp
          refine (add_walk (.agg #[.bool s4, .slice A4 l4 c4]) (.agg #[.bool s2, .slice A2 l2 c2]) r0 b wG (((HIR.out.below HBS.out).below hbF).below hbG) (((HIB'.out.below HBS.out).below hbF).below hbG) HLR.out (by omega)).mono ?_
          rintro e wH ⟨v7, rfl, hi7, hbH⟩
          obtain ⟨s7, A7, l7, c7, rfl⟩ := hi7.shape
          have hsH := hbH.size
          have rbH := rbG.below hbH (by omega)
          have rqH := rqG.below hbH (by omega)
          have rrH := rrG.below hbH (by omega)
          go_wp2_with fail
          refine hK.out _ _ (fun _ => ⟨rbH.at_ 0 rfl, rbH.at_ 1 rfl, rqH.at_ 0 rfl, rqH.at_ 1 rfl, rrH.at_ 0 rfl, rrH.at_ 1 rfl⟩) ?_
          clear hK K
          have x1 := rqH.at_ 0 rfl
          have x2 := rqH.at_ 1 rfl
          have x3 := rrH.at_ 0 rfl
          have x4 := rrH.at_ 1 rfl
          have x5 := rqH.free 0
          have x6 := rqH.free 1
          have x7 := rrH.free 0
          have x8 := rrH.free 1
          refine wpAnyE_ready (rs := [6]) (by kernel_rfl) (by simp) (AllReadyE.cons rfl (fun K hK => ?_) AllReadyE.nil)
          go_simp
          refine hK.out _ _ (fun h => by simp at h) ?_
          clear hK K
          refine wpAnyE_ready (rs := [7]) (by kernel_rfl) (by simp) (AllReadyE.cons rfl (fun K hK => ?_) AllReadyE.nil)
          go_simp
          refine hK.out _ _ (fun h => by simp at h) ?_
          clear hK K
          refine wpAnyE_done (by kernel_rfl) ?_ _
          have htw := At.twice (w0 := w) rqH rrH (by omega) (by simp) (by simp) (by simp) (by simp) (hi6.below hbH) hi7 (((hbw.trans (HBS.out.mono hsw)).trans (hbF.mono (by omega))).trans ((hbG.mono (by omega)).trans (hbH.mono (by omega)))) (by omega) (by omega)
          rw [HFL.out.1, HFL.out.2] at htw
          go_wp2_with fail
          go_meet
          exact ⟨htw.1, htw.2.1, htw.2.2.2.2.2.2⟩
        case rest =>
          obtain ⟨hqE, hrE, hbwE⟩ := hcut
          obtain ⟨s8, A8, l8, c8, rqE, hiqE⟩ := hqE
          obtain ⟨s9, A9, l9, c9, rrE, hirE⟩ := hrE
          have k5 := rqE.at_ 0 rfl
          have k6 := rqE.at_ 1 rfl
          have k7 := rrE.at_ 0 rfl
          have k8 := rrE.at_ 1 rfl
          have k9 := rqE.free 0
          have k10 := rqE.free 1
          have k11 := rrE.free 0
          have k12 := rrE.free 1
          have RQE := Lib.hid rqE
          have RRE := Lib.hid rrE
          have HIQE := Lib.hid hiqE
          have HIRE := Lib.hid hirE
          clear rqE rrE hiqE hirE
          go_wp2_with fail
          refine wp_region_late (fun w' => w'.cell? ⟨w.heap.size + 1 + 1, 0, none⟩ = some (.bool s8) ∧ w'.cell? ⟨w.heap.size + 1 + 1, 1, none⟩ = some (.slice A8 l8 c8) ∧
            w'.cell? ⟨w.heap.size + 1 + 1 + 1, 0, none⟩ = some (.bool s9) ∧ w'.cell? ⟨w.heap.size + 1 + 1 + 1, 1, none⟩ = some (.slice A9 l9 c9)) (fun i => decide (3 ≤ i)) (by kernel_rfl) ?_
          have htw := At.twice (w0 := w) RQE.out RRE.out (by omega) (by simp) (by simp) (by simp) (by simp) HIQE.out HIRE.out hbwE (by omega) (by omega)
          obtain ⟨-, -, f1, f2, f3, f4, f5⟩ := htw
          have F1 := Lib.hid f1
          have F2 := Lib.hid f2
          have F3 := Lib.hid f3
          have F4 := Lib.hid f4
          have F5 := Lib.hid f5
          have m1 := f1.at_ 0 rfl
          have m2 := f1.at_ 1 rfl
          have m3 := f2.at_ 0 rfl
          have m4 := f2.at_ 1 rfl
          have g1 := (RQE.out.put2 (x := .bool s8) (y := .slice A8 l8 c8))
          have g2 := (RRE.out.far (g' := w.heap.size + 1 + 1) (x := .bool s8) (y := .slice A8 l8 c8) (by omega))
          have n1 := g1.at_ 0 rfl
          have n2 := g1.at_ 1 rfl
          have n3 := g2.at_ 0 rfl
          have n4 := g2.at_ 1 rfl
          clear f1 f2 f3 f4 f5 g1 g2
          refine wpAnyE_take (i := 0) (v := .agg #[.bool s8, .slice A8 l8 c8]) rfl (by kernel_rfl) (by kernel_rfl) (by kernel_rfl) (by kernel_rfl) (fun _ _ _ h => h) (Or.inl ⟨by rfl, ?_⟩) ⟨k5, k6, k7, k8⟩ ?_
          · rintro w' ⟨m1, m2, m3, m4⟩
            go_simp
          simp only [Act.put, List.setIfInBounds_toArray]
          refine wpAnyE_take (i := 1) (v := .agg #[.bool s9, .slice A9 l9 c9]) rfl (by kernel_rfl) (by kernel_rfl) (by kernel_rfl) (by kernel_rfl) (fun _ _ _ h => h) (Or.inl ⟨by rfl, ?_⟩) ⟨k5, k6, k7, k8⟩ ?_
          · rintro w' ⟨m1, m2, m3, m4⟩
            go_simp
          simp only [Act.put]
          refine wpAnyE_ready (rs := [2]) (by kernel_rfl) (by simp) (AllReadyE.cons rfl (fun K hK => ?_) AllReadyE.nil)
          go_simp
          refine hK.out _ _ (fun _ => ⟨n1, n2, n3, n4⟩) ?_
          clear hK K
          refine wpAnyE_ready (rs := [3]) (by kernel_rfl) (by simp) (AllReadyE.cons rfl (fun K hK => ?_) AllReadyE.nil)
          go_simp
          refine hK.out _ _ (fun h => by simp at h) ?_
          clear hK K
          refine wpAnyE_ready (rs := [4]) (by kernel_rfl) (by simp) (AllReadyE.cons rfl (fun K hK => ?_) AllReadyE.nil)
          go_simp
          refine hK.out _ _ (fun h => by simp at h) ?_
          clear hK K
          refine wpAnyE_done (by kernel_rfl) ?_ _
          go_wp2_with fail
          refine bodyPost_ret (v := .tuple #[.agg #[.bool s8, .slice A8 l8 c8], .agg #[.bool s9, .slice A9 l9 c9], .int .i64 0]) (by simp [results, Tryd.results27, go_sem, m1, m2, m3, m4]) rfl ?_
          exact ⟨_, _, rfl, F3.out.below ((Below.refl _ _).drew), F4.out.below ((Below.refl _ _).drew), F5.out.drew⟩
end Go.Proofs.YtjeaemoiafamaaaDoor

/- integer.Gcd: the greatest common divisor. -/
namespace Go.Proofs.YtjeaemoiafamaaaDoor
open Go.RowKit

theorem IsMag.int {w : World} {A : Option Addr} {c n : Nat} (h : IsMag w (.slice A (digs n).length c) n) : IsInt w (.agg #[.bool false, .slice A (digs n).length c]) (n : Nat) := by
  obtain ⟨A', c', hv, h1, h2, h3⟩ := h
  simp only [Value.slice.injEq, true_and] at hv
  obtain ⟨rfl, rfl⟩ := hv
  refine ⟨A, c, ?_, ?_, h2, ?_⟩
  · rw [Int.natAbs_natCast, show decide (((n : Nat) : Int) < 0) = false by simp]
  · rw [Int.natAbs_natCast]; exact h1
  · rw [Int.natAbs_natCast]; exact h3

set_option maxHeartbeats 1600000 in
theorem gcd_walk (va vb : Value) (a b : Int) (w : World) (ha : IsInt w va a) (hb : IsInt w vb b) (hla : (digs a.natAbs).length < 8796093022208) (hlb : (digs b.natAbs).length < 8796093022208) :
    Calls Tryd.prog 29 #[va, vb] w fun e w' => ∃ v, e = .returned v ∧ IsInt w' v (Nat.gcd a.natAbs b.natAbs : Nat) ∧ Below w.heap.size w w' := by
  obtain ⟨A, ca, rfl, hca, hcma, hua⟩ := ha
  obtain ⟨B, cb, rfl, hcb, hcmb, hub⟩ := hb
  generalize decide (a < 0) = s at *
  generalize decide (b < 0) = t at *
  generalize a.natAbs = an at *
  generalize b.natAbs = bn at *
  obtain ⟨na, hna⟩ : ∃ n, n = (digs an).length := ⟨_, rfl⟩
  obtain ⟨nb, hnb⟩ : ∃ n, n = (digs bn).length := ⟨_, rfl⟩
  have hma : IsMag w (.slice A na ca) an := ⟨A, ca, by rw [hna], hca, hcma, hua⟩
  have hmb : IsMag w (.slice B nb cb) bn := ⟨B, cb, by rw [hnb], hcb, hcmb, hub⟩
  rw [← hna, ← hnb]
  clear hna hnb hua hub hca hcb
  obtain ⟨W, hW⟩ : ∃ W, W = ((w.alloc (.cells #[.bool s, .slice A na ca] 25)).alloc (.cells #[.bool t, .slice B nb cb] 25)).alloc (.cells #[.bool false, .slice none 0 0] 25) := ⟨_, rfl⟩
  obtain ⟨r1, r2, r3, hWs, hWB⟩ := boxes3 w (.cells #[.bool s, .slice A na ca] 25) (.cells #[.bool t, .slice B nb cb] 25) (.cells #[.bool false, .slice none 0 0] 25)
  rw [← hW] at r1 r2 r3 hWs hWB
  have r3 : Row W (w.heap.size + 1 + 1) 25 [.bool false, .slice none 0 0] := r3
  have r1 : Row W w.heap.size 25 [.bool s, .slice A na ca] := r1
  have r2 : Row W (w.heap.size + 1) 25 [.bool t, .slice B nb cb] := r2
  have e1 := r1.at_ 1 rfl
  have e2 := r2.at_ 1 rfl
  have HMA := Lib.hid (hma.below hWB)
  have HMB := Lib.hid (hmb.below hWB)
  have HR3 := Lib.hid r3
  have HWB := Lib.hid hWB
  have HLA := Lib.hid hla
  have HLB := Lib.hid hlb
  clear hma hmb r3 hWB hla hlb r1 r2
  go_enter Tryd.func29, Tryd.ntmps29
  go_wp2_with fail
  rw [← hW]
  clear hW
  go_quiet (fail)
  go_wp2_with fail
  go_loopg [5, 6] (bn + 1) (fun g xv yv wr => ∃ xn yn : Nat, IsMag wr xv xn ∧ IsMag wr yv yn ∧ g = yn + 1 ∧ Hid (Nat.gcd xn yn = Nat.gcd an bn) ∧ (digs xn).length < 8796093022208 ∧ (digs yn).length < 8796093022208 ∧ Row wr (w.heap.size + 1 + 1) 25 [.bool false, .slice none 0 0] ∧ Below w.heap.size w wr)
  case atStart => exact ⟨an, bn, HMA.out.below (by first | exact (Below.refl _ _).drew | exact below_drewN _ _ _), HMB.out.below (by first | exact (Below.refl _ _).drew | exact below_drewN _ _ _), rfl, Lib.hid rfl, HLA.out, HLB.out, HR3.out, HWB.out.trans (by first | exact (Below.refl _ _).drew | exact below_drewN _ _ _)⟩
  case round =>
    obtain ⟨xn, yn, hx, hy, hg, hgcd, hlx, hly, hr3, hbw⟩ := hrel
    have HX := Lib.hid hx
    have HY := Lib.hid hy
    obtain ⟨X, cx, rfl, hx1, hx2, hx3⟩ := hx
    obtain ⟨Y, cy, rfl, hy1, hy2, hy3⟩ := hy
    have HX3 := Lib.hid hx3
    have HY3 := Lib.hid hy3
    have HG := Lib.hid hg
    have HR3' := Lib.hid hr3
    clear hx3 hy3 hg hr3
    by_cases hz : (0 : Int) < (((digs yn).length : Nat) : Int)
    · have hyp : 0 < yn := digs_len_pos.1 (by omega)
      go_wp2_with fail
      refine (divide_walk X Y cx cy xn yn _ (by exact HX3.out) (by exact HY3.out) hx1 hx2 (by omega) (by omega) hyp).mono ?_
      rintro e w2 ⟨q, r, rfl, hq, hr, hb2⟩
      have HQ := Lib.hid hq
      have HR := Lib.hid hr
      have HB2 := Lib.hid hb2
      clear hq hr hb2
      go_wp2_with fail
      go_roundg (xn.mod yn + 1)
      case measure => have := Nat.mod_lt xn hyp; rw [HG.out]; exact Nat.succ_lt_succ this
      case rel =>
        refine ⟨yn, xn % yn, HY.out.below HB2.out, HR.out, rfl, Lib.hid ?_, hly, ?_, ?_, hbw.trans (HB2.out.mono hbw.size)⟩
        · rw [← hgcd.out, Nat.gcd_comm yn, Nat.gcd_comm xn, ← Nat.gcd_rec]
        · exact Nat.lt_of_le_of_lt (digs_len_mono (Nat.le_of_lt (Nat.mod_lt _ hyp))) hly
        · exact HR3'.out.below HB2.out HR3'.out.lt
    · have hy0 : yn = 0 := digs_len_zero.1 (by omega)
      have HY0 := Lib.hid hy0
      have k1 := HR3'.out.at_ 0 rfl
      have k2 := HR3'.out.at_ 1 rfl
      have k3 := HR3'.out.free 0
      have k4 := HR3'.out.free 1
      clear hy0
      go_wp2_with fail
      have hint := HX.out.int
      refine bodyPost_ret (v := .agg #[.bool false, .slice X (digs xn).length cx]) (by simp [results, Tryd.results29, go_sem, k1, k2]) rfl ?_
      have hxg : xn = Nat.gcd an bn := by rw [← hgcd.out, HY0.out, Nat.gcd_zero_right]
      have hres := res_store hbw HR3'.out (by simp) (by simp) (by omega) (Below.refl _ _) hint
      rw [hxg] at hres ⊢
      exact ⟨_, rfl, hres.1, hres.2⟩
end Go.Proofs.YtjeaemoiafamaaaDoor

/- integer.Power: a power. -/
namespace Go.Proofs.YtjeaemoiafamaaaDoor
open Go.RowKit

theorem digs_pow (a : Int) (k : Nat) : (digs (a ^ k).natAbs).length ≤ (digs a.natAbs).length * k + 1 := by
  refine digs_len_le ?_
  rw [Int.natAbs_pow, Nat.pow_succ, Nat.pow_mul]
  have h1 := Nat.pow_le_pow_left (Nat.le_of_lt (lt_pow_digs a.natAbs)) k
  have h2 : 0 < (BB ^ (digs a.natAbs).length) ^ k := Nat.pow_pos (Nat.pow_pos (by decide))
  have h3 : (BB ^ (digs a.natAbs).length) ^ k * 2 ≤ (BB ^ (digs a.natAbs).length) ^ k * BB := Nat.mul_le_mul_left _ (by decide)
  omega

/-- A new block into which an integer is stored. -/
theorem At.fresh {w0 w : World} {x y : Value} {n : Int} {o : Obj} (h : IsInt w (.agg #[x, y]) n) (_hb : Below w0.heap.size w0 w) (ho : o = .cells #[.bool false, .slice none 0 0] 25) :
    At (((w.alloc o).setCell ⟨w.heap.size, 0, none⟩ x).setCell ⟨w.heap.size, 1, none⟩ y) w.heap.size n ∧
    Below w.heap.size w (((w.alloc o).setCell ⟨w.heap.size, 0, none⟩ x).setCell ⟨w.heap.size, 1, none⟩ y) := by
  subst ho
  obtain ⟨r, _, hB⟩ := boxes1 w (.cells #[.bool false, .slice none 0 0] 25)
  have r : Row (w.alloc (.cells #[.bool false, .slice none 0 0] 25)) w.heap.size 25 [.bool false, .slice none 0 0] := r
  exact ⟨At.put r (by simp) (by simp) (h.below hB), (hB.setCell (p := ⟨w.heap.size, 0, none⟩) (Nat.le_refl _) _).setCell (p := ⟨w.heap.size, 1, none⟩) (Nat.le_refl _) _⟩

set_option maxHeartbeats 1600000 in
theorem power_walk (va : Value) (a : Int) (n : Nat) (w : World) (ha : IsInt w va a) (hla : (digs a.natAbs).length < 1099511627) (hn : n ≤ 64) :
    Calls Tryd.prog 31 #[va, .int .i64 n] w fun e w' => ∃ v, e = .returned (.tuple #[v, .int .i64 0]) ∧ IsInt w' v (a ^ n) ∧ Below w.heap.size w w' := by
  have hia := ha
  obtain ⟨A, ca, rfl, hca, hcma, hua⟩ := ha
  generalize decide (a < 0) = s at *
  obtain ⟨na, hna⟩ : ∃ n, n = (digs a.natAbs).length := ⟨_, rfl⟩
  rw [← hna] at hia ⊢
  have HLA := Lib.hid hla
  clear hna hla hua hca hcma
  have hn64 : ((n : Nat) : Int) ≤ 64 := by omega
  have hdn : decide (((n : Nat) : Int) < 0) = false := by simp
  obtain ⟨W, hW⟩ : ∃ W, W = (w.alloc (.cells #[.bool s, .slice A na ca] 25)).alloc (.cells #[.bool false, .slice none 0 0] 25) := ⟨_, rfl⟩
  obtain ⟨r1, r2, hWs, hWB⟩ := boxes2 w (.cells #[.bool s, .slice A na ca] 25) (.cells #[.bool false, .slice none 0 0] 25)
  rw [← hW] at r1 r2 hWs hWB
  have r1 : Row W w.heap.size 25 [.bool s, .slice A na ca] := r1
  have r2 : Row W (w.heap.size + 1) 25 [.bool false, .slice none 0 0] := r2
  have HIA := Lib.hid (hia.below hWB)
  have HWB := Lib.hid hWB
  have R1 := Lib.hid r1
  have R2 := Lib.hid r2
  clear hia hWB r1 r2
  go_enter Tryd.func31, Tryd.ntmps31
  go_wp2_with fail
  rw [← hW]
  clear hW
  refine (from_walk 1 W (by decide) (by decide)).mono ?_
  rintro e w2 ⟨v1, rfl, hi1, hb2⟩
  obtain ⟨s1, A1, l1, c1, rfl⟩ := hi1.shape
  have hs2 := hb2.size
  have HI1 := Lib.hid hi1
  have HB2 := Lib.hid hb2
  clear hi1 hb2
  go_wp2_with fail
  obtain ⟨rO, _, hBO⟩ := boxes1 w2 (.cells #[.bool s1, .slice A1 l1 c1] 25)
  obtain ⟨W3, hW3⟩ : ∃ W3, W3 = w2.alloc (.cells #[.bool s1, .slice A1 l1 c1] 25) := ⟨_, rfl⟩
  rw [← hW3] at rO hBO ⊢
  clear hW3
  have rO : Row W3 w2.heap.size 25 [.bool s1, .slice A1 l1 c1] := rO
  have hb23 : Below W.heap.size W W3 := HB2.out.trans (hBO.mono hs2)
  have hat : At W3 w2.heap.size (a ^ 0) := ⟨s1, A1, l1, c1, rO, by rw [Int.pow_zero]; exact HI1.out.below hBO⟩
  have haa : At W3 w.heap.size a := ⟨s, A, na, ca, R1.out.below hb23 (by omega), HIA.out.below hb23⟩
  have hrr : Row W3 (w.heap.size + 1) 25 [.bool false, .slice none 0 0] := R2.out.below hb23 (by omega)
  have hbw : Below w.heap.size w W3 := HWB.out.trans (hb23.mono HWB.out.size)
  have HAT := Lib.hid hat
  have HAA := Lib.hid haa
  have HRR := Lib.hid hrr
  have HBW := Lib.hid hbw
  have hge : W.heap.size ≤ w2.heap.size := hs2
  clear hat haa hrr hbw hb23 rO hBO
  go_loopw [16] (fun iv wr => ∃ k : Nat, k ≤ n ∧ iv = .int .i64 k ∧ At wr w2.heap.size (a ^ k) ∧ At wr w.heap.size a ∧ Row wr (w.heap.size + 1) 25 [.bool false, .slice none 0 0] ∧ Below w.heap.size w wr)
    (fun iv _ => n - (intOf iv).toNat)
  case atStart => exact ⟨0, Nat.zero_le _, rfl, HAT.out, HAA.out, HRR.out, HBW.out⟩
  case round =>
    obtain ⟨k, hk, rfl, hat, haa, hrr, hbw⟩ := hrel
    have hlt := hat.lt
    obtain ⟨so, Ao, lo, co, ro, hio⟩ := hat
    obtain ⟨sa, Aa, la', ca', ra, hia⟩ := haa
    have k1 := ro.at_ 0 rfl
    have k2 := ro.at_ 1 rfl
    by_cases hkn : ((k : Nat) : Int) < (n : Nat)
    · have k3 := ra.at_ 0 rfl
      have k4 := ra.at_ 1 rfl
      have HRO := Lib.hid ro
      have HRA := Lib.hid ra
      have HIO := Lib.hid hio
      have HIAA := Lib.hid hia
      have HRR' := Lib.hid hrr
      have hlp : (digs (a ^ k).natAbs).length < 8796093022208 := by
        have h1 := digs_pow a k
        have h2 := HLA.out
        have h3 : (digs a.natAbs).length * k ≤ 1099511627 * 64 := Nat.mul_le_mul (by omega) (by omega)
        omega
      have HLP := Lib.hid hlp
      clear ro ra hio hia hrr hlp
      go_wp2_with fail
      refine (mul_walk _ _ (a ^ k) a _ (by exact HIO.out) (by exact HIAA.out) HLP.out (by have := HLA.out; omega)).mono ?_
      rintro e w5 ⟨v5, rfl, hi5, hb5⟩
      obtain ⟨s5, A5, l5, c5, rfl⟩ := hi5.shape
      have ro5 := HRO.out.below hb5 hlt
      have m1 := ro5.at_ 0 rfl
      have m2 := ro5.at_ 1 rfl
      have m3 := ro5.free 0
      have m4 := ro5.free 1
      have RO5 := Lib.hid ro5
      have HI5 := Lib.hid hi5
      have HB5 := Lib.hid hb5
      clear ro5 hi5 hb5
      go_wp2_with fail
      go_roundw
      case rel =>
        have haa5 : At w5 w.heap.size a := ⟨sa, Aa, la', ca', HRA.out.below HB5.out HRA.out.lt, HIAA.out.below HB5.out⟩
        refine ⟨k + 1, by omega, by simp, ?_, haa5.far (by omega) RO5.out (by simp) (by simp), (HRR'.out.below HB5.out HRR'.out.lt).far (by omega), ?_⟩
        · have := At.put RO5.out (by simp) (by simp) HI5.out
          rwa [Int.pow_succ]
        · exact ((hbw.trans (HB5.out.mono hbw.size)).setCell (p := ⟨w2.heap.size, 0, none⟩) (by simp; omega) _).setCell (p := ⟨w2.heap.size, 1, none⟩) (by simp; omega) _
      case measure => first | (simp [intOf]; done) | (simp [intOf]; omega)
    · obtain rfl : k = n := by omega
      have m1 := hrr.at_ 0 rfl
      have m2 := hrr.at_ 1 rfl
      have m3 := hrr.free 0
      have m4 := hrr.free 1
      have HIO := Lib.hid hio
      have HRR' := Lib.hid hrr
      have hres := res_store hbw hrr (x := .bool so) (y := .slice Ao lo co) (by simp) (by simp) (by omega) (Below.refl _ _) hio
      have HRES := Lib.hid hres
      clear ro ra hio hia hrr hres
      go_wp2_with fail
      refine bodyPost_ret (v := .tuple #[.agg #[.bool so, .slice Ao lo co], .int .i64 0]) (by simp [results, Tryd.results31, go_sem, m1, m2]) rfl ?_
      exact ⟨_, rfl, HRES.out.1, HRES.out.2⟩

theorem power_range (va : Value) (a : Int) (n : Int) (w : World) (ha : IsInt w va a) (hn : n < 0 ∨ 64 < n) (h1 : -9223372036854775808 ≤ n) (h2 : n ≤ 9223372036854775807) :
    Calls Tryd.prog 31 #[va, .int .i64 n] w fun e w' => ∃ v, e = .returned (.tuple #[v, .int .i64 2]) ∧ IsInt w' v 0 ∧ Below w.heap.size w w' := by
  obtain ⟨A, ca, rfl, hca, hcma, hua⟩ := ha
  generalize decide (a < 0) = s at *
  obtain ⟨na, hna⟩ : ∃ n, n = (digs a.natAbs).length := ⟨_, rfl⟩
  rw [← hna]
  clear hna hua hca hcma
  have key : Calls Tryd.prog 31 #[.agg #[.bool s, .slice A na ca], .int .i64 n] w fun e w' => e = .returned (.tuple #[.agg #[.bool false, .slice none 0 0], .int .i64 2]) ∧ Below w.heap.size w w' := by
    by_cases hneg : n < 0
    · clear hn
      go_enter Tryd.func31, Tryd.ntmps31
      go_wp2_with fail
      go_returns
      exact ⟨by simp, by go_grown⟩
    · have hd : decide (n < 0) = false := decide_eq_false hneg
      have hbig : 64 < n := by omega
      clear hn hneg
      go_enter Tryd.func31, Tryd.ntmps31
      go_wp2_with fail
      go_returns
      exact ⟨by simp, by go_grown⟩
  refine key.mono ?_
  rintro e w' ⟨rfl, hb⟩
  exact ⟨_, rfl, ⟨none, 0, by simp [digs_zero], by simp [digs_zero], by unfold maxLen; omega, .inl (by simp [digs_zero])⟩, hb⟩
end Go.Proofs.YtjeaemoiafamaaaDoor

/- integer.Bits, integer.Int.Int: the number of binary digits; an integer as an int. -/
namespace Go.Proofs.YtjeaemoiafamaaaDoor
open Go.RowKit

/-- k is the number of binary digits of n. -/
def IsBits (n k : Nat) : Prop := (n = 0 ∧ k = 0) ∨ (0 < k ∧ 2 ^ (k - 1) ≤ n ∧ n < 2 ^ k)

theorem bits_of {n m : Nat} (hl : (digs n).length = m + 1) : IsBits n (32 * m + Lib.bitLen (dg (digs n) m)) := by
  have hv : n = sv (digs n) 0 m + BB ^ m * dg (digs n) m := by
    have := val_sv (digs n)
    rw [val_digs, hl, sv_succ, Nat.zero_add] at this
    exact this
  have h0 := sv_lt (dig_digs n) 0 m
  have htop : dg (digs n) m ≠ 0 := by
    have := (can_digs n).2 (by omega)
    rwa [hl, Nat.add_sub_cancel] at this
  have hd := dig_digs n m
  obtain ⟨b1, b2, b3⟩ := Lib.bitLenAux_bounds 64 (dg (digs n) m) (Nat.lt_of_lt_of_le hd (by decide)) htop
  have e : Lib.bitLenAux 64 (dg (digs n) m) = Lib.bitLen (dg (digs n) m) := rfl
  rw [e] at b1 b2 b3
  generalize Lib.bitLen (dg (digs n) m) = k at *
  generalize dg (digs n) m = d at *
  generalize sv (digs n) 0 m = r at *
  have hP : BB ^ m = 2 ^ (32 * m) := by rw [Nat.pow_mul]; rfl
  refine .inr ⟨by omega, ?_, ?_⟩
  · rw [show 32 * m + k - 1 = 32 * m + (k - 1) by omega, Nat.pow_add, ← hP]
    have := Nat.mul_le_mul_left (BB ^ m) b2
    omega
  · rw [Nat.pow_add, ← hP]
    have := Nat.mul_le_mul_left (BB ^ m) (Nat.succ_le_of_lt b3)
    rw [Nat.mul_succ] at this
    omega

theorem bitLen_le32 {d : Nat} (hd : d < 4294967296) : Lib.bitLen d ≤ 32 := by
  rcases Nat.eq_zero_or_pos d with h | h
  · subst h; show Lib.bitLenAux 64 0 ≤ 32; rw [Lib.bitLenAux_zero]; omega
  · obtain ⟨y, _, hy, _⟩ := lead_bits h hd
    omega

theorem bits_walk (va : Value) (a : Int) (w : World) (ha : IsInt w va a) (hla : (digs a.natAbs).length < 8796093022208) :
    Calls Tryd.prog 42 #[va] w fun e w' => ∃ k : Nat, e = .returned (.int .i64 k) ∧ IsBits a.natAbs k ∧ Below w.heap.size w w' := by
  obtain ⟨A, ca, rfl, hca, hcma, hua⟩ := ha
  generalize decide (a < 0) = s at *
  generalize a.natAbs = n at *
  clear hca hcma
  by_cases hz : (digs n).length = 0
  · have hz' : ((((digs n).length : Nat) : Int) == 0) = true := by rw [hz]; rfl
    have HZ := Lib.hid hz
    clear hz hua
    go_enter Tryd.func42, Tryd.ntmps42
    go_wp2_with fail
    go_returns
    exact ⟨0, rfl, .inl ⟨digs_len_zero.1 HZ.out, rfl⟩, by go_grown⟩
  · obtain ⟨m, hm⟩ : ∃ m, (digs n).length = m + 1 := ⟨(digs n).length - 1, by omega⟩
    obtain ⟨b, off, rfl, hb, hcell⟩ := Cells.at_ hua (by omega)
    have c1 := hcell m (by omega)
    have c1' : (w.alloc (.cells #[.bool s, .slice (some ⟨b, off, none⟩) (digs n).length ca] 25)).cell? ⟨b, off + m, none⟩ = some (.int .u32 (dg (digs n) m : Nat)) :=
      ((bbelow (boxes1 w _).2.2).1 b (off + m) hb).trans c1
    have hz' : ((((digs n).length : Nat) : Int) == 0) = false := by rw [beq_eq_false_iff_ne]; omega
    have hn1 : (((digs n).length : Nat) : Int) - 1 = (m : Nat) := by omega
    have hmb : ((m : Nat) : Int) < 8796093022208 := by omega
    have hmlN : m < (digs n).length := by omega
    have hm0 : (0 : Int) ≤ (m : Nat) := by omega
    have hml : ((m : Nat) : Int) < (((digs n).length : Nat) : Int) := by omega
    have hdb : ((dg (digs n) m : Nat) : Int) ≤ 4294967295 := by have := dig_digs n m; omega
    obtain ⟨k, hk⟩ : ∃ k, k = Lib.bitLen (dg (digs n) m) := ⟨_, rfl⟩
    have hk64 : ((k : Nat) : Int) ≤ 64 := by have := bitLen_le32 (dig_digs n m); omega
    have hbits := bits_of hm
    rw [← hk] at hbits
    have HBITS := Lib.hid hbits
    have HK := Lib.hid hk
    have hc : ∀ w', Calls Tryd.prog 66 #[.int .u32 ((dg (digs n) m : Nat) : Int)] w' fun e w'' => e = .returned (.int .i64 (k : Nat)) ∧ w'' = w' := fun w' => by
      have := Tryd.bits_Len32 ((dg (digs n) m : Nat) : Int) w' (by omega) (by omega)
      rwa [Int.toNat_natCast, ← hk] at this
    have HC := Lib.hid hc
    clear hc
    have hw1 : IntKind.i64.wrap ((m : Nat) : Int) = (m : Nat) := Lib.wrap_i64_small m (by omega)
    have hw2 : IntKind.i64.wrap (32 * ((m : Nat) : Int)) = 32 * (m : Nat) := by have := Lib.wrap_i64_small (32 * m) (by omega); simpa using this
    have hw3 : IntKind.i64.wrap (32 * ((m : Nat) : Int) + (k : Nat)) = 32 * (m : Nat) + (k : Nat) := by have := Lib.wrap_i64_small (32 * m + k) (by omega); simpa using this
    obtain ⟨W, hW⟩ : ∃ W, W = w.alloc (.cells #[.bool s, .slice (some ⟨b, off, none⟩) (digs n).length ca] 25) := ⟨_, rfl⟩
    have r1 := (boxes1 w (.cells #[.bool s, .slice (some ⟨b, off, none⟩) (digs n).length ca] 25)).1
    have hWB := (boxes1 w (.cells #[.bool s, .slice (some ⟨b, off, none⟩) (digs n).length ca] 25)).2.2
    rw [← hW] at r1 hWB c1'
    have r1 : Row W w.heap.size 25 [.bool s, .slice (some ⟨b, off, none⟩) (digs n).length ca] := r1
    have e1 := r1.at_ 1 rfl
    have HWB := Lib.hid hWB
    clear hz hm hcell hua hbits hk hWB r1 c1
    go_enter Tryd.func42, Tryd.ntmps42
    go_wp2_with fail
    rw [← hW]
    clear hW
    go_quiet ((refine (HC.out _).mono ?_; rintro e w2 ⟨rfl, rfl⟩; exact ⟨rfl, _, rfl⟩))
    go_wp2_with fail
    go_returns
    exact ⟨32 * m + k, by simp, HBITS.out, HWB.out.trans (below_drewN _ _ _)⟩
end Go.Proofs.YtjeaemoiafamaaaDoor

/- integer.Int.Int: an integer as an int, if it is one. -/
namespace Go.Proofs.YtjeaemoiafamaaaDoor
open Go.RowKit

theorem or_zero64 (d : Nat) (hd : d < 4294967296) : bits .or .u64 (0 : Int) (d : Int) = (d : Nat) := by
  have := or64 32 0 d (by omega) (by omega) (by omega)
  simpa using this
theorem or_high64 (u d : Nat) (hu : u < 4294967296) (hd : d < 4294967296) : bits .or .u64 (u : Int) ((d : Int) * 4294967296) = ((u + d * 4294967296 : Nat) : Int) := by
  rw [bits_or_comm, or_shl32 d u hd hu]; simp; omega

theorem neg_wrap (u : Nat) (h : u ≤ 9223372036854775808) : RowKit.wrap64 (IntKind.u64.wrap (-((u : Nat) : Int))) = -((u : Nat) : Int) := by
  have h1 : IntKind.u64.wrap (-((u : Nat) : Int)) = (-((u : Nat) : Int)) % 18446744073709551616 := rfl
  rw [h1]
  unfold RowKit.wrap64
  omega

theorem big_of_len {n : Nat} (h : 2 < (digs n).length) : 18446744073709551616 ≤ n := by
  have h1 := can_val_pos (can_digs n) (by omega)
  rw [val_digs] at h1
  have h2 : BB ^ 2 ≤ BB ^ ((digs n).length - 1) := Nat.pow_le_pow_right (by decide) (by omega)
  have h3 : BB ^ 2 = 18446744073709551616 := by decide
  omega

set_option maxHeartbeats 1600000 in
theorem int_walk (va : Value) (a : Int) (w : World) (ha : IsInt w va a) (hla : (digs a.natAbs).length < 8796093022208) :
    Calls Tryd.prog 16 #[va] w fun e w' => e = .returned (if -9223372036854775808 ≤ a ∧ a ≤ 9223372036854775807 then .tuple #[.int .i64 a, .bool true] else .tuple #[.int .i64 0, .bool false]) ∧ Below w.heap.size w w' := by
  obtain ⟨A, ca, rfl, hca, hcma, hua⟩ := ha
  obtain ⟨s, hs⟩ : ∃ s, s = decide (a < 0) := ⟨_, rfl⟩
  rw [← hs]
  obtain ⟨n, hn⟩ : ∃ n, n = a.natAbs := ⟨_, rfl⟩
  rw [← hn] at hua hla ⊢
  have HS := Lib.hid hs
  have HN := Lib.hid hn
  clear hca hcma hs hn
  by_cases hbig : (2 : Int) < (((digs n).length : Nat) : Int)
  · have hb := big_of_len (n := n) (by omega)
    have hif : ¬ (-9223372036854775808 ≤ a ∧ a ≤ 9223372036854775807) := by have := HN.out; omega
    rw [if_neg hif]
    clear hua hb hif
    go_enter Tryd.func16, Tryd.ntmps16
    go_wp2_with fail
    go_returns
    exact ⟨rfl, by go_grown⟩
  · obtain ⟨L, hL⟩ : ∃ L, L = (digs n).length := ⟨_, rfl⟩
    rw [← hL] at hla hbig ⊢
    have hL2 : ((L : Nat) : Int) ≤ 2 := by omega
    obtain ⟨W, hW⟩ : ∃ W, W = w.alloc (.cells #[.bool s, .slice A L ca] 25) := ⟨_, rfl⟩
    have r1 := (boxes1 w (.cells #[.bool s, .slice A L ca] 25)).1
    have hWB := (boxes1 w (.cells #[.bool s, .slice A L ca] 25)).2.2
    rw [← hW] at r1 hWB
    have r1 : Row W w.heap.size 25 [.bool s, .slice A L ca] := r1
    have e0 := r1.at_ 0 rfl
    have e1 := r1.at_ 1 rfl
    have HWB := Lib.hid hWB
    have HL := Lib.hid hL
    have HU := Lib.hid (Cells.below hua hWB)
    clear hL hWB hua r1 hbig
    obtain ⟨R, hR⟩ : ∃ R : Value, R = if -9223372036854775808 ≤ a ∧ a ≤ 9223372036854775807 then .tuple #[.int .i64 a, .bool true] else .tuple #[.int .i64 0, .bool false] := ⟨_, rfl⟩
    rw [← hR]
    have HR := Lib.hid hR
    clear hR
    go_enter Tryd.func16, Tryd.ntmps16
    go_wp2_with fail
    rw [← hW]
    clear hW
    go_wp2_with fail
    go_loopw [4, 14] (fun uv kv wr => ∃ (k u : Nat), wr = W ∧ k ≤ L ∧ uv = .int .u64 u ∧ kv = .int .i64 k ∧ Hid (u = val ((digs n).take k))) (fun _ kv _ => L - (intOf kv).toNat)
    case atStart => exact ⟨0, 0, rfl, Nat.zero_le _, rfl, rfl, Lib.hid (by simp [val])⟩
    case round =>
      obtain ⟨k, u, rfl, hk, rfl, rfl, hu⟩ := hrel
      by_cases hkl : ((k : Nat) : Int) < (L : Nat)
      · obtain ⟨b, off, rfl, hb, hcell⟩ := Cells.at_ HU.out (by have := HL.out; omega)
        have c1 := hcell k (by have := HL.out; omega)
        have hd := dig_digs n k
        have hdb : ((dg (digs n) k : Nat) : Int) < 4294967296 := by omega
        have hsucc := val_take_succ (digs n) k
        rw [← hu.out] at hsucc
        clear hcell
        obtain ⟨d, hdd⟩ : ∃ d, d = dg (digs n) k := ⟨_, rfl⟩
        rw [← hdd] at c1 hd hdb hsucc
        clear hdd
        have HSU := Lib.hid hsucc
        clear hsucc
        rcases k with _ | k
        · obtain rfl : u = 0 := by have := hu.out; simpa [val] using this
          have hor := or_zero64 d hd
          have hkl0 : 0 < L := by omega
          rw [Nat.add_zero] at c1
          clear hkl
          go_wp2_with fail
          go_roundw
          case rel => exact ⟨1, d, by trivial, by omega, by simp, by simp, Lib.hid (by rw [HSU.out]; simp)⟩
          case measure => first | (simp [intOf]; done) | (simp [intOf]; omega)
        · obtain rfl : k = 0 := by omega
          have hu1 : u < 4294967296 := by
            have h1 := val_lt ((dig_digs n).take 1)
            rw [← hu.out] at h1
            have h2 : BB ^ ((digs n).take 1).length ≤ BB ^ 1 := Nat.pow_le_pow_right (by decide) (by rw [List.length_take]; omega)
            have h3 : BB ^ 1 = 4294967296 := by decide
            omega
          have hor := or_high64 u d hu1 hd
          have hkl0 : (1 : Int) < (L : Nat) := by omega
          rw [Nat.zero_add] at c1
          clear hkl
          go_wp2_with fail
          go_roundw
          case rel => exact ⟨2, u + d * 4294967296, by trivial, by omega, by simp, by simp, Lib.hid (by rw [HSU.out, Nat.pow_one, BB_eq, Nat.mul_comm])⟩
          case measure => first | (simp [intOf]; done) | (simp [intOf]; omega)
      · obtain rfl : k = L := by omega
        have huN : u = n := by rw [hu.out, HL.out, List.take_length, val_digs]
        subst huN
        rcases s with _ | _
        · have hpos : 0 ≤ a := by have := HS.out; simpa using this.symm
          have hau : a = (u : Nat) := by have := HN.out; omega
          by_cases hr : ((u : Nat) : Int) < 9223372036854775808
          · have hR2 := HR.out
            rw [if_pos (by omega)] at hR2
            have HR2 := Lib.hid hR2
            clear hR2
            have hr2 : decide (u < 9223372036854775808) = true := decide_eq_true (by omega)
            go_wp2_with fail
            go_returns
            refine ⟨congrArg Ending.returned ?_, HWB.out⟩
            rw [HR2.out]
            exact congrArg (fun z => Value.tuple #[.int .i64 z, .bool true]) hau.symm
          · have hR2 := HR.out
            rw [if_neg (by omega)] at hR2
            have HR2 := Lib.hid hR2
            clear hR2
            have hr2 : decide (((u : Nat) : Int) < 9223372036854775808) = false := decide_eq_false hr
            go_wp2_with fail
            go_returns
            refine ⟨congrArg Ending.returned ?_, HWB.out⟩
            rw [HR2.out]
            rfl
        · have hpos : a < 0 := by have := HS.out; simpa using this.symm
          have hau : -a = (u : Nat) := by have := HN.out; omega
          by_cases hr : ((u : Nat) : Int) ≤ 9223372036854775808
          · have hR2 := HR.out
            rw [if_pos (by omega)] at hR2
            have HR2 := Lib.hid hR2
            clear hR2
            go_wp2_with fail
            go_returns
            refine ⟨congrArg Ending.returned ?_, HWB.out⟩
            rw [HR2.out]
            exact congrArg (fun z => Value.tuple #[.int .i64 z, .bool true]) ((neg_wrap u (by omega)).trans (by omega))
          · have hR2 := HR.out
            rw [if_neg (by omega)] at hR2
            have HR2 := Lib.hid hR2
            clear hR2
            have hr2 : decide (((u : Nat) : Int) ≤ 9223372036854775808) = false := decide_eq_false hr
            go_wp2_with fail
            go_returns
            refine ⟨congrArg Ending.returned ?_, HWB.out⟩
            rw [HR2.out]
            rfl
end Go.Proofs.YtjeaemoiafamaaaDoor

/- integer.Sum: the sum of a list of integers. -/
namespace Go.Proofs.YtjeaemoiafamaaaDoor
open Go.RowKit

/-- Two cells hold the integer n. -/
def CellInt (w : World) (b o : Nat) (n : Int) : Prop := ∃ s A l c, w.cell? ⟨b, o, none⟩ = some (.bool s) ∧ w.cell? ⟨b, o + 1, none⟩ = some (.slice A l c) ∧ IsInt w (.agg #[.bool s, .slice A l c]) n
theorem CellInt.below {w w' : World} {b o : Nat} {n : Int} (h : CellInt w b o n) (hb : Below w.heap.size w w') : CellInt w' b o n := by
  obtain ⟨s, A, l, c, h1, h2, h3⟩ := h
  have hlt : b < w.heap.size := World.block_lt_of_cell? w ⟨b, o, none⟩ h1
  exact ⟨s, A, l, c, (hb.cell (p := ⟨b, o, none⟩) hlt).trans h1, (hb.cell (p := ⟨b, o + 1, none⟩) hlt).trans h2, h3.below hb⟩
/-- A slice value that reads as the integers l. -/
def IsInts (w : World) (v : Value) (l : List Int) : Prop := ∃ A c, v = .slice A l.length c ∧ (l.length = 0 ∨ ∃ b off, A = some ⟨b, off, none⟩ ∧ ∀ j, j < l.length → CellInt w b (off + j * 2) (l.getD j 0))
theorem IsInts.below {w w' : World} {v : Value} {l : List Int} (h : IsInts w v l) (hb : Below w.heap.size w w') : IsInts w' v l := by
  obtain ⟨A, c, hv, h⟩ := h
  exact ⟨A, c, hv, h.imp id (fun ⟨b, off, hA, hc⟩ => ⟨b, off, hA, fun j hj => (hc j hj).below hb⟩)⟩

theorem sum_take_succ (l : List Int) (k : Nat) (hk : k < l.length) : (l.take (k + 1)).sum = (l.take k).sum + l.getD k 0 := by
  rw [List.take_add_one, List.sum_append]
  simp [hk]

set_option maxHeartbeats 1600000 in
theorem sum_walk (v : Value) (l : List Int) (w : World) (h : IsInts w v l) (hl : ∀ j, j < l.length → (digs (l.getD j 0).natAbs).length < 8796093022208) (hs : ∀ k, k ≤ l.length → (digs (l.take k).sum.natAbs).length < 8796093022208) (hn : l.length < 17592186044416) :
    Calls Tryd.prog 44 #[v] w fun e w' => ∃ v', e = .returned v' ∧ IsInt w' v' l.sum ∧ Below w.heap.size w w' := by
  obtain ⟨A, c, rfl, hA⟩ := h
  obtain ⟨W, hW⟩ : ∃ W, W = (w.alloc (.cells #[.bool false, .slice none 0 0] 25)).alloc (.cells #[.bool false, .slice none 0 0] 25) := ⟨_, rfl⟩
  obtain ⟨r1, r2, hWs, hWB⟩ := boxes2 w (.cells #[.bool false, .slice none 0 0] 25) (.cells #[.bool false, .slice none 0 0] 25)
  rw [← hW] at r1 r2 hWs hWB
  have r1 : Row W w.heap.size 25 [.bool false, .slice none 0 0] := r1
  have r2 : Row W (w.heap.size + 1) 25 [.bool false, .slice none 0 0] := r2
  have HWB := Lib.hid hWB
  have R1 := Lib.hid r1
  have R2 := Lib.hid r2
  have HWS := Lib.hid hWs
  have HL := Lib.hid hl
  have HS := Lib.hid hs
  have hW2 : w.heap.size + 2 ≤ W.heap.size := by omega
  obtain ⟨n, hnn⟩ : ∃ n, n = l.length := ⟨_, rfl⟩
  rw [← hnn] at hn ⊢
  have HNN := Lib.hid hnn
  have HA := Lib.hid hA
  clear hWB r1 r2 hWs hl hs hnn hA
  go_enter Tryd.func44, Tryd.ntmps44
  go_wp2_with fail
  rw [← hW]
  clear hW
  have hzero : IsInt W (.agg #[.bool false, .slice none 0 0]) 0 := ⟨none, 0, by simp [digs_zero], by simp [digs_zero], by unfold maxLen; omega, .inl (by simp [digs_zero])⟩
  have HAT0 : Hid (At W (w.heap.size + 1) 0) := Lib.hid ⟨false, none, 0, 0, R2.out, hzero⟩
  clear hzero
  go_loopw [8] (fun iv wr => ∃ k : Nat, k ≤ n ∧ iv = .int .i64 k ∧ At wr (w.heap.size + 1) (l.take k).sum ∧ Row wr w.heap.size 25 [.bool false, .slice none 0 0] ∧ Below w.heap.size w wr ∧ W.heap.size ≤ wr.heap.size)
    (fun iv _ => n - (intOf iv).toNat)
  case atStart => exact ⟨0, Nat.zero_le _, rfl, HAT0.out, R1.out, HWB.out, Nat.le_refl _⟩
  case round =>
    obtain ⟨k, hk, rfl, hat, hrr, hbw, hsz⟩ := hrel
    obtain ⟨so, Ao, lo, co, ro, hio⟩ := hat
    have k1 := ro.at_ 0 rfl
    have k2 := ro.at_ 1 rfl
    by_cases hkn : ((k : Nat) : Int) < (n : Nat)
    · rcases HA.out with h0 | ⟨b, off, rfl, hc⟩
      · exfalso; have := HNN.out; omega
      obtain ⟨sa, Aa, la, ca, c1, c2, hia⟩ := (hc k (by have := HNN.out; omega)).below hbw
      have hlt : w.heap.size + 1 < wr.heap.size := by omega
      have hne : wr.heap.size ≠ w.heap.size + 1 := by omega
      have hne' : w.heap.size + 1 ≠ wr.heap.size := by omega
      have HIA := Lib.hid hia
      have HIO := Lib.hid hio
      have HRO := Lib.hid ro
      have HRR' := Lib.hid hrr
      clear hc hia hio ro hrr
      go_wp2_with fail
      have hbE := (boxes1 wr (.cells #[.bool sa, .slice Aa la ca] 25)).2.2
      refine (add_walk (.agg #[.bool so, .slice Ao lo co]) (.agg #[.bool sa, .slice Aa la ca]) (l.take k).sum (l.getD k 0) _ (by exact HIO.out.below hbE) (by exact HIA.out.below hbE) (by exact HS.out k (by have := HNN.out; omega)) (by exact HL.out k (by have := HNN.out; omega))).mono ?_
      rintro e w5 ⟨v5, rfl, hi5, hb5⟩
      have hb15 : Below wr.heap.size wr w5 := hbE.trans (hb5.mono hbE.size)
      obtain ⟨s5, A5, l5, c5, rfl⟩ := hi5.shape
      have ro5 := HRO.out.below hb15 HRO.out.lt
      have m1 := ro5.at_ 0 rfl
      have m2 := ro5.at_ 1 rfl
      have m3 := ro5.free 0
      have m4 := ro5.free 1
      have RO5 := Lib.hid ro5
      have HI5 := Lib.hid hi5
      have HB5 := Lib.hid hb15
      clear ro5 hi5 hb5 hb15 hbE
      go_wp2_with fail
      go_roundw
      case rel =>
        refine ⟨k + 1, by omega, by simp, ?_, (HRR'.out.below HB5.out HRR'.out.lt).far (by omega), ?_, ?_⟩
        · have := At.put RO5.out (by simp) (by simp) HI5.out
          rwa [← sum_take_succ l k (by have := HNN.out; omega)] at this
        · exact ((hbw.trans (HB5.out.mono hbw.size)).setCell (p := ⟨w.heap.size + 1, 0, none⟩) (by simp) _).setCell (p := ⟨w.heap.size + 1, 1, none⟩) (by simp) _
        · have := HB5.out.size
          have h2 := (grownBy_set2 w5 (w.heap.size + 1) 0 1 (.bool s5) (.slice A5 l5 c5)).size
          omega
      case measure => first | (simp [intOf]; done) | (simp [intOf]; omega)
    · obtain rfl : k = n := by omega
      have m1 := hrr.at_ 0 rfl
      have m2 := hrr.at_ 1 rfl
      have m3 := hrr.free 0
      have m4 := hrr.free 1
      have hres := res_store hbw hrr (x := .bool so) (y := .slice Ao lo co) (by simp) (by simp) (by omega) (Below.refl _ _) hio
      rw [HNN.out, List.take_length] at hres
      have HRES := Lib.hid hres
      clear ro hio hrr hres
      go_wp2_with fail
      refine bodyPost_ret (v := .agg #[.bool so, .slice Ao lo co]) (by simp [results, Tryd.results44, go_sem, m1, m2]) rfl ?_
      exact ⟨_, rfl, HRES.out.1, HRES.out.2⟩
end Go.Proofs.YtjeaemoiafamaaaDoor

/- integer.Int.Text: the decimal text. -/
namespace Go.Proofs.YtjeaemoiafamaaaDoor
open Go.RowKit

theorem infoStr : (Tryd.prog.info? 9).map (fun i => (i.zero, i.size, i.bytes)) = some (some (.string ⟨#[]⟩), 1, 16) := by kernel_rfl

theorem tab_keep {P : Program} {w w' : World} {name : String} {k : IntKind} {zs : List Int} (h : Lib.TabIs P w name k zs) (hb : Below w.heap.size w w') : Lib.TabIs P w' name k zs := by
  unfold Lib.TabIs World.var? at *
  cases hg : P.globalNamed name with
  | none => rw [hg] at h; simp at h
  | some g =>
    rw [hg] at h
    simp only [Option.bind_some] at h ⊢
    rcases Nat.lt_or_ge g w.heap.size with hlt | hge
    · rw [hb.block g hlt]; exact h
    · rw [Array.getElem?_eq_none hge] at h; simp at h

def strV (l : List UInt8) : Value := .string ⟨l.toArray⟩

theorem owns_below {w w' : World} {base size n : Nat} {e : TypeId} {v : Value} {xs : List Value} (h : w.ownsRow base e size v n xs) (hb : Below w.heap.size w w') : w'.ownsRow base e size v n xs := by
  refine ⟨h.1, ?_⟩
  rcases h.2 with hn | ⟨g, cap, cur, rfl, hbg, hgg, rest⟩
  · exact .inl hn
  · exact .inr ⟨g, cap, cur, rfl, hbg, (hb.block g (Array.getElem?_eq_some_iff.1 hgg).1).trans hgg, rest⟩

/-- The digits of a number stand in another block than the groups' row: the one's first cell is a digit, the other's a text. -/
theorem owns_far {w : World} {base gq n : Nat} {v : Value} {gs : List (List UInt8)} {l : List Nat} (h : w.ownsRow base 9 1 v n (gs.map strV)) (hn : 0 < n) (hu : U32 w (some ⟨gq, 0, none⟩) l) (hl : 0 < l.length) : v.ownBlock ≠ some gq := by
  intro he
  have hlen : n * 1 = (gs.map strV).length := by have := h.1; omega
  have hc : w.cell? ⟨gq, 0, none⟩ = some (.int .u32 (dg l 0 : Nat)) := by
    rcases hu with h0 | ⟨b', off', hA, hc, _⟩
    · omega
    · simp only [Option.some.injEq, Addr.mk.injEq, and_true] at hA
      obtain ⟨rfl, rfl⟩ := hA
      exact hc 0 hl
  rcases h.2 with ⟨rfl, _⟩ | ⟨g, cap, cur, hv, _⟩
  · simp [Value.ownBlock] at he
  · subst hv
    simp only [Value.ownBlock, Option.some.injEq] at he
    subst he
    have h0 := World.ownsRow.cellAt h 0 (by omega)
    rw [hc] at h0
    rcases gs with _ | ⟨x, gs⟩
    · simp at hlen; omega
    · simp [strV] at h0

theorem owns_far' {w : World} {base gq : Nat} {v : Value} {gs : List (List UInt8)} {l : List Nat} (h : w.ownsRow base 9 1 v gs.length (gs.map strV)) (hnil : gs = [] → v = .slice none 0 0) (hu : U32 w (some ⟨gq, 0, none⟩) l) (hl : 0 < l.length) : v.ownBlock ≠ some gq := by
  by_cases hgs : gs = []
  · rw [hnil hgs]; simp [Value.ownBlock]
  · exact owns_far h (List.length_pos_iff.2 hgs) hu hl

theorem Cells.grownR {w w' : World} {b off n : Nat} {r : Option Nat} {f : Nat → Value} (h : Cells w (some ⟨b, off, none⟩) n f) (hg : w.grownBy w' r) (hne : r ≠ some b) : Cells w' (some ⟨b, off, none⟩) n f := by
  rcases h with h | ⟨b', off', hA, hc, ht⟩
  · exact .inl h
  · simp only [Option.some.injEq, Addr.mk.injEq, and_true] at hA
    obtain ⟨rfl, rfl⟩ := hA
    refine .inr ⟨b, off, rfl, fun j hj => hg.cell (hc j hj) (Ne.symm hne), ht.of_eq (hg.block b ?_ (Ne.symm hne))⟩
    obtain ⟨_, _, _, h1, _⟩ := ht
    exact (Array.getElem?_eq_some_iff.1 h1).1

set_option maxHeartbeats 1600000 in
theorem text_walk (va : Value) (a : Int) (w : World) (ha : IsInt w va a) (hla : (digs a.natAbs).length < 1099511627776) (hlt : (Lib.decDigits a.natAbs).length ≤ 1000000000) (htab : Lib.TabIs Tryd.prog w "internal/strconv.uint64pow10" .u64 Lib.pow10Tab) :
    Calls Tryd.prog 17 #[va] w fun e w' => e = .returned (.string (txt a)) ∧ Below w.heap.size w w' := by
  obtain ⟨A, ca, rfl, hca, hcma, hua⟩ := ha
  obtain ⟨i0, hi0, hz0, hz1, hz2⟩ := info_parts infoStr
  obtain ⟨s, hs⟩ : ∃ s, s = decide (a < 0) := ⟨_, rfl⟩
  rw [← hs]
  obtain ⟨n, hn⟩ : ∃ n, n = a.natAbs := ⟨_, rfl⟩
  rw [← hn] at hua hla hlt hca ⊢
  by_cases hz : (digs n).length = 0
  · have hz' : ((((digs n).length : Nat) : Int) == 0) = true := by rw [hz]; rfl
    have hn0 : n = 0 := digs_len_zero.1 hz
    have hta : txt a = ⟨#[48]⟩ := by
      rw [show a = 0 by omega]; unfold txt Lib.itoa
      rw [if_neg (by omega)]
      show (⟨(Lib.decDigits 0).toArray⟩ : ByteArray) = _
      rw [Lib.decDigits_one (by omega)]; rfl
    rw [hta]
    clear hz hua hs hn hn0 hta hlt htab
    go_enter Tryd.func17, Tryd.ntmps17
    go_wp2_with fail
    go_returns
    exact ⟨rfl, by go_grown⟩
  · have hz' : ((((digs n).length : Nat) : Int) == 0) = false := by rw [beq_eq_false_iff_ne]; omega
    obtain ⟨W, hW⟩ : ∃ W, W = w.alloc (.cells #[.bool s, .slice A (digs n).length ca] 25) := ⟨_, rfl⟩
    have r1 := (boxes1 w (.cells #[.bool s, .slice A (digs n).length ca] 25)).1
    have hWs := (boxes1 w (.cells #[.bool s, .slice A (digs n).length ca] 25)).2.1
    have hWB := (boxes1 w (.cells #[.bool s, .slice A (digs n).length ca] 25)).2.2
    rw [← hW] at r1 hWB hWs
    have r1 : Row W w.heap.size 25 [.bool s, .slice A (digs n).length ca] := r1
    have e0 := r1.at_ 0 rfl
    have e1 := r1.at_ 1 rfl
    have hAlow : ∀ b off, A = some ⟨b, off, none⟩ → b < w.heap.size ∨ off = 0 := by
      obtain ⟨b, off, hA, hb, _⟩ := Cells.at_ hua (by omega)
      intro b' off' e
      rw [hA] at e
      simp only [Option.some.injEq, Addr.mk.injEq, and_true] at e
      left; omega
    have HAL := Lib.hid hAlow
    have HTAB0 := Lib.hid htab
    clear hAlow
    have HWB := Lib.hid hWB
    have HWS := Lib.hid hWs
    have HU := Lib.hid (Cells.below hua hWB)
    have R1 := Lib.hid r1
    have HS := Lib.hid hs
    have HN := Lib.hid hn
    clear hWB hua r1 hz hs hn hWs
    go_enter Tryd.func17, Tryd.ntmps17
    go_wp2_with fail
    rw [← hW]
    clear hW
    go_wp2_with fail
    have HTAB := Lib.hid (tab_keep htab HWB.out)
    have HLT := Lib.hid hlt
    have HCA := Lib.hid hca
    have HLA := Lib.hid hla
    have hn0 : 0 < n := digs_len_pos.1 (by have := hz'; rw [beq_eq_false_iff_ne] at this; omega)
    clear htab hlt hca hla hz'
    go_loopg [3, 4] n (fun g gv mv wr => ∃ (m : Nat) (gs : List (List UInt8)) (A' : Option Addr) (c' : Nat), mv = .slice A' (digs m).length c' ∧ Hid (g = m) ∧ (digs m).length ≤ c' ∧ c' ≤ maxLen ∧ U32 wr A' (digs m) ∧ Hid (∀ b off, A' = some ⟨b, off, none⟩ → b < w.heap.size ∨ off = 0) ∧ Hid (wr.ownsRow (w.heap.size + 1) 9 1 gv gs.length (gs.map strV)) ∧
      Hid (Lib.decDigits n = ahead m ++ gs.reverse.flatten) ∧ Hid (gs.length ≤ gs.reverse.flatten.length) ∧ Hid (gs = [] → gv = .slice none 0 0) ∧ Hid (m = 0 → gs ≠ []) ∧ Hid (Row wr w.heap.size 25 [.bool s, .slice A (digs n).length ca]) ∧ Hid ((digs m).length ≤ (digs n).length) ∧ Hid (Below w.heap.size w wr) ∧ Hid (Lib.TabIs Tryd.prog wr "internal/strconv.uint64pow10" .u64 Lib.pow10Tab))
    case atStart =>
      refine ⟨n, [], A, ca, rfl, Lib.hid rfl, HCA.out, hcma, HU.out, HAL, Lib.hid (World.ownsRow_nil _ _ _ _), Lib.hid ?_, Lib.hid (by simp), Lib.hid (fun _ => rfl), Lib.hid (fun h => by omega), R1, Lib.hid (Nat.le_refl _), HWB, HTAB⟩
      unfold ahead; rw [if_neg (by omega)]; simp
    case round =>
      obtain ⟨m, gs, A', c', rfl, hgm, hc1, hc2, hu', hal, hown, hdec, hlen, hnil, hne, hrow, hdl, hbw, htb⟩ := hrel
      have HU' := Lib.hid hu'
      clear hu'
      by_cases hm : (0 : Int) < (((digs m).length : Nat) : Int)
      · have hm0 : 0 < m := digs_len_pos.1 (by omega)
        have hmN : 0 < (digs m).length := by omega
        obtain ⟨q0, hq0⟩ : ∃ q0, q0 = m / 1000000000 := ⟨_, rfl⟩
        obtain ⟨r0, hr0⟩ : ∃ r0, r0 = m % 1000000000 := ⟨_, rfl⟩
        have hrb : r0 < 1000000000 := by omega
        have hsh := short_walk0 A' c' 1000000000 (digs m) wr HU'.out (dig_digs m) (by have := hdl.out; have := HLA.out; omega) (by omega) (by omega)
        rw [val_digs, ← hq0, ← hr0] at hsh
        have HSH := Lib.hid hsh
        have HQ0 := Lib.hid hq0
        have HR0 := Lib.hid hr0
        clear hq0 hr0 hsh
        by_cases hq : (0 : Int) < (((digs q0).length : Nat) : Int)
        · have hqN : 0 < (digs q0).length := by omega
          have hd9 := dec_len_le 8 r0 (by omega)
          obtain ⟨d, hd⟩ : ∃ d : Nat, (9 : Int) - (((Lib.decDigits r0).length : Nat) : Int) = (d : Nat) := ⟨9 - (Lib.decDigits r0).length, by omega⟩
          have hdb : ((d : Nat) : Int) ≤ 9 := by omega
          have hdn : d = 8 + 1 - (Lib.decDigits r0).length := by omega
          have HDN := Lib.hid hdn
          clear hdn
          go_wp2_with fail
          refine HSH.out.mono ?_
          rintro e w2 ⟨v, rfl, ⟨hmag, hsh⟩, hb2⟩
          obtain ⟨gq, nq, cq, rfl⟩ := hsh
          obtain ⟨Aq, cq', hv, hq1, hq2, hq3⟩ := hmag
          simp only [Value.slice.injEq] at hv
          obtain ⟨rfl, rfl, rfl⟩ := hv
          have HB2 := Lib.hid hb2
          have HQ3 := Lib.hid hq3
          clear hb2 hq3
          go_wp2_with fail
          refine (Tryd.strconv_Itoa ((r0 : Nat) : Int) (by omega) (by omega) w2 (tab_keep htb.out HB2.out)).mono ?_
          rintro e w3 ⟨rfl, k3, os3, hw3⟩
          have hb3 : Below w2.heap.size w2 w3 := by rw [hw3]; exact Lib.below_grow _ _ (Nat.le_refl _) _ _
          rw [Lib.itoa_nonneg]
          have HB3 := Lib.hid hb3
          clear hb3 hw3
          go_wp2_with fail
          refine (Tryd.strings_Repeat ⟨#[48]⟩ d w3 (by omega) (by show 1 * d ≤ _; omega)).mono ?_
          rintro e w4 ⟨rfl, hb4⟩
          have HB4 := Lib.hid hb4
          clear hb4
          obtain ⟨S1, hS1⟩ : ∃ S1 : ByteArray, S1 = ⟨(Lib.repeatL (⟨#[48]⟩ : ByteArray).data.toList d).toArray⟩ := ⟨_, rfl⟩
          rw [← hS1]
          obtain ⟨S2, hS2⟩ : ∃ S2 : ByteArray, S2 = ⟨(Lib.decDigits r0).toArray⟩ := ⟨_, rfl⟩
          try rw [← hS2]
          have HS1 := Lib.hid hS1
          have HS2 := Lib.hid hS2
          have hz1s : ((S1.size : Nat) : Int) ≤ 9 := by
            rw [hS1]
            show (((Lib.repeatL [48] d).toArray.size : Nat) : Int) ≤ 9
            rw [List.size_toArray, Lib.repeatL_length]; simp; omega
          have hz2s : ((S2.size : Nat) : Int) ≤ 9 := by
            rw [hS2]
            show (((Lib.decDigits r0).toArray.size : Nat) : Int) ≤ 9
            rw [List.size_toArray]; omega
          have hz12 : S1.size + S2.size ≤ 9223372036854775807 := by omega
          clear hS1 hS2
          go_upto_region 10 with (fail)
          obtain ⟨SV, hSV⟩ : ∃ SV, SV = S1 ++ S2 := ⟨_, rfl⟩
          rw [← hSV]
          have hval : Value.string SV = strV (groupOf m) := by
            rw [hSV, HS1.out, HS2.out]
            unfold strV groupOf
            rw [if_neg (by rw [← HQ0.out]; have := digs_len_pos.1 hqN; omega), ← HR0.out, ← pad_eq 8 r0 (by omega), ← HDN.out]
            refine congrArg Value.string ?_
            apply ByteArray.ext
            simp
          have HVAL := Lib.hid hval
          obtain ⟨wE, hwE⟩ : ∃ wE, wE = w4 := ⟨_, rfl⟩
          rw [← hwE]
          have hbE : Below wr.heap.size wr wE := by rw [hwE]; exact HB2.out.trans ((HB3.out.mono HB2.out.size).trans (HB4.out.mono (Nat.le_trans HB2.out.size HB3.out.size)))
          have HBE := Lib.hid hbE
          have hq3E : U32 wE (some ⟨gq, 0, none⟩) (digs q0) := by rw [hwE]; exact (HQ3.out.below HB3.out).below HB4.out
          have HQ3E := Lib.hid hq3E
          clear hSV hval hwE hbE hq3E
          have hgl : gs.length ≤ 1000000000 := by
            have h1 := congrArg List.length hdec.out
            rw [List.length_append] at h1
            have h2 := hlen.out
            have h3 := HLT.out
            omega
          have hownE := owns_below hown.out HBE.out
          have HOWNE := Lib.hid hownE
          clear hownE
          go_wp2_with (at_builtin; refine wpList_append_own _ rfl (.tmp 35) (.tmp 37) 62 rfl (w.heap.size + 1) 9 i0 (.string ⟨#[]⟩) 1 16 Tryd.underlying62 hi0 hz0 hz1 hz2 rfl (by decide) _ _ _ rfl (HOWNE.out.alloc _) ⟨wE.heap.size, 0, none⟩ 1 1 [.string SV] rfl rfl ?c1 ?c2 ?c3 ?c4 ?c5 ?_)
          case c1 =>
            intro j u hj
            rcases j with _ | j
            · simp at hj; subst hj; simp [Addr.add]
            · simp at hj
          case c2 => intro u hu; simp at hu; subst hu; rfl
          case c3 => unfold maxLen; omega
          case c4 => omega
          case c5 =>
            have h1 := hrow.out.lt
            have h2 := HBE.out.size
            have h3 := (boxes1 wE (.cells #[.string SV] 9)).2.1
            omega
          · intro v' w1 hown' hgr hnn
            have HOWN' := Lib.hid hown'
            have HGR := Lib.hid hgr
            have HNN := Lib.hid hnn
            clear hown' hgr hnn
            go_wp2_with fail
            go_roundg q0
            case measure => rw [hgm.out, HQ0.out]; exact Nat.div_lt_self hm0 (by decide)
            case rel =>
              have hbA := (boxes1 wE (.cells #[.string SV] 9)).2.2
              have hne := owns_far' HOWNE.out hnil.out HQ3E.out hqN
              have hqU := Cells.grownR (U32.below HQ3E.out hbA) HGR.out hne
              have hbw1 : Below w.heap.size w w1 := by
                have h0 := hbw.out.trans (HBE.out.mono hbw.out.size)
                have h1 := h0.trans (hbA.mono h0.size)
                refine h1.grown HGR.out h1.size ?_
                intro k hk
                have := (HOWNE.out.lt k hk).1
                omega
              have hrow1 : Row w1 w.heap.size 25 [.bool s, .slice A (digs n).length ca] := by
                have h0 := (hrow.out.below HBE.out hrow.out.lt)
                have h1 := h0.below hbA h0.lt
                refine (HGR.out.block w.heap.size h1.lt ?_).trans h1
                intro he
                have := (HOWNE.out.lt _ he.symm).1
                omega
              have hown1 : w1.ownsRow (w.heap.size + 1) 9 1 v' (gs ++ [groupOf m]).length ((gs ++ [groupOf m]).map strV) := by
                have h0 := HOWN'.out
                rw [HVAL.out] at h0
                rw [List.length_append, List.map_append]
                exact h0
              refine ⟨q0, gs ++ [groupOf m], some ⟨gq, 0, none⟩, cq, rfl, Lib.hid rfl, hq1, hq2, hqU, Lib.hid (fun b off e => by simp only [Option.some.injEq, Addr.mk.injEq, and_true] at e; exact .inr e.2.symm), Lib.hid hown1, Lib.hid ?_, Lib.hid ?_, Lib.hid (fun h => by simp at h), Lib.hid (fun h => by simp), Lib.hid hrow1, Lib.hid ?_, Lib.hid hbw1, Lib.hid (tab_keep HTAB0.out hbw1)⟩
              · rw [hdec.out, ahead_step hm0, ← HQ0.out]; simp
              · have h1 := hlen.out
                have h2 : 0 < (groupOf m).length := by
                  unfold groupOf
                  split
                  · rw [Lib.decDigits]; split <;> simp
                  · rw [padL_length]; omega
                simp at h1 ⊢
                omega
              · exact Nat.le_trans (digs_len_mono (by rw [HQ0.out]; exact Nat.div_le_self _ _)) hdl.out
        · have hqz : (digs q0).length = 0 := by omega
          have hq00 : q0 = 0 := digs_len_zero.1 hqz
          have hqd : decide (0 < (digs q0).length) = false := decide_eq_false (by omega)
          have HQZ := Lib.hid hqz
          have HQ00 := Lib.hid hq00
          have hd9 := dec_len_le 8 r0 (by omega)
          clear hqz hq00
          go_wp2_with fail
          refine HSH.out.mono ?_
          rintro e w2 ⟨v, rfl, ⟨hmag, hsh⟩, hb2⟩
          obtain ⟨gq, nq, cq, rfl⟩ := hsh
          obtain ⟨Aq, cq', hv, hq1, hq2, hq3⟩ := hmag
          simp only [Value.slice.injEq] at hv
          obtain ⟨rfl, rfl, rfl⟩ := hv
          have HB2 := Lib.hid hb2
          have HQ3 := Lib.hid hq3
          clear hb2 hq3
          go_wp2_with fail
          refine (Tryd.strconv_Itoa ((r0 : Nat) : Int) (by omega) (by omega) w2 (tab_keep htb.out HB2.out)).mono ?_
          rintro e w3 ⟨rfl, k3, os3, hw3⟩
          have hb3 : Below w2.heap.size w2 w3 := by rw [hw3]; exact Lib.below_grow _ _ (Nat.le_refl _) _ _
          rw [Lib.itoa_nonneg]
          have HB3 := Lib.hid hb3
          clear hb3 hw3
          obtain ⟨S2, hS2⟩ : ∃ S2 : ByteArray, S2 = ⟨(Lib.decDigits r0).toArray⟩ := ⟨_, rfl⟩
          try rw [← hS2]
          have HS2 := Lib.hid hS2
          have hz2s : ((S2.size : Nat) : Int) ≤ 9 := by
            rw [hS2]
            show (((Lib.decDigits r0).toArray.size : Nat) : Int) ≤ 9
            rw [List.size_toArray]; omega
          clear hS2
          go_upto_region 10 with (fail)
          obtain ⟨SV, hSV⟩ : ∃ SV, SV = S2 := ⟨_, rfl⟩
          rw [← hSV]
          have hval : Value.string SV = strV (groupOf m) := by
            rw [hSV, HS2.out]
            unfold strV groupOf
            rw [if_pos (by rw [← HQ0.out]; exact HQ00.out), ← HR0.out]
          have HVAL := Lib.hid hval
          obtain ⟨wE, hwE⟩ : ∃ wE, wE = w3 := ⟨_, rfl⟩
          rw [← hwE]
          have hbE : Below wr.heap.size wr wE := by rw [hwE]; exact HB2.out.trans (HB3.out.mono HB2.out.size)
          have HBE := Lib.hid hbE
          have hq3E : U32 wE (some ⟨gq, 0, none⟩) (digs q0) := by rw [hwE]; exact HQ3.out.below HB3.out
          have HQ3E := Lib.hid hq3E
          clear hSV hval hwE hbE hq3E
          have hgl : gs.length ≤ 1000000000 := by
            have h1 := congrArg List.length hdec.out
            rw [List.length_append] at h1
            have h2 := hlen.out
            have h3 := HLT.out
            omega
          have hownE := owns_below hown.out HBE.out
          have HOWNE := Lib.hid hownE
          clear hownE
          go_wp2_with (at_builtin; refine wpList_append_own _ rfl (.tmp 35) (.tmp 37) 62 rfl (w.heap.size + 1) 9 i0 (.string ⟨#[]⟩) 1 16 Tryd.underlying62 hi0 hz0 hz1 hz2 rfl (by decide) _ _ _ rfl (HOWNE.out.alloc _) ⟨wE.heap.size, 0, none⟩ 1 1 [.string SV] rfl rfl ?c1 ?c2 ?c3 ?c4 ?c5 ?_)
          case c1 =>
            intro j u hj
            rcases j with _ | j
            · simp at hj; subst hj; simp [Addr.add]
            · simp at hj
          case c2 => intro u hu; simp at hu; subst hu; rfl
          case c3 => unfold maxLen; omega
          case c4 => omega
          case c5 =>
            have h1 := hrow.out.lt
            have h2 := HBE.out.size
            have h3 := (boxes1 wE (.cells #[.string SV] 9)).2.1
            omega
          · intro v' w1 hown' hgr hnn
            have HOWN' := Lib.hid hown'
            have HGR := Lib.hid hgr
            have HNN := Lib.hid hnn
            clear hown' hgr hnn
            go_wp2_with fail
            go_roundg q0
            case measure => rw [hgm.out, HQ0.out]; exact Nat.div_lt_self hm0 (by decide)
            case rel =>
              have hbA := (boxes1 wE (.cells #[.string SV] 9)).2.2
              have hqU : U32 w1 (some ⟨gq, 0, none⟩) (digs q0) := .inl HQZ.out
              have hbw1 : Below w.heap.size w w1 := by
                have h0 := hbw.out.trans (HBE.out.mono hbw.out.size)
                have h1 := h0.trans (hbA.mono h0.size)
                refine h1.grown HGR.out h1.size ?_
                intro k hk
                have := (HOWNE.out.lt k hk).1
                omega
              have hrow1 : Row w1 w.heap.size 25 [.bool s, .slice A (digs n).length ca] := by
                have h0 := (hrow.out.below HBE.out hrow.out.lt)
                have h1 := h0.below hbA h0.lt
                refine (HGR.out.block w.heap.size h1.lt ?_).trans h1
                intro he
                have := (HOWNE.out.lt _ he.symm).1
                omega
              have hown1 : w1.ownsRow (w.heap.size + 1) 9 1 v' (gs ++ [groupOf m]).length ((gs ++ [groupOf m]).map strV) := by
                have h0 := HOWN'.out
                rw [HVAL.out] at h0
                rw [List.length_append, List.map_append]
                exact h0
              refine ⟨q0, gs ++ [groupOf m], some ⟨gq, 0, none⟩, cq, rfl, Lib.hid rfl, hq1, hq2, hqU, Lib.hid (fun b off e => by simp only [Option.some.injEq, Addr.mk.injEq, and_true] at e; exact .inr e.2.symm), Lib.hid hown1, Lib.hid ?_, Lib.hid ?_, Lib.hid (fun h => by simp at h), Lib.hid (fun h => by simp), Lib.hid hrow1, Lib.hid ?_, Lib.hid hbw1, Lib.hid (tab_keep HTAB0.out hbw1)⟩
              · rw [hdec.out, ahead_step hm0, ← HQ0.out]; simp
              · have h1 := hlen.out
                have h2 : 0 < (groupOf m).length := by
                  unfold groupOf
                  split
                  · rw [Lib.decDigits]; split <;> simp
                  · rw [padL_length]; omega
                simp at h1 ⊢
                omega
              · exact Nat.le_trans (digs_len_mono (by rw [HQ0.out]; exact Nat.div_le_self _ _)) hdl.out
      · have hm0 : m = 0 := digs_len_zero.1 (by omega)
        have hgs : gs ≠ [] := hne.out hm0
        have hdec0 : Lib.decDigits n = gs.reverse.flatten := by have := hdec.out; unfold ahead at this; rwa [if_pos hm0, List.nil_append] at this
        have hgl : gs.length ≤ 1000000000 := by
          have h1 := congrArg List.length hdec0
          have h2 := hlen.out
          have h3 := HLT.out
          omega
        have hgv : u3 ≠ .slice none 0 0 := by
          intro e
          have h1 := hown.out
          rw [e] at h1
          have h2 := h1.1
          rcases h1.2 with ⟨_, h3⟩ | ⟨_, _, _, h3, _⟩
          · exact hgs (by simpa using h3)
          · simp at h3
        obtain ⟨g1, cap, rfl, hlen1, hO⟩ := Own.of_owns hown.out hgv
        have HO := Lib.hid hO
        have HDEC0 := Lib.hid hdec0
        have HGL := Lib.hid hgl
        have hd0 : decide (0 < (digs m).length) = false := decide_eq_false (by omega)
        have hd1 : decide ((0 : Int) < (((digs m).length : Nat) : Int)) = false := decide_eq_false hm
        clear hO hdec0 hgs hgv hm0 hlen1 hgl hm
        go_wp2_with fail
        have hgl := HGL.out
        refine (Tryd.slices_Reverse_string_cells g1 0 gs.length cap (fun i => ⟨(gs.getD i []).toArray⟩) wr (by omega) (fun i hi => ?_) (fun j _ => HO.out.free _)).mono ?_
        · rw [Nat.zero_add, HO.out.cell (by rw [List.length_map]; exact hi)]
          simp [hi, strV]
        rintro e w2 ⟨rfl, q, hw2⟩
        have hg1 := HO.out.lt
        have hso : Lib.strsOf (fun i => ⟨(gs.getD i []).toArray⟩) gs.length = gs := by
          apply List.ext_getElem
          · rw [Lib.strsOf_length]
          · intro i h1 h2
            simp [Lib.strsOf, h2]
        rw [hso] at hw2
        have hcw2 : ∀ (j : Nat) (x : ByteArray), (gs.reverse.map (fun l => (⟨l.toArray⟩ : ByteArray)))[j]? = some x → w2.cell? ⟨g1, 0 + j, none⟩ = some (.string x) := by
          intro j x hx
          have hj : j < gs.length := by
            have := (List.getElem?_eq_some_iff.1 hx).1
            simpa using this
          rw [hw2, World.cell?_setCells_in g1 _ 0 _ (fun i hi => ?_) j (by simpa using hj)]
          · rw [List.getElem?_map] at hx
            simp only [List.getElem_map]
            rw [List.getElem?_eq_getElem (by simpa using hj)] at hx
            simp only [Option.map_some, Option.some.injEq] at hx
            rw [← hx]
            first | done | rfl
          · rw [List.length_map, List.length_reverse] at hi
            rw [Nat.zero_add]
            show (wr.cell? ⟨g1, i, none⟩).isSome = true
            rw [HO.out.cell (by rw [List.length_map]; exact hi)]
            simp [hi]
        have hb2 : Below g1 wr w2 := by
          rw [hw2]
          exact (below_drewN g1 wr q).trans (Lib.below_setCells_w (Nat.le_refl _) _ _ _)
        have hrow2 : Row w2 w.heap.size 25 [.bool s, .slice A (digs n).length ca] := hrow.out.below hb2 (by omega)
        have hbw2 : Below w.heap.size w w2 := hbw.out.trans (hb2.mono (by omega))
        have hs2 := hb2.size
        have HCW2 := Lib.hid hcw2
        have HROW2 := Lib.hid hrow2
        have HBW2 := Lib.hid hbw2
        clear hcw2 hrow2 hbw2 hb2 hso hw2
        go_wp2_with fail
        have hbw3 := HBW2.out
        have hjl : (Lib.join ((gs.reverse.map (fun l => (⟨l.toArray⟩ : ByteArray))).map (·.data.toList)) (⟨#[]⟩ : ByteArray).data.toList) = Lib.decDigits n := by
          show Lib.join _ [] = _
          rw [join_nosep, List.map_map, HDEC0.out]
          refine congrArg List.flatten ((List.map_congr_left (fun l _ => ?_)).trans (List.map_id _))
          rfl
        have HJ := Lib.hid hjl
        clear hjl
        have hxl : (gs.reverse.map (fun l => (⟨l.toArray⟩ : ByteArray))).length = gs.length := by rw [List.length_map, List.length_reverse]
        have hsj := Tryd.strings_Join g1 0 cap (gs.reverse.map (fun l => (⟨l.toArray⟩ : ByteArray))) ⟨#[]⟩ w2 HCW2.out (by omega) (by rw [hxl]; omega) (by have := HO.out.le; rw [List.length_map] at this; rw [hxl]; exact this.1) (by rw [HJ.out]; have := HLT.out; omega)
        rw [hxl] at hsj
        refine hsj.mono ?_
        clear hsj hxl
        rw [HJ.out]
        rintro e w3 ⟨rfl, hb3⟩
        have c0 := (HROW2.out.below hb3 HROW2.out.lt).at_ 0 rfl
        have HBW3 := Lib.hid (hbw3.trans (hb3.mono hbw3.size))
        have hsg := HS.out
        obtain ⟨S, hS⟩ : ∃ S : ByteArray, S = ⟨(Lib.decDigits n).toArray⟩ := ⟨_, rfl⟩
        rw [← hS]
        have hsz : S.size ≤ 1000000000 := by
          rw [hS]
          show (Lib.decDigits n).toArray.size ≤ _
          rw [List.size_toArray]; exact HLT.out
        have HSS := Lib.hid hS
        have HSG := Lib.hid hsg
        have HSZ := Lib.hid hsz
        have hz12 : (⟨#[45]⟩ : ByteArray).size + S.size ≤ 9223372036854775807 := by
          show 1 + S.size ≤ _
          omega
        clear hS hsg hb3 hbw3 hsz hgl
        cases s
        · have hST : S = txt a := by
            have h1 := HSG.out
            rw [HSS.out, HN.out]
            unfold txt
            rw [itoa_nonneg' (by simpa using h1)]
          clear hz12
          go_wp2_with fail
          go_returns
          exact ⟨rfl, HBW3.out⟩
        · have hST : (⟨#[45]⟩ : ByteArray) ++ S = txt a := by
            have h1 := HSG.out
            rw [HSS.out, HN.out]
            unfold txt
            rw [itoa_neg (by simpa using h1)]
            apply ByteArray.ext
            simp
          go_wp2_with fail
          go_returns
          exact ⟨rfl, HBW3.out⟩
end Go.Proofs.YtjeaemoiafamaaaDoor

/- integer.Parse: the integer with a text, or the error. -/
namespace Go.Proofs.YtjeaemoiafamaaaDoor
open Go.RowKit

theorem pred_walk (w : World) : PredAtRunes Tryd.prog 55 #[] noDg w := fun W r hr _ => by
  unfold FnGives
  by_cases h1 : 48 ≤ r <;> by_cases h2 : r ≤ 57
  all_goals
    have z1 : (48 : Int) ≤ (r : Int) ↔ 48 ≤ r := by omega
    have z2 : (r : Int) ≤ 57 ↔ r ≤ 57 := by omega
    go_enter Tryd.func55, Tryd.ntmps55
    go_wp2
    all_goals first | (exfalso; omega) | (go_ret; exact ⟨by first | (simp [noDg, h1, h2]; done) | (simp [noDg, h1, h2]; omega), 0, rfl⟩)

theorem contains_walk (s : ByteArray) (b : Bool) (hb : s.data.toList.all isDg = !b) (w : World) :
    Calls Tryd.prog 54 #[.string s, .func (.func 55) #[] #[]] w fun e w' => e = .returned (.bool b) ∧ Below w.heap.size w w' := by
  have h := Tryd.strings_ContainsFunc_runes 55 #[] (enters_of Tryd.func55 (by kernel_rfl) rfl) noDg s w (pred_walk w)
  rw [idx_dg, hb, Bool.not_not] at h
  exact h

theorem zero_int (w : World) : IsInt w (.agg #[.bool false, .slice none 0 0]) 0 :=
  ⟨none, 0, by simp [digs_zero], by simp [digs_zero], by unfold maxLen; omega, .inl (by simp [digs_zero])⟩

theorem parse_long (s : ByteArray) (w : World) (h : 65536 < s.size) (hm : s.size ≤ 9223372036854775807) :
    Calls Tryd.prog 21 #[.string s] w fun e w' => ∃ v, e = .returned (.tuple #[v, .int .i64 5]) ∧ IsInt w' v 0 ∧ Below w.heap.size w w' := by
  have key : Calls Tryd.prog 21 #[.string s] w fun e w' => e = .returned (.tuple #[.agg #[.bool false, .slice none 0 0], .int .i64 5]) ∧ Below w.heap.size w w' := by
    go_enter Tryd.func21, Tryd.ntmps21
    go_wp2_with fail
    go_returns
    exact ⟨by simp, by go_grown⟩
  refine key.mono ?_
  rintro e w' ⟨rfl, hb⟩
  exact ⟨_, rfl, zero_int _, hb⟩

theorem cut_walk (s : ByteArray) (w : World) :
    Calls Tryd.prog 53 #[.string s, .string ⟨#[45]⟩] w fun e w' => e = .returned (.tuple #[.string ⟨(body s.data.toList).toArray⟩, .bool (decide (s.data.toList.head? = some 45))]) ∧ w = w' := by
  refine (Tryd.strings_CutPrefix s ⟨#[45]⟩ w).mono ?_
  rintro e w' ⟨rfl, rfl⟩
  have := trim_body s.data.toList
  exact ⟨by rw [show (⟨#[45]⟩ : ByteArray).data.toList = [45] from rfl, this.1, this.2], rfl⟩

theorem not_empty {D : ByteArray} (h : D.data.toList ≠ []) : ¬ D.toList = [] ∧ D.toList.isEmpty = false := by
  have : ¬ D.toList = [] := fun e => by
    rw [toList_nil_iff_emptyBytes] at e
    subst e
    exact h rfl
  exact ⟨this, by simpa using this⟩

/-- What Parse hands back where the text is faulty. -/
theorem parse_empty (s : ByteArray) (ng : Bool) (w : World) (hs : ((s.size : Nat) : Int) ≤ 65536) (hcut : ∀ w, Calls Tryd.prog 53 #[.string s, .string ⟨#[45]⟩] w fun e w' => e = .returned (.tuple #[.string ⟨#[]⟩, .bool ng]) ∧ w = w') :
    Calls Tryd.prog 21 #[.string s] w fun e w' => e = .returned (.tuple #[.agg #[.bool false, .slice none 0 0], .int .i64 14]) ∧ Below w.heap.size w w' := by
  have HC := Lib.hid hcut
  clear hcut
  go_enter Tryd.func21, Tryd.ntmps21
  go_wp2_with fail
  refine (HC.out _).mono ?_
  rintro e w' ⟨rfl, rfl⟩
  go_wp2_with fail
  go_returns
  exact ⟨by simp, by go_grown⟩

theorem parse_nodigit (s D : ByteArray) (ng : Bool) (w : World) (hs : ((s.size : Nat) : Int) ≤ 65536) (hcut : ∀ w, Calls Tryd.prog 53 #[.string s, .string ⟨#[45]⟩] w fun e w' => e = .returned (.tuple #[.string D, .bool ng]) ∧ w = w')
    (hD : D.data.toList ≠ []) (hd : D.data.toList.all isDg = false) :
    Calls Tryd.prog 21 #[.string s] w fun e w' => e = .returned (.tuple #[.agg #[.bool false, .slice none 0 0], .int .i64 14]) ∧ Below w.heap.size w w' := by
  have HC := Lib.hid hcut
  obtain ⟨he1, he2⟩ := not_empty hD
  have HD := Lib.hid hd
  obtain ⟨r1, hWs, hWB⟩ := boxes1 w (.cells #[.bool false, .slice none 0 0] 25)
  obtain ⟨W, hW⟩ : ∃ W, W = w.alloc (.cells #[.bool false, .slice none 0 0] 25) := ⟨_, rfl⟩
  rw [← hW] at r1 hWs hWB
  have r1 : Row W w.heap.size 25 [.bool false, .slice none 0 0] := r1
  have R1 := Lib.hid r1
  have HWB := Lib.hid hWB
  have HWS := Lib.hid hWs
  clear hcut hD hd r1 hWB hWs
  go_enter Tryd.func21, Tryd.ntmps21
  go_wp2_with fail
  rw [← hW]
  clear hW
  refine (HC.out _).mono ?_
  rintro e w' ⟨rfl, rfl⟩
  go_wp2_with fail
  refine (contains_walk D true HD.out _).mono ?_
  rintro e w2 ⟨rfl, hb2⟩
  have r2 := R1.out.below hb2 R1.out.lt
  have k1 := r2.at_ 0 rfl
  have k2 := r2.at_ 1 rfl
  have k3 := r2.free 0
  have k4 := r2.free 1
  have HB2 := Lib.hid (HWB.out.trans (hb2.mono HWB.out.size))
  clear r2 hb2
  go_wp2_with fail
  refine bodyPost_ret (v := .tuple #[.agg #[.bool false, .slice none 0 0], .int .i64 14]) (by simp [results, Tryd.results21, go_sem, k1, k2]) rfl ?_
  exact ⟨rfl, (HB2.out.setCell (p := ⟨w.heap.size, 0, none⟩) (Nat.le_refl _) _).setCell (p := ⟨w.heap.size, 1, none⟩) (Nat.le_refl _) _⟩

theorem parse_form (s D : ByteArray) (ng : Bool) (w : World) (hs : ((s.size : Nat) : Int) ≤ 65536) (hcut : ∀ w, Calls Tryd.prog 53 #[.string s, .string ⟨#[45]⟩] w fun e w' => e = .returned (.tuple #[.string D, .bool ng]) ∧ w = w')
    (hD : D.data.toList ≠ []) (hd : D.data.toList.all isDg = true) (h0 : 0 < D.size) (h48 : D[0].toNat = 48) (hf : (1 : Int) < ((D.size : Nat) : Int) ∨ (((D.size : Nat) : Int) ≤ 1 ∧ ng = true)) :
    Calls Tryd.prog 21 #[.string s] w fun e w' => e = .returned (.tuple #[.agg #[.bool false, .slice none 0 0], .int .i64 3]) ∧ Below w.heap.size w w' := by
  have HC := Lib.hid hcut
  obtain ⟨he1, he2⟩ := not_empty hD
  have HD := Lib.hid hd
  obtain ⟨r1, hWs, hWB⟩ := boxes1 w (.cells #[.bool false, .slice none 0 0] 25)
  obtain ⟨W, hW⟩ : ∃ W, W = w.alloc (.cells #[.bool false, .slice none 0 0] 25) := ⟨_, rfl⟩
  rw [← hW] at r1 hWs hWB
  have r1 : Row W w.heap.size 25 [.bool false, .slice none 0 0] := r1
  have R1 := Lib.hid r1
  have HWB := Lib.hid hWB
  have HWS := Lib.hid hWs
  have h0' : (0 : Int) < ((D.size : Nat) : Int) := by omega
  clear hcut hD hd r1 hWB hWs
  rcases hf with hf | ⟨hf, rfl⟩
  all_goals
    go_enter Tryd.func21, Tryd.ntmps21
    go_wp2_with fail
    rw [← hW]
    clear hW
    refine (HC.out _).mono ?_
    rintro e w' ⟨rfl, rfl⟩
    go_wp2_with fail
    refine (contains_walk D false HD.out _).mono ?_
    rintro e w2 ⟨rfl, hb2⟩
    have r2 := R1.out.below hb2 R1.out.lt
    have k1 := r2.at_ 0 rfl
    have k2 := r2.at_ 1 rfl
    have k3 := r2.free 0
    have k4 := r2.free 1
    have HB2 := Lib.hid (HWB.out.trans (hb2.mono HWB.out.size))
    clear r2 hb2
    go_wp2_with fail
    refine bodyPost_ret (v := .tuple #[.agg #[.bool false, .slice none 0 0], .int .i64 3]) (by simp [results, Tryd.results21, go_sem, k1, k2]) rfl ?_
    exact ⟨rfl, (HB2.out.setCell (p := ⟨w.heap.size, 0, none⟩) (Nat.le_refl _) _).setCell (p := ⟨w.heap.size, 1, none⟩) (Nat.le_refl _) _⟩

theorem extract_list (R : ByteArray) (a b : Nat) : (R.extract a b).data.toList = (R.data.toList.take b).drop a := by
  rw [ByteArray.data_extract]
  simp [Array.toList_extract, List.drop_take]

set_option maxHeartbeats 1600000 in
theorem parse_good (s D : ByteArray) (ng : Bool) (w : World) (hs : ((s.size : Nat) : Int) ≤ 65536) (hcut : ∀ w, Calls Tryd.prog 53 #[.string s, .string ⟨#[45]⟩] w fun e w' => e = .returned (.tuple #[.string D, .bool ng]) ∧ w = w')
    (hD : D.data.toList ≠ []) (hd : D.data.toList.all isDg = true) (h0 : 0 < D.size) (hDs : ((D.size : Nat) : Int) ≤ 65536) (hf : ((D[0].toNat : Int) == 48) = false ∨ (D[0].toNat = 48 ∧ ((D.size : Nat) : Int) ≤ 1 ∧ ng = false)) :
    Calls Tryd.prog 21 #[.string s] w fun e w' => ∃ v, e = .returned (.tuple #[v, .int .i64 0]) ∧ IsInt w' v (sgn ng (dv D.data.toList)) ∧ Below w.heap.size w w' := by
  have HC := Lib.hid hcut
  obtain ⟨he1, he2⟩ := not_empty hD
  have HD := Lib.hid hd
  obtain ⟨r1, hWs, hWB⟩ := boxes1 w (.cells #[.bool false, .slice none 0 0] 25)
  obtain ⟨W, hW⟩ : ∃ W, W = w.alloc (.cells #[.bool false, .slice none 0 0] 25) := ⟨_, rfl⟩
  rw [← hW] at r1 hWs hWB
  have r1 : Row W w.heap.size 25 [.bool false, .slice none 0 0] := r1
  have R1 := Lib.hid r1
  have HWB := Lib.hid hWB
  have HWS := Lib.hid hWs
  have h0' : (0 : Int) < ((D.size : Nat) : Int) := by omega
  have hdl : ∀ c ∈ D.data.toList, isDg c = true := List.all_eq_true.1 hd
  have hdvl : D.data.toList.length = D.size := by rw [Array.length_toList]; rfl
  have hdg : (digs (dv D.data.toList)).length ≤ 65536 := by
    refine Nat.le_trans (digs_len_le (k := D.size) ?_) (by omega)
    refine Nat.lt_of_lt_of_le (dv_lt hdl) ?_
    rw [hdvl]
    exact Nat.pow_le_pow_left (by decide) _
  obtain ⟨N, hN⟩ : ∃ N, N = dv D.data.toList := ⟨_, rfl⟩
  rw [← hN] at hdg ⊢
  have HDL := Lib.hid hdl
  have HN := Lib.hid hN
  have HDG := Lib.hid hdg
  have HDVL := Lib.hid hdvl
  clear hcut hD hd r1 hWB hWs hdl hN hdg hdvl
  rcases hf with hf | ⟨hf1, hf2, rfl⟩
  all_goals
    go_enter Tryd.func21, Tryd.ntmps21
    go_wp2_with fail
    rw [← hW]
    clear hW
    refine (HC.out _).mono ?_
    rintro e w' ⟨rfl, rfl⟩
    go_wp2_with fail
    refine (contains_walk D false HD.out _).mono ?_
    rintro e w2 ⟨rfl, hb2⟩
    have R2 := Lib.hid (R1.out.below hb2 R1.out.lt)
    have HB2 := Lib.hid (HWB.out.trans (hb2.mono HWB.out.size))
    clear hb2
    go_wp2_with fail
    first
      | clear hf
      | clear hf1 hf2
    clear h0' he1 he2 hs
    go_loopg [4, 6] D.size (fun g dvv mv wr => ∃ (R : ByteArray) (n : Nat), dvv = .string R ∧ Hid (g = R.size) ∧ Hid (IsMag wr mv n) ∧ Hid (∀ c ∈ R.data.toList, isDg c = true) ∧ Hid (N = 10 ^ R.size * n + dv R.data.toList) ∧ ((R.size : Nat) : Int) ≤ 65536 ∧ Hid (Row wr w.heap.size 25 [.bool false, .slice none 0 0]) ∧ Hid (Below w.heap.size w wr))
    case atStart => exact ⟨D, 0, rfl, Lib.hid rfl, Lib.hid ⟨none, 0, by simp [digs_zero], by simp [digs_zero], by unfold maxLen; omega, .inl (by simp [digs_zero])⟩, HDL, Lib.hid (by rw [HN.out]; simp), by assumption, R2, HB2⟩
    case round =>
      obtain ⟨R, n, rfl, hg, hmag, hRd, hNr, hRs, hrow, hbw⟩ := hrel
      by_cases hz : (0 : Int) < ((R.size : Nat) : Int)
      · obtain ⟨q, hq⟩ : ∃ q : Nat, (((R.size : Nat) : Int) - 1) % 9 = (q : Nat) := ⟨(R.size - 1) % 9, by omega⟩
        have hq8 : ((q : Nat) : Int) ≤ 8 := by omega
        have hqR : ((q : Nat) : Int) + 1 ≤ ((R.size : Nat) : Int) := by omega
        have HRD := Lib.hid (show True from trivial)
        go_wp2_with fail
        go_loop [8, 48] (fun byv iv => ∃ k p : Nat, ((k : Nat) : Int) ≤ (q : Nat) + 1 ∧ iv = .int .i64 k ∧ byv = .int .u32 (p : Nat) ∧ Hid (p = 10 ^ k)) (fun _ iv => q + 1 - (intOf iv).toNat)
        case atStart => exact ⟨0, 1, by omega, rfl, rfl, Lib.hid rfl⟩
        case round =>
          obtain ⟨k, p, hk, rfl, rfl, hp⟩ := hrel
          by_cases hkq : ((k : Nat) : Int) < ((q : Nat) : Int) + 1
          · have hp8 : p ≤ 100000000 := by
              rw [hp.out]
              exact Nat.le_trans (Nat.pow_le_pow_right (by decide) (show k ≤ 8 by omega)) (by decide)
            have hp9 : ((p : Nat) : Int) * 10 ≤ 4294967295 := by omega
            go_wp2_with fail
            go_round
            case rel => exact ⟨k + 1, p * 10, by omega, by go_num, by go_num, Lib.hid (by rw [hp.out, Nat.pow_succ])⟩
            case measure => simp [intOf]; omega
          · have hkq' : k = q + 1 := by omega
            have hp' : p = 10 ^ (q + 1) := by rw [hp.out, hkq']
            have hp9 : p ≤ 1000000000 := by
              rw [hp']
              exact Nat.le_trans (Nat.pow_le_pow_right (by decide) (show q + 1 ≤ 9 by omega)) (by decide)
            have HP := Lib.hid hp'
            clear hp' hp
            subst hkq'
            go_wp2_with fail
            have hex := extract_list R 0 (q + 1)
            rw [List.drop_zero] at hex
            have hrl : R.data.toList.length = R.size := by rw [Array.length_toList]; rfl
            have htd : ∀ c ∈ R.data.toList.take (q + 1), isDg c = true := fun c hc => hRd.out c (List.mem_of_mem_take hc)
            have htl : (R.data.toList.take (q + 1)).length = q + 1 := by rw [List.length_take, hrl]; omega
            obtain ⟨d, hd⟩ : ∃ d, d = dv (R.data.toList.take (q + 1)) := ⟨_, rfl⟩
            have hdlt : d < 10 ^ (q + 1) := by have := dv_lt htd; rw [htl] at this; rw [hd]; exact this
            rw [← HP.out] at hdlt
            have hpu := Tryd.strconv_ParseUint_10_at32_ok (R.extract 0 (q + 1)) (by rw [ByteArray.size_extract]; omega) d (by rw [hex, hd]; exact parse_ok32 (by intro e; rw [e] at htl; simp at htl) (by rw [htl]; omega) htd) wr
            have hd32 : ((d : Nat) : Int) < 4294967296 := by omega
            have HDD := Lib.hid hd
            have HEX := Lib.hid hex
            have HRL := Lib.hid hrl
            have HTL := Lib.hid htl
            clear hd hex hrl htd htl hdlt
            refine hpu.mono ?_
            clear hpu
            rintro e w3 ⟨rfl, hw3⟩
            have hb3 : Below wr.heap.size wr w3 := by
              rcases hw3 with rfl | rfl
              · exact Below.refl _ _
              · exact Lib.bytesWorld_below _ _ _
            have HB3 := Lib.hid hb3
            clear hw3 hb3
            obtain ⟨A', c', hv, hm1, hm2, hm3⟩ := hmag.out
            subst hv
            have hnN : n ≤ N := by
              rw [hNr.out]
              exact Nat.le_trans (Nat.le_mul_of_pos_left _ (Nat.pow_pos (by decide))) (Nat.le_add_right _ _)
            have hln : (digs n).length < 17592186044416 := by have := digs_len_mono hnN; have := HDG.out; omega
            have HM3 := Lib.hid hm3
            have HLN := Lib.hid hln
            have HP9 := Lib.hid hp9
            clear hm3 hnN hln hp9
            go_wp2_with fail
            refine (scale_walk A' c' p d (digs n) w3 (by exact U32.below HM3.out HB3.out) (dig_digs n) HLN.out (by have := HP9.out; omega) (by omega)).mono ?_
            rintro e w4 ⟨v4, rfl, hi4, hb4⟩
            rw [val_digs] at hi4
            have HI4 := Lib.hid hi4
            have HB4 := Lib.hid hb4
            clear hi4 hb4
            go_wp2_with fail
            have hex2 := extract_list R (q + 1) R.size
            rw [List.take_of_length_le (by rw [HRL.out]; exact Nat.le_refl _)] at hex2
            have hsz2 : (R.extract (q + 1) R.size).size = R.size - (q + 1) := by rw [ByteArray.size_extract]; omega
            have hb5 : Below wr.heap.size wr w4 := HB3.out.trans (HB4.out.mono HB3.out.size)
            go_roundg ((R.extract (q + 1) R.size).size)
            case measure => rw [hg.out, hsz2]; omega
            case rel =>
              refine ⟨_, p * n + d, rfl, Lib.hid rfl, HI4, Lib.hid ?_, Lib.hid ?_, ?_, Lib.hid (hrow.out.below hb5 hrow.out.lt), Lib.hid (hbw.out.trans (hb5.mono hbw.out.size))⟩
              · intro c hc
                rw [hex2] at hc
                exact hRd.out c (List.mem_of_mem_drop hc)
              · rw [hNr.out, hsz2, hex2, HDD.out, HP.out]
                have h1 := dv_append (R.data.toList.take (q + 1)) (R.data.toList.drop (q + 1))
                rw [List.take_append_drop, List.length_drop, HRL.out] at h1
                rw [h1, Nat.mul_add, ← Nat.mul_assoc, ← Nat.pow_add, show R.size - (q + 1) + (q + 1) = R.size by omega, Nat.add_assoc]
              · rw [hsz2]; omega
      · have hR0 : R.data.toList = [] := by
          apply List.eq_nil_of_length_eq_zero
          rw [Array.length_toList]
          show R.size = 0
          omega
        have hR1 : R.size = 0 := by omega
        have hNn : N = n := by
          have := hNr.out
          rw [hR0, hR1] at this
          rw [this, Nat.pow_zero, Nat.one_mul]; rfl
        have hd0 : decide (0 < R.size) = false := decide_eq_false (by omega)
        have HNN := Lib.hid hNn
        clear hR0 hR1 hNn
        go_wp2_with fail
        refine (signed_walk _ _ (digs n) _ hmag.out.isU32).mono ?_
        rintro e w3 ⟨v3, rfl, hi3, hb3⟩
        rw [val_digs] at hi3
        obtain ⟨s3, A3, l3, c3, rfl⟩ := hi3.shape
        have r3 := hrow.out.below hb3 hrow.out.lt
        have k1 := r3.at_ 0 rfl
        have k2 := r3.at_ 1 rfl
        have k3 := r3.free 0
        have k4 := r3.free 1
        have hres := res_store hbw.out r3 (by simp) (by simp) (Nat.le_refl _) hb3 hi3
        have HRES := Lib.hid hres
        clear r3 hi3 hb3 hres
        go_wp2_with fail
        refine bodyPost_ret (v := .tuple #[.agg #[.bool s3, .slice A3 l3 c3], .int .i64 0]) (by simp [results, Tryd.results21, go_sem, k1, k2]) rfl ?_
        rw [HNN.out]
        exact ⟨_, rfl, HRES.out.1, HRES.out.2⟩
end Go.Proofs.YtjeaemoiafamaaaDoor

/- integer.Parse over texts: the integer, or the first error. -/
namespace Go.Proofs.YtjeaemoiafamaaaDoor
open Go.RowKit

theorem parse_err (s : ByteArray) (w : World) (hs : s.size ≤ 65536) (hc : chk s.data.toList ≠ 0) :
    Calls Tryd.prog 21 #[.string s] w fun e w' => ∃ v, e = .returned (.tuple #[v, .int .i64 (chk s.data.toList : Nat)]) ∧ IsInt w' v 0 ∧ Below w.heap.size w w' := by
  obtain ⟨l, hl⟩ : ∃ l, l = s.data.toList := ⟨_, rfl⟩
  have hcut := cut_walk s
  rw [← hl] at hc hcut ⊢
  have hsz : ((s.size : Nat) : Int) ≤ 65536 := by omega
  have fin : ∀ (k : Nat), Calls Tryd.prog 21 #[.string s] w (fun e w' => e = .returned (.tuple #[.agg #[.bool false, .slice none 0 0], .int .i64 (k : Nat)]) ∧ Below w.heap.size w w') → chk l = k →
      Calls Tryd.prog 21 #[.string s] w fun e w' => ∃ v, e = .returned (.tuple #[v, .int .i64 (chk l : Nat)]) ∧ IsInt w' v 0 ∧ Below w.heap.size w w' := by
    intro k h hk
    refine h.mono ?_
    rintro e w' ⟨rfl, hb⟩
    exact ⟨_, by rw [hk], zero_int _, hb⟩
  have hDl : (⟨(body l).toArray⟩ : ByteArray).data.toList = body l := by simp
  unfold chk at hc
  split at hc
  · rename_i h1
    rw [h1] at hcut
    exact fin 14 (parse_empty s _ w hsz hcut) (by unfold chk; rw [if_pos h1])
  rename_i h1
  split at hc
  · rename_i h2
    exact fin 14 (parse_nodigit s ⟨(body l).toArray⟩ _ w hsz hcut (by rw [hDl]; exact h1) (by rw [hDl]; exact h2)) (by unfold chk; rw [if_neg h1, if_pos h2])
  rename_i h2
  split at hc
  · rename_i h3
    have h0 : 0 < (⟨(body l).toArray⟩ : ByteArray).size := by
      show 0 < (body l).toArray.size
      rw [List.size_toArray]; exact List.length_pos_iff.2 h1
    have hsize : (⟨(body l).toArray⟩ : ByteArray).size = (body l).length := by
      show (body l).toArray.size = _
      rw [List.size_toArray]
    refine fin 3 (parse_form s ⟨(body l).toArray⟩ _ w hsz hcut (by rw [hDl]; exact h1) (by rw [hDl]; simpa using h2) h0 ?_ ?_) (by unfold chk; rw [if_neg h1, if_neg h2, if_pos h3])
    · have h4 := h3.1
      have h5 : 0 < (body l).length := by omega
      have e : (⟨(body l).toArray⟩ : ByteArray)[0] = (body l)[0] := by
        show (body l).toArray[0]'_ = _
        simp
      rw [e]
      rw [List.head?_eq_getElem?, List.getElem?_eq_getElem h5] at h4
      simp only [Option.some.injEq] at h4
      rw [h4]; rfl
    · rw [hsize]
      rcases Nat.lt_or_ge 1 (body l).length with h6 | h6
      · left; omega
      · right
        refine ⟨by omega, ?_⟩
        rcases h3.2 with h7 | h7
        · omega
        · exact decide_eq_true h7
  · exact absurd rfl hc

theorem parse_ok (s : ByteArray) (a : Int) (w : World) (hs : s.size ≤ 65536) (ha : s = txt a) (hc : chk s.data.toList = 0) :
    Calls Tryd.prog 21 #[.string s] w fun e w' => ∃ v, e = .returned (.tuple #[v, .int .i64 0]) ∧ IsInt w' v a ∧ Below w.heap.size w w' := by
  obtain ⟨l, hl⟩ : ∃ l, l = s.data.toList := ⟨_, rfl⟩
  have hcut := cut_walk s
  have hll : l.length = s.size := by rw [hl, Array.length_toList]; rfl
  rw [← hl] at hc hcut
  obtain ⟨a', h1, h2, h3⟩ := chk_ok hc
  obtain rfl : a' = a := by
    apply itoa_inj
    rw [← h1, hl, ha, txt_list]
  have hDl : (⟨(body l).toArray⟩ : ByteArray).data.toList = body l := by simp
  have hne : body l ≠ [] := by
    intro e
    have := dec_pos a'.natAbs
    rw [← h2, e] at this
    simp at this
  have hall : (body l).all isDg = true := by
    rw [h2]; exact List.all_eq_true.2 (dec_isDg _)
  have h0 : 0 < (⟨(body l).toArray⟩ : ByteArray).size := by
    show 0 < (body l).toArray.size
    rw [List.size_toArray]; exact List.length_pos_iff.2 hne
  have hsize : (⟨(body l).toArray⟩ : ByteArray).size = (body l).length := by
    show (body l).toArray.size = _
    rw [List.size_toArray]
  have hble : (body l).length ≤ s.size := by
    rw [← hll]
    unfold body
    split
    · rw [List.length_tail]; omega
    · exact Nat.le_refl _
  have e : (⟨(body l).toArray⟩ : ByteArray)[0] = (body l)[0]'(List.length_pos_iff.2 hne) := by
    show (body l).toArray[0]'_ = _
    simp
  have hg := parse_good s ⟨(body l).toArray⟩ _ w (by omega) hcut (by rw [hDl]; exact hne) (by rw [hDl]; exact hall) h0 (by rw [hsize]; omega) (by
    rw [e]
    have h5 : (body l).head? = some ((body l)[0]'(List.length_pos_iff.2 hne)) := by rw [List.head?_eq_getElem?, List.getElem?_eq_getElem]
    by_cases h6 : (body l)[0]'(List.length_pos_iff.2 hne) = 48
    · right
      unfold chk at hc
      rw [if_neg hne, if_neg (by rw [hall]; simp)] at hc
      have h7 : ¬ ((body l).head? = some 48 ∧ (1 < (body l).length ∨ l.head? = some 45)) := by
        intro h8; rw [if_pos h8] at hc; omega
      rw [h5, h6] at h7
      refine ⟨by rw [h6]; rfl, ?_, ?_⟩
      · rw [hsize]
        rcases Nat.lt_or_ge 1 (body l).length with h9 | h9
        · exact absurd ⟨rfl, .inl h9⟩ h7
        · omega
      · exact decide_eq_false (fun h9 => h7 ⟨rfl, .inr h9⟩)
    · left
      rw [beq_eq_false_iff_ne]
      intro h7
      apply h6
      apply UInt8.toNat_inj.1
      show _ = 48
      omega)
  refine hg.mono ?_
  rintro e w' ⟨v, rfl, hv, hb⟩
  refine ⟨v, rfl, ?_, hb⟩
  rw [hDl, h2, dv_dec] at hv
  have : sgn (decide (l.head? = some 45)) a'.natAbs = a' := by
    by_cases hn : a' < 0
    · rw [decide_eq_true (h3.2 hn)]; unfold sgn; simp; omega
    · rw [decide_eq_false (fun h => hn (h3.1 h))]; unfold sgn; simp; omega
  rw [this] at hv
  exact hv
end Go.Proofs.YtjeaemoiafamaaaDoor
