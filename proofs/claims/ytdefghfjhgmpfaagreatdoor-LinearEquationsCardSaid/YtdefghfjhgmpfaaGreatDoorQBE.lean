/- Parts of this proof: Release0 RayM. -/
import Derived.Test.YtdefghfjhgmpfaaGreatDoorQBD
namespace Go.Proofs.YtdefghfjhgmpfaaGreatDoor
section
open Go.RowKit
open Lp (RL upd Dict)
set_option maxRecDepth 100000 in
set_option maxHeartbeats 1600000 in
theorem release_n0 (L : Lay) (m n : Nat) (D0 : Dict) (w : World) (hT : Tabl w L m n D0) (hz : n = 0) (hok : D0.Ok m n) (hrel : D0.Rel m n 0) (hm : m ≤ 4611686018427387904) (hn : n ≤ 4611686018427387904) :
  Calls Tryz.prog 101 #[.pointer (some ⟨L.gt, 0, none⟩)] w fun e w' => e = .returned (.tuple #[]) ∧ Good m n D0 D0 n ∧ Below w.heap.size w w' := by
 have HG0 : Hid (Good m n D0 D0 0) := lH ⟨hok, fun _ _ _ => Iff.rfl, hrel⟩;have HT0 := lH hT;clear hok hrel;obtain ⟨sv, Av, lv, cv, tv, Bv, mv, dv, hrt, hvv⟩ := hT.st;unfold Lay.cells at hrt;have RT := lH hrt;clear hrt hvv;have k2 := RT.out.at_ 2 rfl;have kl := RT.out.lt;have hz' : n ≤ 0 := by omega
 clear hT hz;go_enter Tryz.func101, Tryz.ntmps101;go_wp2_with fail
 clear k2 kl RT
 go_loopw [9] (fun iv wr => ∃ k : Nat, k ≤ n ∧ iv = .int .i64 k ∧ Hid (Good m n D0 D0 k) ∧ Below w.heap.size w wr)
  (fun iv _ => n - (intOf iv).toNat)
 case atStart => exact ⟨0, Nat.zero_le _, rfl, HG0, Below.refl _ _⟩
 case round =>
  clear HG0;obtain ⟨k, hk, rfl, HG, hbw⟩ := hrel;have HB0 := lH hbw;have HT := lH (HT0.out.below hbw);clear hbw HT0;by_cases hkn : ((k : Nat) : Int) < (n : Nat)
  ·exfalso
   omega
  ·obtain rfl : n = k := by omega
   go_wp2_with fail
   go_returns;exact ⟨rfl, HG.out, HB0.out⟩
set_option maxRecDepth 100000 in
set_option maxHeartbeats 1600000 in
theorem release_m0 (L : Lay) (m n : Nat) (D0 : Dict) (w : World) (hT : Tabl w L m n D0) (hz : m = 0) (hok : D0.Ok m n) (hrel : D0.Rel m n 0) (hm : m ≤ 4611686018427387904) (hn : n ≤ 4611686018427387904) :
  Calls Tryz.prog 101 #[.pointer (some ⟨L.gt, 0, none⟩)] w fun e w' => e = .returned (.tuple #[]) ∧ Good m n D0 D0 n ∧ Below w.heap.size w w' := by
 have HG0 : Hid (Good m n D0 D0 0) := lH ⟨hok, fun _ _ _ => Iff.rfl, hrel⟩;have HT0 := lH hT;clear hok hrel;obtain ⟨sv, Av, lv, cv, tv, Bv, mv, dv, hrt, hvv⟩ := hT.st;unfold Lay.cells at hrt;have RT := lH hrt;clear hrt hvv;have k2 := RT.out.at_ 2 rfl;have kl := RT.out.lt;have hz' : m ≤ 0 := by omega
 clear hT hz;go_enter Tryz.func101, Tryz.ntmps101;go_wp2_with fail
 clear k2 kl RT
 go_loopw [9] (fun iv wr => ∃ k : Nat, k ≤ n ∧ iv = .int .i64 k ∧ Hid (Good m n D0 D0 k) ∧ Below w.heap.size w wr)
  (fun iv _ => n - (intOf iv).toNat)
 case atStart => exact ⟨0, Nat.zero_le _, rfl, HG0, Below.refl _ _⟩
 case round =>
  clear HG0;obtain ⟨k, hk, rfl, HG, hbw⟩ := hrel;have HB0 := lH hbw;have HT := lH (HT0.out.below hbw);clear hbw HT0;by_cases hkn : ((k : Nat) : Int) < (n : Nat)
  ·have hkn' : k < n := by omega
   obtain ⟨wa, rfl⟩ := eX (wr);obtain ⟨sv, Av, lv, cv, tv, Bv, mv, dv, hrt, hvv⟩ := HT.out.st;unfold Lay.cells at hrt;have RT := lH hrt;clear hrt hvv;have k1 := RT.out.at_ 1 rfl;have kl := RT.out.lt;clear HT;go_wp2_with fail
   clear k1 kl RT
   go_loopw [17] (fun iv wr => iv = .int .i64 0 ∧ Below wa.heap.size wa wr) (fun _ _ => 0)
   case atStart => exact ⟨rfl, Below.refl _ _⟩
   case round =>
    obtain ⟨rfl, hbw⟩ := hrel;have HB := lH hbw;clear hbw;obtain rfl : m = 0 := by omega
    go_wp2_with fail
    go_roundw
    case rel => exact ⟨k + 1, by omega, by simp, lH (HG.out.none_ fun r hr => absurd hr (by omega)), HB0.out.trans (HB.out.mono HB0.out.size)⟩
    case measure => first | (simp [intOf]; done) | (simp [intOf]; omega)
  ·obtain rfl : n = k := by omega
   go_wp2_with fail
   go_returns;exact ⟨rfl, HG.out, HB0.out⟩
end
section
open Go.RowKit
open Lp (RL upd Dict)
open Lp (sumTo spread)
def rayTo (D : Dict) (j : Nat) (s : Rat) (k c : Nat) : Rat := (if D.off j = c then s else 0) + sumTo k (fun r => if D.basic r = c then -(s * D.cell r j) else 0)
theorem ray_zero {j : Nat} {D : Dict} {s : Rat} (c : Nat) : rayTo D j s 0 c = if D.off j = c then s else 0 := by
 show (if D.off j = c then s else 0) + 0 = _;grind
theorem ray_start {j : Nat} {D : Dict} {s : Rat} (c : Nat) : upd (fun _ => 0) (D.off j) s c = rayTo D j s 0 c := by
 rw [ray_zero];by_cases e : c = D.off j
 ·subst e; rw [Lp.upd_same, if_pos rfl]
 ·rw [Lp.upd_other _ _ e, if_neg (fun e' => e e'.symm)]
theorem ray_far {n j : Nat} {D : Dict} {s : Rat} (h : n ≤ D.off j) (c : Nat) (hc : c < n) : (0 : Rat) = rayTo D j s 0 c := by
 rw [ray_zero, if_neg (by omega)]
theorem ray_skip {n j k : Nat} {D : Dict} {s : Rat} (h : n ≤ D.basic k) (c : Nat) (hc : c < n) : rayTo D j s k c = rayTo D j s (k + 1) c := by
 show _ = (if D.off j = c then s else 0) + (sumTo k (fun r => if D.basic r = c then -(s * D.cell r j) else 0) + (if D.basic k = c then -(s * D.cell k j) else 0));rw [if_neg (by omega : ¬ D.basic k = c)];show (if D.off j = c then s else 0) + sumTo k (fun r => if D.basic r = c then -(s * D.cell r j) else 0) = _;grind
theorem ray_set {m n j k : Nat} {D : Dict} {s : Rat} (hD : D.Ok m n) (hj : j < n) (hk : k < m) (c : Nat) : upd (rayTo D j s k) (D.basic k) (-(s * D.cell k j)) c = rayTo D j s (k + 1) c := by
 show _ = (if D.off j = c then s else 0) + (sumTo k (fun r => if D.basic r = c then -(s * D.cell r j) else 0) + (if D.basic k = c then -(s * D.cell k j) else 0));by_cases e : c = D.basic k
 ·subst e;rw [Lp.upd_same, if_pos rfl];have h1 : sumTo k (fun r => if D.basic r = D.basic k then -(s * D.cell r j) else 0) = 0 := Lp.sumTo_zero fun r hr => if_neg fun e => by have := hD.bi r k (by omega) hk e; omega
  have h2 : ¬ D.off j = D.basic k := fun e => hD.ne k j hk hj e.symm
  rw [h1, if_neg h2]; grind
 ·rw [Lp.upd_other _ _ e, if_neg (show ¬ D.basic k = c from fun e' => e e'.symm)];show (if D.off j = c then s else 0) + sumTo k (fun r => if D.basic r = c then -(s * D.cell r j) else 0) = _;grind
end
end Go.Proofs.YtdefghfjhgmpfaaGreatDoor
