/- Parts of this proof: Repeat. -/
import Derived.Test.YtdefghfjhgmpfaaGreatDoorQAE
import Derived.Test.YtdefghfjhgmpfaaGreatDoorQAW
import Derived.Test.YtdefghfjhgmpfaaGreatDoorQAZ
import Derived.Test.YtdefghfjhgmpfaaGreatDoorQBR
import Derived.Laws.CopyOwn
namespace Go.Proofs.YtdefghfjhgmpfaaGreatDoor
open Go.RowKit
open Lp (RL upd Dict)
theorem copy_row {P : Program} (w : World) (dT sT ty elem : TypeId) (hu : P.underlying dT = some (.slice elem)) (hs : (P.info? elem).map (·.size) = some 1) (g o dLen dCap : Nat) (a : Addr) (sLen sCap : Nat) (L : List Value) (t : TypeId) (hg : Row w g t L) (cs : List Value) (hn : cs.length = Nat.min sLen dLen)
  (hsrc : ∀ (j : Nat) v, cs[j]? = some v → w.cell? (a.add j) = some v) (hfit : o + cs.length ≤ L.length) (h1 : ∀ v ∈ cs, v.oneCell' = true) :
  ∃ w', (Builtin.copy_ #[dT, sT] ty #[.slice (some ⟨g, o, none⟩) dLen dCap, .slice (some a) sLen sCap]).run P w = .ok (goInt cs.length) w' ∧ Row w' g t (splice L o cs) ∧ Below g w w' := by
 refine ⟨_, run_copy_row (P := P) w dT sT ty elem g o dLen dCap a sLen sCap L.toArray t cs hu hs hg hn hsrc (by simpa using hfit) h1, ?_, below_setRow (Below.refl _ _) (Nat.le_refl _) _⟩;show _ = _
 simpa [splice] using setRow_heap w g _ _ t _ hg
theorem one_src {w : World} {g o : Nat} {s : ByteArray} (h : w.cell? ⟨g, o, none⟩ = some (.string s)) {j : Nat} {v : Value} (hj : [Value.string s][j]? = some v) : w.cell? ((⟨g, o, none⟩ : Addr).add j) = some v := by
 rcases j with _ | j
 ·simp at hj; subst hj; exact h
 ·simp at hj
set_option maxRecDepth 100000 in
set_option maxHeartbeats 6400000 in
theorem repeat_walk (gx ox c m : Nat) (s : ByteArray) (w : World) (hx : w.cell? ⟨gx, ox, none⟩ = some (.string s)) (hm1 : 1 ≤ m) (hm : m ≤ 1000) :
  Calls Tryz.prog 41 #[.slice (some ⟨gx, ox, none⟩) 1 c, .int .i64 m] w fun e w' => ∃ g, e = .returned (.slice (some ⟨g, 0, none⟩) m m) ∧ SK w' g m (fun _ => s) ∧ w.heap.size ≤ g ∧ Below w.heap.size w w' := by
 have HX := lH hx;have hmi : ((m : Nat) : Int) ≤ 1000 := by omega
 have hmp : (0 : Int) < ((m : Nat) : Int) := by omega
 have hmd : decide (((m : Nat) : Int) < 0) = false := decide_eq_false (by omega);obtain ⟨iN, hiN, hzN0, hzN1, hzN2⟩ := info_parts infoN;clear hx;go_enter Tryz.func41, Tryz.ntmps41;go_wp2_with fail
 have hmul := Tryz.bits_Mul 1 m (by decide) (by omega) w;rw [show 1 * m / 18446744073709551616 = 0 by omega, show 1 * m % 18446744073709551616 = m by omega] at hmul;refine hmul.mono ?_;rintro e w1 ⟨rfl, rfl⟩;clear hmul;have hmu : ¬ (9223372036854775807 : Int) < ((m : Nat) : Int) := by omega
 have hmv : decide ((9223372036854775807 : Int) < ((m : Nat) : Int)) = false := decide_eq_false hmu;have hmn : decide (9223372036854775807 < m) = false := decide_eq_false (by omega)
 go_wp2_with (at_make; refine wpList_mkN w1 rfl (.tmp 29) (.tmp 29) rfl _ _ m rfl rfl rfl rfl (by omega) ?_)
 intro w2 hsk hb2 _;obtain ⟨L0, hrow, hlen, _⟩ := hsk;have HR := lH hrow;have HLN := lH hlen;have HB := lH hb2;have HX2 := lH (cell_below HB.out HX.out);obtain ⟨gg, hgg⟩ := eX (w1.heap.size);have HGG : Hid (w1.heap.size ≤ gg) := lH (by omega);rw [← hgg] at HR ⊢;clear hb2 hrow hlen hgg;obtain ⟨w3, hcp, hr3, hb3'⟩ := copy_row (P := Tryz.prog) w2 22 22 3 30 Tryz.underlying22 (by kernel_rfl) gg 0 m m ⟨gx, ox, none⟩ 1 c L0 30 HR.out [.string s] (by show 1 = min 1 m; omega) (fun j v hj => one_src HX2.out hj) (by have := HLN.out; show 0 + 1 ≤ L0.length; omega) (fun v hv => by rw [List.mem_singleton.1 hv]; rfl);have hb3 := HB.out.trans (hb3'.mono HGG.out);clear hb3';obtain ⟨L1, hL1⟩ := eX (splice L0 0 [Value.string s]);have HL1 : Hid (m ≤ L1.length ∧ L1[0]? = some (.string s)) := lH (by rw [hL1, length_splice _ _ _ (by have := HLN.out; simp; omega)]; exact ⟨HLN.out, by simp [splice]⟩);have HR3 : Hid (Row w3 gg 30 L1) := lH (by rw [hL1]; exact hr3);have HB3 := lH hb3;clear hr3 hb3 hL1 HR HB HLN HX2;go_wp2_with fail
 clear hcp
 go_loopw [8] (fun iv wr => ∃ (k : Nat) (L : List Value), 1 ≤ k ∧ k ≤ m ∧ iv = .int .i64 k ∧ Hid (Row wr gg 30 L) ∧ Hid (m ≤ L.length) ∧ Hid (∀ j, j < k → L[j]? = some (.string s)) ∧ Below w1.heap.size w1 wr) (fun iv _ => m - (intOf iv).toNat)
 case atStart => exact ⟨1, _, Nat.le_refl _, hm1, rfl, HR3, lH HL1.out.1, lH (fun j hj => by rw [show j = 0 by omega]; exact HL1.out.2), HB3.out⟩
 case round =>
  clear HR3 HB3 HL1;obtain ⟨k, L, hk1, hkm, rfl, hr, hl, hs, hb⟩ := hrel;have HR := lH hr.out;have HL := lH hl.out;have HS := lH hs.out;have HB := lH hb;clear hr hl hs hb;by_cases hkn : ((k : Nat) : Int) < ((m : Nat) : Int)
  ·have hkm1 : k < m := by omega
   have hk0 : (0 : Int) ≤ ((k : Nat) : Int) := by omega
   have hkl : ((k : Nat) : Int) ≤ ((m : Nat) : Int) := by omega
   go_wp2_with fail
   refine wp_region_late (fun _ => True) (fun _ => false) (by kernel_rfl) ?_;refine wpAnyE_taked (i := 0) (v := ?_) (some 38) rfl (by rfl) (by kernel_rfl) (by kernel_rfl) (by kernel_rfl) (by kernel_rfl) (fun _ _ _ h => h) (Or.inl ⟨by rfl, ?_⟩) trivial ?_;rotate_left
   ·(intro w' _; go_simp; try with_reducible rfl)
   simp only [Act.put, List.setIfInBounds_toArray, List.set_cons_zero, List.set_cons_succ];refine wpAnyE_taked (i := 1) (v := ?_) (some 39) rfl (by rfl) (by kernel_rfl) (by kernel_rfl) (by kernel_rfl) (by kernel_rfl) (fun _ _ _ h => h) (Or.inl ⟨by rfl, ?_⟩) trivial ?_;rotate_left
   ·(intro w' _; go_simp; try with_reducible rfl)
   simp only [Act.put, List.setIfInBounds_toArray, List.set_cons_zero, List.set_cons_succ];refine wpAnyE_taked (i := 2) (v := ?_) (some 40) rfl (by rfl) (by kernel_rfl) (by kernel_rfl) (by kernel_rfl) (by kernel_rfl) (fun _ _ _ h => h) (Or.inl ⟨by rfl, ?_⟩) trivial ?_;rotate_left
   ·(intro w' _; go_simp; try with_reducible rfl)
   simp only [Act.put, List.setIfInBounds_toArray, List.set_cons_zero, List.set_cons_succ];refine wpAnyE_taked (i := 3) (v := .slice (some ⟨gg, k, none⟩) (m - k) (m - k)) (some 41) rfl (by rfl) (by kernel_rfl) (by kernel_rfl) (by kernel_rfl) (by kernel_rfl) (fun _ _ _ h => h) (Or.inl ⟨by rfl, ?_⟩) trivial ?_
   ·(intro w' _; go_simp; try omega)
   simp only [Act.put, List.setIfInBounds_toArray, List.set_cons_zero, List.set_cons_succ];refine wpAnyE_taked (i := 4) (v := ?_) (some 42) rfl (by rfl) (by kernel_rfl) (by kernel_rfl) (by kernel_rfl) (by kernel_rfl) (fun _ _ _ h => h) (Or.inl ⟨by rfl, ?_⟩) trivial ?_;rotate_left
   ·(intro w' _; go_simp; try with_reducible rfl)
   simp only [Act.put, List.setIfInBounds_toArray, List.set_cons_zero, List.set_cons_succ];refine wpAnyE_taked (i := 5) (v := ?_) (some 43) rfl (by rfl) (by kernel_rfl) (by kernel_rfl) (by kernel_rfl) (by kernel_rfl) (fun _ _ _ h => h) (Or.inl ⟨by rfl, ?_⟩) trivial ?_;rotate_left
   ·(intro w' _; go_simp; try with_reducible rfl)
   simp only [Act.put, List.setIfInBounds_toArray, List.set_cons_zero, List.set_cons_succ];refine wpAnyE_taked (i := 6) (v := .slice (some ⟨gg, 0, none⟩) k m) (some 44) rfl (by rfl) (by kernel_rfl) (by kernel_rfl) (by kernel_rfl) (by kernel_rfl) (fun _ _ _ h => h) (Or.inl ⟨by rfl, ?_⟩) trivial ?_
   ·(intro w' _; go_simp; try omega)
   simp only [Act.put, List.setIfInBounds_toArray, List.set_cons_zero, List.set_cons_succ];obtain ⟨cs, hcs⟩ := eX (L.take (min k (m - k)));have hcl : cs.length = min k (m - k) := by have := HL.out; rw [hcs, List.length_take]; omega
   have HC : Hid (∀ (j : Nat) (v : Value), cs[j]? = some v → v = Value.string s ∧ L[j]? = some v) := lH (fun j v hj => by
    have h1 := (List.getElem?_eq_some_iff.1 hj).1;rw [hcl] at h1;rw [hcs, List.getElem?_take_of_lt h1] at hj;rw [HS.out j (by omega)] at hj
    exact ⟨by simpa using hj.symm, by rw [HS.out j (by omega)]; exact hj⟩)
   have HCL := lH hcl;clear hcs hcl;refine rD 7 (fun K hK => ?_);refine step_copy_splice rfl (.tmp 41) (.tmp 44) 22 22 rfl 30 Tryz.underlying22 (by kernel_rfl) _ _ (m - k) (m - k) k m rfl rfl gg k L 30 HR.out cs (by rw [HCL.out]) (fun _ => ⟨rfl, _, rfl, fun j v hj => by rw [add0]; exact HR.out.at_ j (HC.out j v hj).2⟩) (by have := HCL.out; have := HL.out; omega) (fun v hv => by obtain ⟨j, hj⟩ := List.getElem?_of_mem hv; rw [(HC.out j v hj).1]; rfl) w1.heap.size w1 HB.out.drew HGG.out ?_;intro w4 hr4 hb4;show K (Act.put _ (some 45) _) w4;have HR4 : Hid (Row w4 gg 30 (splice L k cs)) := hr4;have HL4 : Hid (m ≤ (splice L k cs).length) := lH (by rw [length_splice _ _ _ (by have := HCL.out; have := HL.out; omega)]; exact HL.out)
   have HS4 : Hid (∀ j, j < k + cs.length → (splice L k cs)[j]? = some (.string s)) := lH (fun j hj => by
    have hl := HL.out;by_cases e : j < k
    ·unfold splice; rw [List.getElem?_append_left (by rw [List.length_take]; omega), List.getElem?_take_of_lt e]; exact HS.out j e
    ·have h1 : j - k < cs.length := by omega
     have h2 : cs[j - k]? = some cs[j - k] := List.getElem?_eq_getElem h1;unfold splice
     rw [List.getElem?_append_right (by rw [List.length_take]; omega), List.length_take, show j - min k L.length = j - k by omega, List.getElem?_append_left h1, h2, (HC.out _ _ h2).1])
   have HB4 := lH hb4;obtain ⟨n2, hn2⟩ := eX (cs.length);have HN2 : Hid (0 < n2 ∧ k + n2 ≤ m) := lH (by rw [hn2, HCL.out]; omega);rw [← hn2] at HS4 ⊢;clear hr4 hb4 hn2;refine hK.out _ _ (fun _ => trivial) ?_;clear hK K;simp only [Act.put, List.setIfInBounds_toArray, List.set_cons_zero, List.set_cons_succ];refine wpAnyE_taked (i := 8) (v := .int .i64 ((k + n2 : Nat) : Int)) (some 46) rfl (by rfl) (by kernel_rfl) (by kernel_rfl) (by kernel_rfl) (by kernel_rfl) (fun _ _ _ h => h) (Or.inl ⟨by rfl, ?_⟩) trivial ?_
   ·(intro w' _; have := HN2.out; go_simp; rw [IntWalk.i64_in _ (by omega)])
   simp only [Act.put, List.setIfInBounds_toArray, List.set_cons_zero, List.set_cons_succ];refine wpAnyE_taked (i := 9) (v := ?_) (some 8) rfl (by rfl) (by kernel_rfl) (by kernel_rfl) (by kernel_rfl) (by kernel_rfl) (fun _ _ _ h => h) (Or.inl ⟨by rfl, ?_⟩) trivial ?_;rotate_left
   ·(intro w' _; go_simp; try with_reducible rfl)
   simp only [Act.put, List.setIfInBounds_toArray, List.set_cons_zero, List.set_cons_succ];refine dN ?_ _;go_wp2_with fail
   go_roundw
   case rel => exact ⟨k + n2, _, by omega, HN2.out.2, rfl, HR4, HL4, HS4, HB4.out⟩
   case measure => have := HN2.out; simp [intOf]; omega
  ·obtain rfl : k = m := by omega
   go_wp2_with fail
   go_returns;exact ⟨gg, rfl, ⟨L, HR.out, HL.out, HS.out⟩, HGG.out, HB.out⟩
end Go.Proofs.YtdefghfjhgmpfaaGreatDoor
