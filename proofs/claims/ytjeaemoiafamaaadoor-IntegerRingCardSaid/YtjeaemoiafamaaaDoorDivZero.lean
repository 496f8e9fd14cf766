/- integer.DivMod at the divisor 0. -/
import Derived.Test.YtjeaemoiafamaaaDoorPkE
namespace Go.Proofs.YtjeaemoiafamaaaDoor
open Go.RowKit

theorem divmod_zero (va vb : Value) (a : Int) (w : World) (ha : IsInt w va a) (hb : IsInt w vb 0) :
    Calls Tryd.prog 27 #[va, vb] w fun e w' => ∃ q r, e = .returned (.tuple #[q, r, .int .i64 19]) ∧ IsInt w' q 0 ∧ IsInt w' r 0 ∧ Below w.heap.size w w' := by
  have hib := hb
  obtain ⟨A, ca, rfl, -, -, -⟩ := ha
  obtain ⟨B, cb, rfl, -, -, -⟩ := hb
  generalize decide (a < 0) = s at *
  generalize decide ((0 : Int) < 0) = t at *
  generalize (digs a.natAbs).length = na at *
  generalize (digs (0 : Int).natAbs).length = nb at *
  have key : Calls Tryd.prog 27 #[.agg #[.bool s, .slice A na ca], .agg #[.bool t, .slice B nb cb]] w fun e w' => e = .returned (.tuple #[.agg #[.bool false, .slice none 0 0], .agg #[.bool false, .slice none 0 0], .int .i64 19]) ∧ Below w.heap.size w w' := by
    obtain ⟨W, hW⟩ : ∃ W, W = (((w.alloc (.cells #[.bool s, .slice A na ca] 25)).alloc (.cells #[.bool t, .slice B nb cb] 25)).alloc (.cells #[.bool false, .slice none 0 0] 25)).alloc (.cells #[.bool false, .slice none 0 0] 25) := ⟨_, rfl⟩
    obtain ⟨r1, r2, r3, r4, hWs, hWB⟩ := boxes4 w (.cells #[.bool s, .slice A na ca] 25) (.cells #[.bool t, .slice B nb cb] 25) (.cells #[.bool false, .slice none 0 0] 25) (.cells #[.bool false, .slice none 0 0] 25)
    rw [← hW] at r1 r2 r3 r4 hWs hWB
    have r3 : Row W (w.heap.size + 1 + 1) 25 [.bool false, .slice none 0 0] := r3
    have r4 : Row W (w.heap.size + 1 + 1 + 1) 25 [.bool false, .slice none 0 0] := r4
    have HIB := Lib.hid (hib.below hWB)
    have HWB := Lib.hid hWB
    have HR3 := Lib.hid r3
    have HR4 := Lib.hid r4
    clear hWB hib r1 r2 r3 r4 hWs
    go_enter Tryd.func27, Tryd.ntmps27
    go_wp2_with fail
    rw [← hW]
    clear hW
    refine (sign_walk _ 0 W HIB.out).mono ?_
    rintro e w1 ⟨rfl, hb1⟩
    rw [show sgI 0 = 0 from rfl]
    have q3 := HR3.out.below hb1 HR3.out.lt
    have q4 := HR4.out.below hb1 HR4.out.lt
    have e1 := q3.at_ 0 rfl
    have e2 := q3.at_ 1 rfl
    have e3 := q4.at_ 0 rfl
    have e4 := q4.at_ 1 rfl
    have f1 := q3.free 0
    have f2 := q3.free 1
    have f3 := q4.free 0
    have f4 := q4.free 1
    have HB := Lib.hid (HWB.out.trans (hb1.mono HWB.out.size))
    clear q3 q4 hb1
    go_wp2_with fail
    refine bodyPost_ret (v := .tuple #[.agg #[.bool false, .slice none 0 0], .agg #[.bool false, .slice none 0 0], .int .i64 19]) (by simp [results, Tryd.results27, go_sem, e1, e2, e3, e4]) rfl ?_
    refine ⟨rfl, ?_⟩
    exact (((HB.out.setCell (p := ⟨w.heap.size + 1 + 1, 0, none⟩) (by simp; omega) _).setCell (p := ⟨w.heap.size + 1 + 1, 1, none⟩) (by simp; omega) _).setCell (p := ⟨w.heap.size + 1 + 1 + 1, 0, none⟩) (by simp; omega) _).setCell (p := ⟨w.heap.size + 1 + 1 + 1, 1, none⟩) (by simp; omega) _
  refine key.mono ?_
  rintro e w' ⟨rfl, hb⟩
  exact ⟨_, _, rfl, zero_int _, zero_int _, hb⟩
end Go.Proofs.YtjeaemoiafamaaaDoor
