/- Small facts for the laws: the range of an int; Int in and out of range; the number of binary digits is one; a string of zero bytes. -/
import Derived.Test.YtjeaemoiafamaaaDoorPkE
namespace Go.Proofs.YtjeaemoiafamaaaDoor
open Go.RowKit

theorem int_range {n : Int} (h : (Lit.int .i64 n).wf = true) : -9223372036854775808 ≤ n ∧ n ≤ 9223372036854775807 := by
  simp [Lit.wf, IntKind.min, IntKind.max, IntKind.bits, IntKind.signed] at h
  omega

theorem int_in (va : Value) (a : Int) (w : World) (ha : IsInt w va a) (hla : (digs a.natAbs).length < 8796093022208) (h : -9223372036854775808 ≤ a ∧ a ≤ 9223372036854775807) :
    Calls Tryd.prog 16 #[va] w fun e w' => e = .returned (.tuple #[.int .i64 a, .bool true]) ∧ Below w.heap.size w w' := by
  refine (int_walk va a w ha hla).mono ?_
  rintro e w' ⟨rfl, hb⟩
  rw [if_pos h]
  exact ⟨rfl, hb⟩
theorem int_out (va : Value) (a : Int) (w : World) (ha : IsInt w va a) (hla : (digs a.natAbs).length < 8796093022208) (h : ¬ (-9223372036854775808 ≤ a ∧ a ≤ 9223372036854775807)) :
    Calls Tryd.prog 16 #[va] w fun e w' => e = .returned (.tuple #[.int .i64 0, .bool false]) ∧ Below w.heap.size w w' := by
  refine (int_walk va a w ha hla).mono ?_
  rintro e w' ⟨rfl, hb⟩
  rw [if_neg h]
  exact ⟨rfl, hb⟩

theorem IsBits.one {n k m : Nat} (h : IsBits n k) (h' : IsBits n m) : k = m := by
  unfold IsBits at h h'
  have key : ∀ {k m : Nat}, 0 < k → 2 ^ (k - 1) ≤ n → n < 2 ^ m → k ≤ m := by
    intro k m h0 h1 h2
    have := (Nat.pow_lt_pow_iff_right (by decide : 1 < 2)).1 (show 2 ^ (k - 1) < 2 ^ m from by omega)
    omega
  rcases h with ⟨h1, h2⟩ | ⟨h1, h2, h3⟩ <;> rcases h' with ⟨h4, h5⟩ | ⟨h4, h5, h6⟩
  · omega
  · have := Nat.pow_pos (n := m - 1) (show 0 < 2 by decide); omega
  · have := Nat.pow_pos (n := k - 1) (show 0 < 2 by decide); omega
  · have a1 := key h1 h2 h6
    have a2 := key h4 h5 h3
    omega

/-- A string of so many zero bytes. -/
def zeros (n : Nat) : ByteArray := ⟨(List.replicate n (0 : UInt8)).toArray⟩
theorem zeros_size (n : Nat) : (zeros n).size = n := by
  show (List.replicate n (0 : UInt8)).toArray.size = n
  simp
theorem conv_zeros (n : Nat) (w : World) (g : Nat) (h : Row w g 5 (List.replicate n (Value.int .u8 0))) :
    (convert 37 9 (.slice (some ⟨g, 0, none⟩) n n)).run Tryd.prog w = .ok (.string (zeros n)) w := by
  have := run_convert_bytes_back (P := Tryd.prog) w 37 9 5 ⟨g, 0, none⟩ n (List.replicate n (0 : UInt8)) Tryd.underlying37 Tryd.underlying5 Tryd.underlying9 (fun j hj => by
    rw [Addr.add_lit, Nat.zero_add, Row.cell h]
    rw [List.getElem_replicate, List.getElem?_replicate, if_pos (by rw [List.length_replicate] at hj; exact hj)]
    rfl)
  rw [List.length_replicate] at this
  exact this
end Go.Proofs.YtjeaemoiafamaaaDoor
