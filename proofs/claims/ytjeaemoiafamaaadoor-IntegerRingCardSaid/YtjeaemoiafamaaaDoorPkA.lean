/- Texts of this proof, laid together: Math MathT Knuth Dec Txt Rune. -/
import Derived.Lib.ItoaNum
import Derived.Lib.ItoaMem
import Derived.Lib.Repeat
import Derived.Lib.Join
import Derived.Lib.TrimUEq
import Derived.Lib.ParseIntB
import Derived.Shelf.GgClosure.StringsIndexFunc

/- Plain mathematics of magnitudes: digits with the base 2^32, without zeros at the end. No program in sight. -/
namespace Go.Proofs.YtjeaemoiafamaaaDoor

/-- The base of the digits. -/
def BB : Nat := 4294967296
theorem BB_eq : BB = 4294967296 := rfl

/-- A digit; 0 beyond the end. -/
def dg (l : List Nat) (k : Nat) : Nat := l.getD k 0
theorem dg_nil (k : Nat) : dg [] k = 0 := rfl
theorem dg_zero (d : Nat) (l : List Nat) : dg (d :: l) 0 = d := rfl
theorem dg_succ (d : Nat) (l : List Nat) (k : Nat) : dg (d :: l) (k + 1) = dg l k := rfl
theorem dg_ge {l : List Nat} {k : Nat} (h : l.length ≤ k) : dg l k = 0 := by
  unfold dg; rw [List.getD_eq_getElem?_getD, List.getElem?_eq_none h]; rfl
theorem dg_lt {l : List Nat} {k : Nat} (h : k < l.length) : dg l k = l[k] := by
  unfold dg; rw [List.getD_eq_getElem?_getD, List.getElem?_eq_getElem h]; rfl
theorem dg_take (l : List Nat) (n k : Nat) : dg (l.take n) k = if k < n then dg l k else 0 := by
  unfold dg; simp only [List.getD_eq_getElem?_getD, List.getElem?_take]; split <;> rfl
theorem dg_append (l m : List Nat) (k : Nat) : dg (l ++ m) k = if k < l.length then dg l k else dg m (k - l.length) := by
  unfold dg; simp only [List.getD_eq_getElem?_getD]; split
  · rw [List.getElem?_append_left (by assumption)]
  · rw [List.getElem?_append_right (by omega)]
theorem dg_set (l : List Nat) (i x k : Nat) : dg (l.set i x) k = if i = k ∧ k < l.length then x else dg l k := by
  unfold dg; simp only [List.getD_eq_getElem?_getD, List.getElem?_set]
  by_cases h : i = k
  · subst h
    by_cases h2 : i < l.length
    · simp [h2]
    · simp [h2]
  · simp [h]
theorem dg_replicate (n x k : Nat) : dg (List.replicate n x) k = if k < n then x else 0 := by
  unfold dg; simp only [List.getD_eq_getElem?_getD, List.getElem?_replicate]; split <;> rfl
theorem ext_dg {l m : List Nat} (hl : l.length = m.length) (h : ∀ k, k < l.length → dg l k = dg m k) : l = m := by
  apply List.ext_getElem hl
  intro i h1 h2
  have := h i h1
  rwa [dg_lt h1, dg_lt h2] at this

/-- All digits are below the base. -/
def Dig (l : List Nat) : Prop := ∀ k, dg l k < 4294967296
theorem Dig.nil : Dig [] := fun k => by rw [dg_nil]; omega
theorem Dig.take {l : List Nat} (h : Dig l) (n : Nat) : Dig (l.take n) := fun k => by rw [dg_take]; split <;> first | exact h k | omega
theorem Dig.set {l : List Nat} (h : Dig l) (i x : Nat) (hx : x < 4294967296) : Dig (l.set i x) := fun k => by rw [dg_set]; split <;> first | exact h k | exact hx
theorem Dig.replicate (n : Nat) : Dig (List.replicate n 0) := fun k => by rw [dg_replicate]; split <;> omega
theorem Dig.cons {d : Nat} {l : List Nat} (hd : d < 4294967296) (h : Dig l) : Dig (d :: l) := fun k => by
  cases k with
  | zero => exact hd
  | succ k => exact h k
theorem Dig.tail {d : Nat} {l : List Nat} (h : Dig (d :: l)) : Dig l := fun k => h (k + 1)
theorem Dig.head {d : Nat} {l : List Nat} (h : Dig (d :: l)) : d < 4294967296 := h 0
theorem Dig.append {l m : List Nat} (hl : Dig l) (hm : Dig m) : Dig (l ++ m) := fun k => by rw [dg_append]; split; exact hl k; exact hm _

/-- The value of digits, the lowest one first. -/
def val : List Nat → Nat
  | [] => 0
  | d :: l => d + BB * val l

theorem val_nil : val [] = 0 := rfl
theorem val_cons (d : Nat) (l : List Nat) : val (d :: l) = d + BB * val l := rfl
theorem val_append (l m : List Nat) : val (l ++ m) = val l + BB ^ l.length * val m := by
  induction l with
  | nil => simp [val]
  | cons d l ih => simp only [List.cons_append, val, ih, List.length_cons, Nat.pow_succ]; rw [Nat.mul_add, ← Nat.add_assoc]; congr 1; rw [Nat.mul_comm (BB ^ l.length) BB, Nat.mul_assoc]
theorem val_replicate (n : Nat) : val (List.replicate n 0) = 0 := by
  induction n with
  | zero => rfl
  | succ n ih => simp [List.replicate_succ, val, ih]
theorem val_lt {l : List Nat} (h : Dig l) : val l < BB ^ l.length := by
  induction l with
  | nil => simp [val]
  | cons d l ih =>
    have h1 := ih h.tail
    have h2 := h.head
    have h3 : BB * val l + BB ≤ BB * BB ^ l.length := by rw [← Nat.mul_succ]; exact Nat.mul_le_mul_left _ h1
    simp only [val, List.length_cons, Nat.pow_succ, Nat.mul_comm (BB ^ l.length) BB]
    simp only [BB_eq] at h3 ⊢
    omega
theorem val_take_succ (l : List Nat) (k : Nat) : val (l.take (k + 1)) = val (l.take k) + BB ^ k * dg l k := by
  induction l generalizing k with
  | nil => simp [val, dg_nil]
  | cons d l ih =>
    cases k with
    | zero => simp [val, dg_zero]
    | succ k => simp only [List.take_succ_cons, val, ih, dg_succ, Nat.pow_succ]; rw [Nat.mul_add, Nat.mul_comm (BB ^ k) BB, Nat.mul_assoc]; omega
theorem val_take_of_le {l : List Nat} {k : Nat} (h : l.length ≤ k) : val (l.take k) = val l := by rw [List.take_of_length_le h]
theorem val_inj {l m : List Nat} (hl : Dig l) (hm : Dig m) (hn : l.length = m.length) (h : val l = val m) : l = m := by
  induction l generalizing m with
  | nil => cases m with
    | nil => rfl
    | cons _ _ => simp at hn
  | cons d l ih => cases m with
    | nil => simp at hn
    | cons e m =>
      have h1 := hl.head
      have h2 := hm.head
      simp only [val, BB_eq] at h
      have hde : d = e := by omega
      have : val l = val m := by omega
      rw [hde, ih hl.tail hm.tail (by simpa using hn) this]

/-- Digits without zeros at the end. -/
def Can (l : List Nat) : Prop := Dig l ∧ (0 < l.length → dg l (l.length - 1) ≠ 0)

theorem div_BB_lt {n : Nat} (h : 0 < n) : n / BB < n := Nat.div_lt_self h (by decide)

/-- The digits of a number. -/
def digs (n : Nat) : List Nat := if _h : n = 0 then [] else n % BB :: digs (n / BB)
termination_by n
decreasing_by exact div_BB_lt (by omega)

theorem digs_zero : digs 0 = [] := by unfold digs; simp
theorem digs_pos {n : Nat} (h : 0 < n) : digs n = n % BB :: digs (n / BB) := by rw [digs, dif_neg (by omega)]
theorem val_digs (n : Nat) : val (digs n) = n := by
  induction n using Nat.strongRecOn with
  | _ n ih =>
    by_cases h : n = 0
    · subst h; rw [digs_zero]; rfl
    · rw [digs_pos (by omega), val, ih _ (div_BB_lt (by omega))]
      exact Nat.mod_add_div n BB
theorem dig_digs (n : Nat) : Dig (digs n) := by
  induction n using Nat.strongRecOn with
  | _ n ih =>
    by_cases h : n = 0
    · subst h; rw [digs_zero]; exact Dig.nil
    · rw [digs_pos (by omega)]
      exact Dig.cons (Nat.mod_lt _ (by decide)) (ih _ (div_BB_lt (by omega)))
theorem can_digs (n : Nat) : Can (digs n) := by
  refine ⟨dig_digs n, ?_⟩
  induction n using Nat.strongRecOn with
  | _ n ih =>
    by_cases h : n = 0
    · subst h; rw [digs_zero]; intro h; simp at h
    · rw [digs_pos (by omega)]
      intro _
      by_cases h2 : n / BB = 0
      · rw [h2, digs_zero]
        simp only [List.length_cons, List.length_nil, Nat.zero_add, Nat.sub_self, dg_zero]
        have := Nat.mod_add_div n BB
        rw [h2] at this
        simp only [Nat.mul_zero, Nat.add_zero] at this
        omega
      · have h4 : 0 < (digs (n / BB)).length := by rw [digs_pos (Nat.pos_of_ne_zero h2)]; simp
        have h3 := ih _ (div_BB_lt (by omega)) h4
        obtain ⟨m, hm⟩ : ∃ m, (digs (n / BB)).length = m + 1 := ⟨(digs (n / BB)).length - 1, by omega⟩
        rw [hm] at h3
        simp only [List.length_cons, hm, Nat.add_sub_cancel, dg_succ] at h3 ⊢
        exact h3
theorem can_tail {d : Nat} {l : List Nat} (h : Can (d :: l)) : Can l := by
  refine ⟨h.1.tail, fun hl => ?_⟩
  have := h.2 (by simp)
  obtain ⟨m, hm⟩ : ∃ m, l.length = m + 1 := ⟨l.length - 1, by omega⟩
  simp only [List.length_cons, hm, Nat.add_sub_cancel, dg_succ] at this ⊢
  exact this
theorem can_val_pos {l : List Nat} (h : Can l) (hl : 0 < l.length) : BB ^ (l.length - 1) ≤ val l := by
  induction l with
  | nil => simp at hl
  | cons d l ih =>
    cases l with
    | nil =>
      have := h.2 (by simp)
      simp only [List.length_cons, List.length_nil, Nat.zero_add, Nat.sub_self, dg_zero] at this
      simp [val]; omega
    | cons e l =>
      have := ih (can_tail h) (by simp)
      simp only [List.length_cons, Nat.add_sub_cancel] at this ⊢
      rw [val, Nat.pow_succ, Nat.mul_comm]
      have h2 : BB * BB ^ l.length ≤ BB * val (e :: l) := Nat.mul_le_mul_left _ this
      omega
theorem can_len_le {l m : List Nat} (hl : Can l) (hm : Dig m) (h : val l ≤ val m) : l.length ≤ m.length := by
  rcases Nat.lt_or_ge m.length l.length with h1 | h1
  · have h2 := can_val_pos hl (by omega)
    have h3 := val_lt hm
    have h4 : BB ^ m.length ≤ BB ^ (l.length - 1) := Nat.pow_le_pow_right (by decide) (by omega)
    omega
  · exact h1
theorem can_unique {l m : List Nat} (hl : Can l) (hm : Can m) (h : val l = val m) : l = m :=
  val_inj hl.1 hm.1 (Nat.le_antisymm (can_len_le hl hm.1 (by omega)) (can_len_le hm hl.1 (by omega))) h
theorem can_eq_digs {l : List Nat} (h : Can l) : l = digs (val l) := can_unique h (can_digs _) (by rw [val_digs])
theorem digs_len_le {n k : Nat} (h : n < BB ^ k) : (digs n).length ≤ k := by
  rcases Nat.lt_or_ge k (digs n).length with h1 | h1
  · have h2 := can_val_pos (can_digs n) (by omega)
    rw [val_digs] at h2
    have h4 : BB ^ k ≤ BB ^ ((digs n).length - 1) := Nat.pow_le_pow_right (by decide) (by omega)
    omega
  · exact h1
theorem lt_pow_digs (n : Nat) : n < BB ^ (digs n).length := by have := val_lt (dig_digs n); rwa [val_digs] at this
theorem digs_len_mono {n m : Nat} (h : n ≤ m) : (digs n).length ≤ (digs m).length := digs_len_le (Nat.lt_of_le_of_lt h (lt_pow_digs m))
theorem digs_len_pos {n : Nat} : 0 < (digs n).length ↔ 0 < n := by
  constructor
  · intro h
    rcases Nat.eq_zero_or_pos n with h0 | h0
    · subst h0; rw [digs_zero] at h; simp at h
    · exact h0
  · intro h; rw [digs_pos h]; simp
theorem digs_len_zero {n : Nat} : (digs n).length = 0 ↔ n = 0 := by
  have := @digs_len_pos n; omega

/-- What trimming leaves: the first digits, if what is cut off is 0 and what is left ends with a digit that is not 0. -/
theorem take_can {l : List Nat} {k : Nat} (hd : Dig l) (hk : k ≤ l.length) (hz : ∀ j, k ≤ j → j < l.length → dg l j = 0) (hn : 0 < k → dg l (k - 1) ≠ 0) : l.take k = digs (val l) := by
  have hlen : (l.take k).length = k := by rw [List.length_take]; omega
  have hc : Can (l.take k) := by
    refine ⟨hd.take k, fun h => ?_⟩
    rw [hlen] at h ⊢
    rw [dg_take, if_pos (by omega)]
    exact hn h
  have hv : val (l.take k) = val l := by
    have h1 : ∀ i, k ≤ i → val (l.take i) = val (l.take k) := by
      intro i hi
      induction i with
      | zero => have : k = 0 := by omega
                subst this; rfl
      | succ i ih =>
        by_cases h : k ≤ i
        · rw [val_take_succ, ih h]
          by_cases h2 : i < l.length
          · rw [hz i h h2]; simp
          · rw [dg_ge (by omega)]; simp
        · have : k = i + 1 := by omega
          subst this; rfl
    have := h1 l.length hk
    rwa [List.take_of_length_le (Nat.le_refl _), eq_comm] at this
  rw [← hv]
  exact can_eq_digs hc

/-- The digits of the value are the first digits. -/
theorem digs_val_take {l : List Nat} (hd : Dig l) : (digs (val l)).length ≤ l.length ∧ l.take (digs (val l)).length = digs (val l) := by
  have h1 : (digs (val l)).length ≤ l.length := digs_len_le (val_lt hd)
  refine ⟨h1, ?_⟩
  have hv := val_digs (val l)
  have ht : val l = val (l.take (digs (val l)).length) + BB ^ (digs (val l)).length * val (l.drop (digs (val l)).length) := by
    have := val_append (l.take (digs (val l)).length) (l.drop (digs (val l)).length)
    rw [List.take_append_drop, List.length_take, Nat.min_eq_left h1] at this
    exact this
  have hlt := lt_pow_digs (val l)
  have hz : val (l.drop (digs (val l)).length) = 0 := by
    rcases Nat.eq_zero_or_pos (val (l.drop (digs (val l)).length)) with h0 | h0
    · exact h0
    · have := Nat.mul_le_mul_left (BB ^ (digs (val l)).length) h0
      omega
  rw [hz, Nat.mul_zero, Nat.add_zero] at ht
  exact val_inj (hd.take _) (dig_digs _) (by rw [List.length_take]; omega) (by rw [hv]; exact ht.symm)

theorem val_set_take (l : List Nat) (k x : Nat) (hk : k < l.length) : val ((l.set k x).take (k + 1)) = val (l.take k) + BB ^ k * x := by
  rw [val_take_succ, dg_set, if_pos ⟨rfl, hk⟩]
  congr 2
  apply List.ext_getElem?
  intro j
  rw [List.getElem?_take, List.getElem?_take, List.getElem?_set]
  split
  · rw [if_neg (by omega)]
  · rfl
theorem pow_split (P s : Nat) : P * (s % 4294967296) + P * BB * (s / 4294967296) = P * s := by
  rw [Nat.mul_assoc, ← Nat.mul_add, BB_eq, Nat.mod_add_div]

/-- One step of a sum. -/
theorem plus_step {lo lx ly : List Nat} {k c s : Nat} (hk : k < lo.length) (h : val (lo.take k) + BB ^ k * c = val (lx.take k) + val (ly.take k)) (hs : s = c + dg lx k + dg ly k) :
    val ((lo.set k (s % 4294967296)).take (k + 1)) + BB ^ (k + 1) * (s / 4294967296) = val (lx.take (k + 1)) + val (ly.take (k + 1)) := by
  rw [val_set_take _ _ _ hk, val_take_succ, val_take_succ, Nat.pow_succ]
  have := pow_split (BB ^ k) s
  have e : BB ^ k * s = BB ^ k * c + BB ^ k * dg lx k + BB ^ k * dg ly k := by rw [hs, Nat.mul_add, Nat.mul_add]
  omega

/-- One step of a difference; c and c' are the borrows. -/
theorem minus_step {lo la lb : List Nat} {k c c' x : Nat} (hk : k < lo.length) (h : val (la.take k) + BB ^ k * c = val (lo.take k) + val (lb.take k)) (hs : dg la k + 4294967296 * c' = x + c + dg lb k) :
    val (la.take (k + 1)) + BB ^ (k + 1) * c' = val ((lo.set k x).take (k + 1)) + val (lb.take (k + 1)) := by
  rw [val_set_take _ _ _ hk, val_take_succ, val_take_succ, Nat.pow_succ]
  have e : BB ^ k * (dg la k + 4294967296 * c') = BB ^ k * (x + c + dg lb k) := by rw [hs]
  rw [Nat.mul_add, Nat.mul_add, Nat.mul_add, ← Nat.mul_assoc] at e
  simp only [← BB_eq] at e
  omega
theorem minus_end {lo la lb : List Nat} {c : Nat} (hlo : Dig lo) (hle : val lb ≤ val la) (hc : c ≤ 1) (h : val la + BB ^ lo.length * c = val lo + val lb) : val lo = val la - val lb := by
  have h1 := val_lt hlo
  rcases (show c = 0 ∨ c = 1 by omega) with rfl | rfl <;> omega

/-- One step of a product by a digit. -/
theorem scale_step {lo l : List Nat} {k c b p s : Nat} (hk : k < lo.length) (h : val (lo.take k) + BB ^ k * c = b * val (l.take k) + p) (hs : s = c + dg l k * b) :
    val ((lo.set k (s % 4294967296)).take (k + 1)) + BB ^ (k + 1) * (s / 4294967296) = b * val (l.take (k + 1)) + p := by
  rw [val_set_take _ _ _ hk, val_take_succ, Nat.pow_succ]
  have := pow_split (BB ^ k) s
  have e : BB ^ k * s = BB ^ k * c + b * (BB ^ k * dg l k) := by rw [hs, Nat.mul_add, Nat.mul_comm (dg l k) b, Nat.mul_left_comm]
  rw [Nat.mul_add]
  omega

/-- The value of the digits from a place on. -/
theorem val_drop (l : List Nat) (k : Nat) (hk : k < l.length) : val (l.drop k) = dg l k + BB * val (l.drop (k + 1)) := by
  rw [List.drop_eq_getElem_cons hk, val, dg_lt hk]
theorem val_drop_set (l : List Nat) (k x : Nat) (hk : k < l.length) : val ((l.set k x).drop k) = x + BB * val (l.drop (k + 1)) := by
  rw [val_drop _ _ (by rw [List.length_set]; exact hk), dg_set, if_pos ⟨rfl, hk⟩]
  congr 3
  rw [List.drop_set]
  simp
/-- One step of a division by a digit. -/
theorem short_step {lo l : List Nat} {k r b : Nat} (hk : k < l.length) (hko : k < lo.length) (h : val (l.drop (k + 1)) = b * val (lo.drop (k + 1)) + r) :
    val (l.drop k) = b * val ((lo.set k ((r * 4294967296 + dg l k) / b)).drop k) + (r * 4294967296 + dg l k) % b := by
  rw [val_drop _ _ hk, val_drop_set _ _ _ hko, h]
  have := Nat.div_add_mod (r * 4294967296 + dg l k) b
  simp only [← BB_eq] at this ⊢
  rw [Nat.mul_add, Nat.mul_add, Nat.mul_left_comm b BB]
  rw [Nat.mul_comm r BB] at this ⊢
  omega
theorem short_lt {r b d : Nat} (hr : r < b) (hd : d < 4294967296) : (r * 4294967296 + d) / b < 4294967296 := by
  refine Nat.div_lt_of_lt_mul ?_
  have : (r + 1) * 4294967296 ≤ b * 4294967296 := Nat.mul_le_mul_right _ hr
  omega

/-- The order of two magnitudes. -/
def ordN (a b : Nat) : Int := if a < b then -1 else if a = b then 0 else 1
theorem val_lt_of_len {l m : List Nat} (hl : Dig l) (hm : Can m) (h : l.length < m.length) : val l < val m := by
  rcases Nat.lt_or_ge (val l) (val m) with h1 | h1
  · exact h1
  · have := can_len_le hm hl h1; omega
theorem val_eq_of_dg {l m : List Nat} (hl : l.length = m.length) (h : ∀ j, j < l.length → dg l j = dg m j) : val l = val m := by rw [ext_dg hl h]
theorem val_lt_of_dg {l m : List Nat} {k : Nat} (hdl : Dig l) (hlen : l.length = m.length) (hk : k < l.length) (h : ∀ j, k < j → j < l.length → dg l j = dg m j) (hlt : dg l k < dg m k) : val l < val m := by
  have hd : l.drop (k + 1) = m.drop (k + 1) := by
    apply ext_dg
    · rw [List.length_drop, List.length_drop, hlen]
    · intro j hj
      rw [List.length_drop] at hj
      have := h (k + 1 + j) (by omega) (by omega)
      unfold dg at this ⊢
      simpa [List.getD_eq_getElem?_getD, List.getElem?_drop] using this
  have e1 : val l = val (l.take k) + BB ^ k * val (l.drop k) := by
    have := val_append (l.take k) (l.drop k)
    rwa [List.take_append_drop, List.length_take, Nat.min_eq_left (by omega)] at this
  have e2 : val m = val (m.take k) + BB ^ k * val (m.drop k) := by
    have := val_append (m.take k) (m.drop k)
    rwa [List.take_append_drop, List.length_take, Nat.min_eq_left (by omega)] at this
  have e3 : val (l.drop k) + 1 ≤ val (m.drop k) := by
    rw [val_drop l _ hk, val_drop m _ (by omega), hd]; omega
  have e4 := val_lt (hdl.take k)
  rw [List.length_take, Nat.min_eq_left (by omega)] at e4
  have e5 : BB ^ k * (val (l.drop k) + 1) ≤ BB ^ k * val (m.drop k) := Nat.mul_le_mul_left _ e3
  rw [Nat.mul_add] at e5
  omega

/-- What is raised by a power of 2 less than 2^32 leaves room for what is below that power. -/
theorem pow_mod_room {y d : Nat} (hy : y < 32) : d * 2 ^ y % 4294967296 % 2 ^ y = 0 ∧ d * 2 ^ y % 4294967296 + 2 ^ y ≤ 4294967296 := by
  have e : (4294967296 : Nat) = 2 ^ (32 - y) * 2 ^ y := by rw [← Nat.pow_add, show 32 - y + y = 32 by omega]
  have h1 : d * 2 ^ y % 4294967296 = d % 2 ^ (32 - y) * 2 ^ y := by rw [e, Nat.mul_mod_mul_right]
  rw [h1]
  refine ⟨Nat.mul_mod_left _ _, ?_⟩
  have h2 : d % 2 ^ (32 - y) < 2 ^ (32 - y) := Nat.mod_lt _ (Nat.two_pow_pos _)
  have h3 : (d % 2 ^ (32 - y) + 1) * 2 ^ y ≤ 2 ^ (32 - y) * 2 ^ y := Nat.mul_le_mul_right _ h2
  rw [← e, Nat.add_mul, Nat.one_mul] at h3
  exact h3
theorem raised_step {lo l : List Nat} {k y s : Nat} (hk : k + 1 < lo.length) (hs : s = dg l k * 2 ^ y) (h : val (lo.take k) + BB ^ k * dg lo k = 2 ^ y * val (l.take k)) :
    val (((lo.set k (dg lo k + s % 4294967296)).set (k + 1) (s / 4294967296)).take (k + 1)) + BB ^ (k + 1) * dg ((lo.set k (dg lo k + s % 4294967296)).set (k + 1) (s / 4294967296)) (k + 1) = 2 ^ y * val (l.take (k + 1)) := by
  rw [dg_set, if_pos ⟨rfl, by rw [List.length_set]; exact hk⟩]
  have e1 : ((lo.set k (dg lo k + s % 4294967296)).set (k + 1) (s / 4294967296)).take (k + 1) = (lo.set k (dg lo k + s % 4294967296)).take (k + 1) := by
    rw [List.take_set, List.set_eq_of_length_le]; rw [List.length_take]; omega
  rw [e1, val_set_take _ _ _ (by omega), val_take_succ, Nat.mul_add, Nat.mul_add, Nat.pow_succ]
  have := pow_split (BB ^ k) s
  have e2 : BB ^ k * s = 2 ^ y * (BB ^ k * dg l k) := by rw [hs, Nat.mul_comm (dg l k), Nat.mul_left_comm]
  omega

theorem val_set (l : List Nat) (i x : Nat) (hi : i < l.length) : val (l.set i x) + BB ^ i * dg l i = val l + BB ^ i * x := by
  have e1 : val (l.set i x) = val (l.take i) + BB ^ i * val ((l.set i x).drop i) := by
    have := val_append ((l.set i x).take i) ((l.set i x).drop i)
    rw [List.take_append_drop, List.length_take, List.length_set, Nat.min_eq_left (by omega)] at this
    rw [this, List.take_set, List.set_eq_of_length_le]; rw [List.length_take]; omega
  have e2 : val l = val (l.take i) + BB ^ i * val (l.drop i) := by
    have := val_append (l.take i) (l.drop i)
    rwa [List.take_append_drop, List.length_take, Nat.min_eq_left (by omega)] at this
  rw [e1, e2, val_drop_set _ _ _ hi, val_drop _ _ hi, Nat.mul_add, Nat.mul_add]
  omega
/-- One step of a row of a product. -/
theorem mul_step {lo lb : List Nat} {i j c x s V : Nat} (hi : i + j < lo.length) (h : val lo + BB ^ (i + j) * c = V + BB ^ i * (x * val (lb.take j))) (hs : s = c + (x * dg lb j + dg lo (i + j))) :
    val (lo.set (i + j) (s % 4294967296)) + BB ^ (i + (j + 1)) * (s / 4294967296) = V + BB ^ i * (x * val (lb.take (j + 1))) := by
  have h1 := val_set lo (i + j) (s % 4294967296) hi
  have h2 := pow_split (BB ^ (i + j)) s
  have e : BB ^ (i + j) * s = BB ^ (i + j) * c + (BB ^ i * (x * (BB ^ j * dg lb j)) + BB ^ (i + j) * dg lo (i + j)) := by
    rw [hs, Nat.mul_add, Nat.mul_add, Nat.pow_add]
    congr 2
    rw [Nat.mul_assoc, Nat.mul_left_comm (BB ^ j) x]
  rw [val_take_succ, Nat.mul_add, Nat.mul_add, ← Nat.add_assoc i j 1, Nat.pow_succ]
  omega
theorem mul_row {lo lb la : List Nat} {i c V : Nat} (hi : i + lb.length < lo.length) (hz : dg lo (i + lb.length) = 0) (h : val lo + BB ^ (i + lb.length) * c = V + BB ^ i * (dg la i * val (lb.take lb.length))) (hV : V = val (la.take i) * val lb) :
    val (lo.set (i + lb.length) c) = val (la.take (i + 1)) * val lb := by
  have h1 := val_set lo (i + lb.length) c hi
  rw [hz, Nat.mul_zero, Nat.add_zero] at h1
  rw [h1, h, hV, val_take_of_le (Nat.le_refl _), val_take_succ, Nat.add_mul, Nat.mul_assoc]

/-- One step of a division by a power of 2: Q is the power, R the rest of the base, QR = 2^32. -/
theorem lowered_digit {Q R a b : Nat} (hQR : Q * R = 4294967296) (hQ : 0 < Q) : b * 4294967296 / Q % 4294967296 = R * (b % Q) ∧ a / Q + R * (b % Q) = a / Q + b * 4294967296 / Q % 4294967296 := by
  have h1 : b * 4294967296 / Q = b * R := by rw [← hQR, Nat.mul_left_comm, Nat.mul_div_cancel_left _ hQ]
  have h2 : b * R % 4294967296 = R * (b % Q) := by rw [← hQR, Nat.mul_mod_mul_right, Nat.mul_comm]
  rw [h1, h2]; exact ⟨rfl, rfl⟩
theorem lowered_lt {Q R a b : Nat} (hQR : Q * R = 4294967296) (hQ : 0 < Q) (ha : a < 4294967296) : a / Q < R ∧ a / Q + R * (b % Q) < 4294967296 := by
  have h1 : a / Q < R := Nat.div_lt_of_lt_mul (by rw [hQR]; exact ha)
  have h2 : b % Q < Q := Nat.mod_lt _ hQ
  have h3 : R * (b % Q + 1) ≤ R * Q := Nat.mul_le_mul_left _ h2
  rw [Nat.mul_comm R Q, hQR, Nat.mul_add] at h3
  exact ⟨h1, by omega⟩
theorem lowered_step {lo l : List Nat} {k Q R b0 : Nat} (hk : k < lo.length) (hQR : Q * R = 4294967296) (h : Q * val (lo.take k) + b0 = val (l.take k) + BB ^ k * (dg l k % Q)) :
    Q * val ((lo.set k (dg l k / Q + R * (dg l (k + 1) % Q))).take (k + 1)) + b0 = val (l.take (k + 1)) + BB ^ (k + 1) * (dg l (k + 1) % Q) := by
  rw [val_set_take _ _ _ hk, val_take_succ, Nat.pow_succ, Nat.mul_add]
  have e1 : Q * (BB ^ k * (dg l k / Q + R * (dg l (k + 1) % Q))) = BB ^ k * (Q * (dg l k / Q)) + BB ^ k * (BB * (dg l (k + 1) % Q)) := by
    rw [Nat.mul_left_comm, Nat.mul_add, Nat.mul_add, ← Nat.mul_assoc Q R, hQR, ← BB_eq]
  have e2 : BB ^ k * dg l k = BB ^ k * (Q * (dg l k / Q)) + BB ^ k * (dg l k % Q) := by rw [← Nat.mul_add, Nat.div_add_mod]
  rw [e1, e2, Nat.mul_assoc]
  omega
theorem lowered_end {lo l : List Nat} {Q : Nat} (hlen : lo.length = l.length) (hQ : 0 < Q) (h : Q * val (lo.take l.length) + dg l 0 % Q = val (l.take l.length) + BB ^ l.length * (dg l l.length % Q)) : val lo = val l / Q := by
  rw [val_take_of_le (by omega), val_take_of_le (Nat.le_refl _), dg_ge (Nat.le_refl _), Nat.zero_mod, Nat.mul_zero, Nat.add_zero] at h
  rw [← h, Nat.mul_add_div hQ, Nat.div_eq_of_lt (Nat.mod_lt _ hQ), Nat.add_zero]

end Go.Proofs.YtjeaemoiafamaaaDoor

/- Plain mathematics of decimal digits, the lowest one first: the laws of the digits with the base 2^32, for the base 10. No program in sight. -/
namespace Go.Proofs.YtjeaemoiafamaaaDoor.T
open Go.Proofs.YtjeaemoiafamaaaDoor (dg dg_nil dg_zero dg_succ dg_ge dg_lt dg_take dg_append dg_set dg_replicate ext_dg)

/-- The base of the digits. -/
def BB : Nat := 10
theorem BB_eq : BB = 10 := rfl
/-- All digits are below the base. -/
def Dig (l : List Nat) : Prop := ∀ k, dg l k < 10
theorem Dig.nil : Dig [] := fun k => by rw [dg_nil]; omega
theorem Dig.take {l : List Nat} (h : Dig l) (n : Nat) : Dig (l.take n) := fun k => by rw [dg_take]; split <;> first | exact h k | omega
theorem Dig.set {l : List Nat} (h : Dig l) (i x : Nat) (hx : x < 10) : Dig (l.set i x) := fun k => by rw [dg_set]; split <;> first | exact h k | exact hx
theorem Dig.replicate (n : Nat) : Dig (List.replicate n 0) := fun k => by rw [dg_replicate]; split <;> omega
theorem Dig.cons {d : Nat} {l : List Nat} (hd : d < 10) (h : Dig l) : Dig (d :: l) := fun k => by
  cases k with
  | zero => exact hd
  | succ k => exact h k
theorem Dig.tail {d : Nat} {l : List Nat} (h : Dig (d :: l)) : Dig l := fun k => h (k + 1)
theorem Dig.head {d : Nat} {l : List Nat} (h : Dig (d :: l)) : d < 10 := h 0
theorem Dig.append {l m : List Nat} (hl : Dig l) (hm : Dig m) : Dig (l ++ m) := fun k => by rw [dg_append]; split; exact hl k; exact hm _

/-- The value of digits, the lowest one first. -/
def val : List Nat → Nat
  | [] => 0
  | d :: l => d + BB * val l

theorem val_nil : val [] = 0 := rfl
theorem val_cons (d : Nat) (l : List Nat) : val (d :: l) = d + BB * val l := rfl
theorem val_append (l m : List Nat) : val (l ++ m) = val l + BB ^ l.length * val m := by
  induction l with
  | nil => simp [val]
  | cons d l ih => simp only [List.cons_append, val, ih, List.length_cons, Nat.pow_succ]; rw [Nat.mul_add, ← Nat.add_assoc]; congr 1; rw [Nat.mul_comm (BB ^ l.length) BB, Nat.mul_assoc]
theorem val_replicate (n : Nat) : val (List.replicate n 0) = 0 := by
  induction n with
  | zero => rfl
  | succ n ih => simp [List.replicate_succ, val, ih]
theorem val_lt {l : List Nat} (h : Dig l) : val l < BB ^ l.length := by
  induction l with
  | nil => simp [val]
  | cons d l ih =>
    have h1 := ih h.tail
    have h2 := h.head
    have h3 : BB * val l + BB ≤ BB * BB ^ l.length := by rw [← Nat.mul_succ]; exact Nat.mul_le_mul_left _ h1
    simp only [val, List.length_cons, Nat.pow_succ, Nat.mul_comm (BB ^ l.length) BB]
    simp only [BB_eq] at h3 ⊢
    omega
theorem val_take_succ (l : List Nat) (k : Nat) : val (l.take (k + 1)) = val (l.take k) + BB ^ k * dg l k := by
  induction l generalizing k with
  | nil => simp [val, dg_nil]
  | cons d l ih =>
    cases k with
    | zero => simp [val, dg_zero]
    | succ k => simp only [List.take_succ_cons, val, ih, dg_succ, Nat.pow_succ]; rw [Nat.mul_add, Nat.mul_comm (BB ^ k) BB, Nat.mul_assoc]; omega
theorem val_take_of_le {l : List Nat} {k : Nat} (h : l.length ≤ k) : val (l.take k) = val l := by rw [List.take_of_length_le h]
theorem val_inj {l m : List Nat} (hl : Dig l) (hm : Dig m) (hn : l.length = m.length) (h : val l = val m) : l = m := by
  induction l generalizing m with
  | nil => cases m with
    | nil => rfl
    | cons _ _ => simp at hn
  | cons d l ih => cases m with
    | nil => simp at hn
    | cons e m =>
      have h1 := hl.head
      have h2 := hm.head
      simp only [val, BB_eq] at h
      have hde : d = e := by omega
      have : val l = val m := by omega
      rw [hde, ih hl.tail hm.tail (by simpa using hn) this]

/-- Digits without zeros at the end. -/
def Can (l : List Nat) : Prop := Dig l ∧ (0 < l.length → dg l (l.length - 1) ≠ 0)

theorem div_BB_lt {n : Nat} (h : 0 < n) : n / BB < n := Nat.div_lt_self h (by decide)

/-- The digits of a number. -/
def digs (n : Nat) : List Nat := if _h : n = 0 then [] else n % BB :: digs (n / BB)
termination_by n
decreasing_by exact div_BB_lt (by omega)

theorem digs_zero : digs 0 = [] := by unfold digs; simp
theorem digs_pos {n : Nat} (h : 0 < n) : digs n = n % BB :: digs (n / BB) := by rw [digs, dif_neg (by omega)]
theorem val_digs (n : Nat) : val (digs n) = n := by
  induction n using Nat.strongRecOn with
  | _ n ih =>
    by_cases h : n = 0
    · subst h; rw [digs_zero]; rfl
    · rw [digs_pos (by omega), val, ih _ (div_BB_lt (by omega))]
      exact Nat.mod_add_div n BB
theorem dig_digs (n : Nat) : Dig (digs n) := by
  induction n using Nat.strongRecOn with
  | _ n ih =>
    by_cases h : n = 0
    · subst h; rw [digs_zero]; exact Dig.nil
    · rw [digs_pos (by omega)]
      exact Dig.cons (Nat.mod_lt _ (by decide)) (ih _ (div_BB_lt (by omega)))
theorem can_digs (n : Nat) : Can (digs n) := by
  refine ⟨dig_digs n, ?_⟩
  induction n using Nat.strongRecOn with
  | _ n ih =>
    by_cases h : n = 0
    · subst h; rw [digs_zero]; intro h; simp at h
    · rw [digs_pos (by omega)]
      intro _
      by_cases h2 : n / BB = 0
      · rw [h2, digs_zero]
        simp only [List.length_cons, List.length_nil, Nat.zero_add, Nat.sub_self, dg_zero]
        have := Nat.mod_add_div n BB
        rw [h2] at this
        simp only [Nat.mul_zero, Nat.add_zero] at this
        omega
      · have h4 : 0 < (digs (n / BB)).length := by rw [digs_pos (Nat.pos_of_ne_zero h2)]; simp
        have h3 := ih _ (div_BB_lt (by omega)) h4
        obtain ⟨m, hm⟩ : ∃ m, (digs (n / BB)).length = m + 1 := ⟨(digs (n / BB)).length - 1, by omega⟩
        rw [hm] at h3
        simp only [List.length_cons, hm, Nat.add_sub_cancel, dg_succ] at h3 ⊢
        exact h3
theorem can_tail {d : Nat} {l : List Nat} (h : Can (d :: l)) : Can l := by
  refine ⟨h.1.tail, fun hl => ?_⟩
  have := h.2 (by simp)
  obtain ⟨m, hm⟩ : ∃ m, l.length = m + 1 := ⟨l.length - 1, by omega⟩
  simp only [List.length_cons, hm, Nat.add_sub_cancel, dg_succ] at this ⊢
  exact this
theorem can_val_pos {l : List Nat} (h : Can l) (hl : 0 < l.length) : BB ^ (l.length - 1) ≤ val l := by
  induction l with
  | nil => simp at hl
  | cons d l ih =>
    cases l with
    | nil =>
      have := h.2 (by simp)
      simp only [List.length_cons, List.length_nil, Nat.zero_add, Nat.sub_self, dg_zero] at this
      simp [val]; omega
    | cons e l =>
      have := ih (can_tail h) (by simp)
      simp only [List.length_cons, Nat.add_sub_cancel] at this ⊢
      rw [val, Nat.pow_succ, Nat.mul_comm]
      have h2 : BB * BB ^ l.length ≤ BB * val (e :: l) := Nat.mul_le_mul_left _ this
      omega
theorem can_len_le {l m : List Nat} (hl : Can l) (hm : Dig m) (h : val l ≤ val m) : l.length ≤ m.length := by
  rcases Nat.lt_or_ge m.length l.length with h1 | h1
  · have h2 := can_val_pos hl (by omega)
    have h3 := val_lt hm
    have h4 : BB ^ m.length ≤ BB ^ (l.length - 1) := Nat.pow_le_pow_right (by decide) (by omega)
    omega
  · exact h1
theorem can_unique {l m : List Nat} (hl : Can l) (hm : Can m) (h : val l = val m) : l = m :=
  val_inj hl.1 hm.1 (Nat.le_antisymm (can_len_le hl hm.1 (by omega)) (can_len_le hm hl.1 (by omega))) h
theorem can_eq_digs {l : List Nat} (h : Can l) : l = digs (val l) := can_unique h (can_digs _) (by rw [val_digs])
theorem digs_len_le {n k : Nat} (h : n < BB ^ k) : (digs n).length ≤ k := by
  rcases Nat.lt_or_ge k (digs n).length with h1 | h1
  · have h2 := can_val_pos (can_digs n) (by omega)
    rw [val_digs] at h2
    have h4 : BB ^ k ≤ BB ^ ((digs n).length - 1) := Nat.pow_le_pow_right (by decide) (by omega)
    omega
  · exact h1
theorem lt_pow_digs (n : Nat) : n < BB ^ (digs n).length := by have := val_lt (dig_digs n); rwa [val_digs] at this
theorem digs_len_mono {n m : Nat} (h : n ≤ m) : (digs n).length ≤ (digs m).length := digs_len_le (Nat.lt_of_le_of_lt h (lt_pow_digs m))
theorem digs_len_pos {n : Nat} : 0 < (digs n).length ↔ 0 < n := by
  constructor
  · intro h
    rcases Nat.eq_zero_or_pos n with h0 | h0
    · subst h0; rw [digs_zero] at h; simp at h
    · exact h0
  · intro h; rw [digs_pos h]; simp
theorem digs_len_zero {n : Nat} : (digs n).length = 0 ↔ n = 0 := by
  have := @digs_len_pos n; omega

/-- What trimming leaves: the first digits, if what is cut off is 0 and what is left ends with a digit that is not 0. -/
theorem take_can {l : List Nat} {k : Nat} (hd : Dig l) (hk : k ≤ l.length) (hz : ∀ j, k ≤ j → j < l.length → dg l j = 0) (hn : 0 < k → dg l (k - 1) ≠ 0) : l.take k = digs (val l) := by
  have hlen : (l.take k).length = k := by rw [List.length_take]; omega
  have hc : Can (l.take k) := by
    refine ⟨hd.take k, fun h => ?_⟩
    rw [hlen] at h ⊢
    rw [dg_take, if_pos (by omega)]
    exact hn h
  have hv : val (l.take k) = val l := by
    have h1 : ∀ i, k ≤ i → val (l.take i) = val (l.take k) := by
      intro i hi
      induction i with
      | zero => have : k = 0 := by omega
                subst this; rfl
      | succ i ih =>
        by_cases h : k ≤ i
        · rw [val_take_succ, ih h]
          by_cases h2 : i < l.length
          · rw [hz i h h2]; simp
          · rw [dg_ge (by omega)]; simp
        · have : k = i + 1 := by omega
          subst this; rfl
    have := h1 l.length hk
    rwa [List.take_of_length_le (Nat.le_refl _), eq_comm] at this
  rw [← hv]
  exact can_eq_digs hc

/-- The digits of the value are the first digits. -/
theorem digs_val_take {l : List Nat} (hd : Dig l) : (digs (val l)).length ≤ l.length ∧ l.take (digs (val l)).length = digs (val l) := by
  have h1 : (digs (val l)).length ≤ l.length := digs_len_le (val_lt hd)
  refine ⟨h1, ?_⟩
  have hv := val_digs (val l)
  have ht : val l = val (l.take (digs (val l)).length) + BB ^ (digs (val l)).length * val (l.drop (digs (val l)).length) := by
    have := val_append (l.take (digs (val l)).length) (l.drop (digs (val l)).length)
    rw [List.take_append_drop, List.length_take, Nat.min_eq_left h1] at this
    exact this
  have hlt := lt_pow_digs (val l)
  have hz : val (l.drop (digs (val l)).length) = 0 := by
    rcases Nat.eq_zero_or_pos (val (l.drop (digs (val l)).length)) with h0 | h0
    · exact h0
    · have := Nat.mul_le_mul_left (BB ^ (digs (val l)).length) h0
      omega
  rw [hz, Nat.mul_zero, Nat.add_zero] at ht
  exact val_inj (hd.take _) (dig_digs _) (by rw [List.length_take]; omega) (by rw [hv]; exact ht.symm)

theorem val_set_take (l : List Nat) (k x : Nat) (hk : k < l.length) : val ((l.set k x).take (k + 1)) = val (l.take k) + BB ^ k * x := by
  rw [val_take_succ, dg_set, if_pos ⟨rfl, hk⟩]
  congr 2
  apply List.ext_getElem?
  intro j
  rw [List.getElem?_take, List.getElem?_take, List.getElem?_set]
  split
  · rw [if_neg (by omega)]
  · rfl
theorem pow_split (P s : Nat) : P * (s % 10) + P * BB * (s / 10) = P * s := by
  rw [Nat.mul_assoc, ← Nat.mul_add, BB_eq, Nat.mod_add_div]

/-- One step of a sum. -/
theorem plus_step {lo lx ly : List Nat} {k c s : Nat} (hk : k < lo.length) (h : val (lo.take k) + BB ^ k * c = val (lx.take k) + val (ly.take k)) (hs : s = c + dg lx k + dg ly k) :
    val ((lo.set k (s % 10)).take (k + 1)) + BB ^ (k + 1) * (s / 10) = val (lx.take (k + 1)) + val (ly.take (k + 1)) := by
  rw [val_set_take _ _ _ hk, val_take_succ, val_take_succ, Nat.pow_succ]
  have := pow_split (BB ^ k) s
  have e : BB ^ k * s = BB ^ k * c + BB ^ k * dg lx k + BB ^ k * dg ly k := by rw [hs, Nat.mul_add, Nat.mul_add]
  omega

/-- One step of a difference; c and c' are the borrows. -/
theorem minus_step {lo la lb : List Nat} {k c c' x : Nat} (hk : k < lo.length) (h : val (la.take k) + BB ^ k * c = val (lo.take k) + val (lb.take k)) (hs : dg la k + 10 * c' = x + c + dg lb k) :
    val (la.take (k + 1)) + BB ^ (k + 1) * c' = val ((lo.set k x).take (k + 1)) + val (lb.take (k + 1)) := by
  rw [val_set_take _ _ _ hk, val_take_succ, val_take_succ, Nat.pow_succ]
  have e : BB ^ k * (dg la k + 10 * c') = BB ^ k * (x + c + dg lb k) := by rw [hs]
  rw [Nat.mul_add, Nat.mul_add, Nat.mul_add, ← Nat.mul_assoc] at e
  simp only [← BB_eq] at e
  omega
theorem minus_end {lo la lb : List Nat} {c : Nat} (hlo : Dig lo) (hle : val lb ≤ val la) (hc : c ≤ 1) (h : val la + BB ^ lo.length * c = val lo + val lb) : val lo = val la - val lb := by
  have h1 := val_lt hlo
  rcases (show c = 0 ∨ c = 1 by omega) with rfl | rfl <;> omega

/-- One step of a product by a digit. -/
theorem scale_step {lo l : List Nat} {k c b p s : Nat} (hk : k < lo.length) (h : val (lo.take k) + BB ^ k * c = b * val (l.take k) + p) (hs : s = c + dg l k * b) :
    val ((lo.set k (s % 10)).take (k + 1)) + BB ^ (k + 1) * (s / 10) = b * val (l.take (k + 1)) + p := by
  rw [val_set_take _ _ _ hk, val_take_succ, Nat.pow_succ]
  have := pow_split (BB ^ k) s
  have e : BB ^ k * s = BB ^ k * c + b * (BB ^ k * dg l k) := by rw [hs, Nat.mul_add, Nat.mul_comm (dg l k) b, Nat.mul_left_comm]
  rw [Nat.mul_add]
  omega

/-- The value of the digits from a place on. -/
theorem val_drop (l : List Nat) (k : Nat) (hk : k < l.length) : val (l.drop k) = dg l k + BB * val (l.drop (k + 1)) := by
  rw [List.drop_eq_getElem_cons hk, val, dg_lt hk]
theorem val_drop_set (l : List Nat) (k x : Nat) (hk : k < l.length) : val ((l.set k x).drop k) = x + BB * val (l.drop (k + 1)) := by
  rw [val_drop _ _ (by rw [List.length_set]; exact hk), dg_set, if_pos ⟨rfl, hk⟩]
  congr 3
  rw [List.drop_set]
  simp
/-- The order of two magnitudes. -/
def ordN (a b : Nat) : Int := if a < b then -1 else if a = b then 0 else 1
theorem val_lt_of_len {l m : List Nat} (hl : Dig l) (hm : Can m) (h : l.length < m.length) : val l < val m := by
  rcases Nat.lt_or_ge (val l) (val m) with h1 | h1
  · exact h1
  · have := can_len_le hm hl h1; omega
theorem val_eq_of_dg {l m : List Nat} (hl : l.length = m.length) (h : ∀ j, j < l.length → dg l j = dg m j) : val l = val m := by rw [ext_dg hl h]
theorem val_lt_of_dg {l m : List Nat} {k : Nat} (hdl : Dig l) (hlen : l.length = m.length) (hk : k < l.length) (h : ∀ j, k < j → j < l.length → dg l j = dg m j) (hlt : dg l k < dg m k) : val l < val m := by
  have hd : l.drop (k + 1) = m.drop (k + 1) := by
    apply ext_dg
    · rw [List.length_drop, List.length_drop, hlen]
    · intro j hj
      rw [List.length_drop] at hj
      have := h (k + 1 + j) (by omega) (by omega)
      unfold dg at this ⊢
      simpa [List.getD_eq_getElem?_getD, List.getElem?_drop] using this
  have e1 : val l = val (l.take k) + BB ^ k * val (l.drop k) := by
    have := val_append (l.take k) (l.drop k)
    rwa [List.take_append_drop, List.length_take, Nat.min_eq_left (by omega)] at this
  have e2 : val m = val (m.take k) + BB ^ k * val (m.drop k) := by
    have := val_append (m.take k) (m.drop k)
    rwa [List.take_append_drop, List.length_take, Nat.min_eq_left (by omega)] at this
  have e3 : val (l.drop k) + 1 ≤ val (m.drop k) := by
    rw [val_drop l _ hk, val_drop m _ (by omega), hd]; omega
  have e4 := val_lt (hdl.take k)
  rw [List.length_take, Nat.min_eq_left (by omega)] at e4
  have e5 : BB ^ k * (val (l.drop k) + 1) ≤ BB ^ k * val (m.drop k) := Nat.mul_le_mul_left _ e3
  rw [Nat.mul_add] at e5
  omega

theorem val_set (l : List Nat) (i x : Nat) (hi : i < l.length) : val (l.set i x) + BB ^ i * dg l i = val l + BB ^ i * x := by
  have e1 : val (l.set i x) = val (l.take i) + BB ^ i * val ((l.set i x).drop i) := by
    have := val_append ((l.set i x).take i) ((l.set i x).drop i)
    rw [List.take_append_drop, List.length_take, List.length_set, Nat.min_eq_left (by omega)] at this
    rw [this, List.take_set, List.set_eq_of_length_le]; rw [List.length_take]; omega
  have e2 : val l = val (l.take i) + BB ^ i * val (l.drop i) := by
    have := val_append (l.take i) (l.drop i)
    rwa [List.take_append_drop, List.length_take, Nat.min_eq_left (by omega)] at this
  rw [e1, e2, val_drop_set _ _ _ hi, val_drop _ _ hi, Nat.mul_add, Nat.mul_add]
  omega
/-- One step of a row of a product. -/
theorem mul_step {lo lb : List Nat} {i j c x s V : Nat} (hi : i + j < lo.length) (h : val lo + BB ^ (i + j) * c = V + BB ^ i * (x * val (lb.take j))) (hs : s = c + (x * dg lb j + dg lo (i + j))) :
    val (lo.set (i + j) (s % 10)) + BB ^ (i + (j + 1)) * (s / 10) = V + BB ^ i * (x * val (lb.take (j + 1))) := by
  have h1 := val_set lo (i + j) (s % 10) hi
  have h2 := pow_split (BB ^ (i + j)) s
  have e : BB ^ (i + j) * s = BB ^ (i + j) * c + (BB ^ i * (x * (BB ^ j * dg lb j)) + BB ^ (i + j) * dg lo (i + j)) := by
    rw [hs, Nat.mul_add, Nat.mul_add, Nat.pow_add]
    congr 2
    rw [Nat.mul_assoc, Nat.mul_left_comm (BB ^ j) x]
  rw [val_take_succ, Nat.mul_add, Nat.mul_add, ← Nat.add_assoc i j 1, Nat.pow_succ]
  omega
theorem mul_row {lo lb la : List Nat} {i c V : Nat} (hi : i + lb.length < lo.length) (hz : dg lo (i + lb.length) = 0) (h : val lo + BB ^ (i + lb.length) * c = V + BB ^ i * (dg la i * val (lb.take lb.length))) (hV : V = val (la.take i) * val lb) :
    val (lo.set (i + lb.length) c) = val (la.take (i + 1)) * val lb := by
  have h1 := val_set lo (i + lb.length) c hi
  rw [hz, Nat.mul_zero, Nat.add_zero] at h1
  rw [h1, h, hV, val_take_of_le (Nat.le_refl _), val_take_succ, Nat.add_mul, Nat.mul_assoc]

end Go.Proofs.YtjeaemoiafamaaaDoor.T

/- Plain mathematics of a division's digit: the estimate by two digits is right, or one too great. No program in sight. -/
namespace Go.Proofs.YtjeaemoiafamaaaDoor

/-- The value of j digits from the place i on. -/
def sv (l : List Nat) (i : Nat) : Nat → Nat
  | 0 => 0
  | j + 1 => sv l i j + BB ^ j * dg l (i + j)
theorem sv_zero (l : List Nat) (i : Nat) : sv l i 0 = 0 := rfl
theorem sv_succ (l : List Nat) (i j : Nat) : sv l i (j + 1) = sv l i j + BB ^ j * dg l (i + j) := rfl
theorem sv_lt {l : List Nat} (h : Dig l) (i j : Nat) : sv l i j < BB ^ j := by
  induction j with
  | zero => simp [sv]
  | succ j ih =>
    rw [sv_succ, Nat.pow_succ]
    have h1 : dg l (i + j) + 1 ≤ BB := by have := h (i + j); simp only [BB_eq]; omega
    have h2 := Nat.mul_le_mul_left (BB ^ j) h1
    rw [Nat.mul_add] at h2
    omega
theorem sv_congr {l m : List Nat} {i j : Nat} (h : ∀ t, t < j → dg l (i + t) = dg m (i + t)) : sv l i j = sv m i j := by
  induction j with
  | zero => rfl
  | succ j ih => rw [sv_succ, sv_succ, ih (fun t ht => h t (by omega)), h j (by omega)]
theorem sv_set_ge (l : List Nat) (i j k x : Nat) (hk : i + j ≤ k) : sv (l.set k x) i j = sv l i j :=
  sv_congr fun t ht => by rw [dg_set, if_neg (by omega)]
theorem sv_set (l : List Nat) (i j x : Nat) (hk : i + j < l.length) : sv (l.set (i + j) x) i (j + 1) = sv l i j + BB ^ j * x := by
  rw [sv_succ, sv_set_ge _ _ _ _ _ (Nat.le_refl _), dg_set, if_pos ⟨rfl, hk⟩]
theorem sv_val (l : List Nat) (j : Nat) : sv l 0 j = val (l.take j) := by
  induction j with
  | zero => simp [sv, val]
  | succ j ih => rw [sv_succ, val_take_succ, ih, Nat.zero_add]

/-- The estimate of a digit: h is the two highest digits of the dividend, vt the highest of the divisor. -/
theorem est_ge {U V h vt Pn Ul Vl : Nat} (hU : U = h * Pn + Ul) (hUl : Ul < Pn) (hV : V = vt * Pn + Vl) (hvt : 0 < vt) : U / V ≤ h / vt := by
  rw [Nat.le_div_iff_mul_le hvt]
  have h1 : U / V * V ≤ U := Nat.div_mul_le_self _ _
  have h2 : U / V * (vt * Pn) ≤ U / V * V := Nat.mul_le_mul_left _ (by omega)
  have h3 : U / V * vt * Pn < (h + 1) * Pn := by
    rw [Nat.mul_assoc, Nat.add_mul, Nat.one_mul]; omega
  have := Nat.lt_of_mul_lt_mul_right h3
  omega
/-- The test says that the estimate is too great. -/
theorem est_down {U V q P Ul Vl H vv : Nat} (hU : U = H * P + Ul) (hUl : Ul < P) (hV : V = vv * P + Vl) (hV0 : 0 < V) (ht : H < q * vv) : U / V < q := by
  rw [Nat.div_lt_iff_lt_mul hV0]
  have h1 : (H + 1) * P ≤ q * vv * P := Nat.mul_le_mul_right _ ht
  have h2 : q * (vv * P) ≤ q * V := Nat.mul_le_mul_left _ (by omega)
  rw [Nat.add_mul, Nat.one_mul, Nat.mul_assoc] at h1
  omega
/-- The test says that the estimate may be right: then it is at most one too great. -/
theorem est_up {U V q r P Ul Vl H vv : Nat} (hU : U = H * P + Ul) (hV : V = vv * P + Vl) (hVl : Vl < P) (hV0 : 0 < V) (ht : q * vv + r ≤ H) (hq : q ≤ vv + r + 1) : q ≤ U / V + 1 := by
  rcases q with _ | q
  · exact Nat.zero_le _
  · have : q ≤ U / V := by
      rw [Nat.le_div_iff_mul_le hV0, hU, hV]
      have h1 : q * (vv * P + Vl) ≤ q * (vv * P) + q * P := by rw [Nat.mul_add]; have := Nat.mul_le_mul_left q (Nat.le_of_lt hVl); omega
      have h2 : q * P ≤ (vv + r) * P := Nat.mul_le_mul_right _ (by omega)
      have h3 : ((q + 1) * vv + r) * P ≤ H * P := Nat.mul_le_mul_right _ ht
      rw [Nat.add_mul, Nat.add_mul, Nat.one_mul, Nat.add_mul, Nat.mul_assoc] at h3
      rw [Nat.add_mul] at h2
      omega
    omega

theorem est_mul {q y1 y0 r h : Nat} (e : q * y1 + r = h) : q * (y1 * 4294967296 + y0) + r * 4294967296 = h * 4294967296 + q * y0 := by
  rw [Nat.mul_add, ← Nat.mul_assoc, ← e, Nat.add_mul]
  generalize q * y1 = a
  generalize q * y0 = b
  omega
theorem lin1 {_r x0 b c hB rB : Nat} (g1 : c + rB = hB + b) (ht : rB + x0 < b) : hB + x0 < c := by omega
theorem est_mulgt {q y1 y0 r h x0 : Nat} (e : q * y1 + r = h) (ht : r * 4294967296 + x0 < q * y0) : h * 4294967296 + x0 < q * (y1 * 4294967296 + y0) :=
  lin1 (_r := r) (est_mul (y0 := y0) e) ht
theorem est_mulle {q y1 y0 r h x0 : Nat} (e : q * y1 + r = h) (ht : q * y0 ≤ r * 4294967296 + x0) : q * (y1 * 4294967296 + y0) + 0 ≤ h * 4294967296 + x0 := by
  have g1 := est_mul (y0 := y0) e
  generalize q * (y1 * 4294967296 + y0) = c at *
  generalize q * y0 = b at *
  clear e
  omega
theorem est_r {q y1 y0 : Nat} (hq : q < 4294967296) (htop : 2147483648 ≤ y1) : q ≤ y1 * 4294967296 + y0 + 0 + 1 := by omega

theorem est_next {q r y1 h : Nat} (hq : 0 < q) (e : q * y1 + r = h) : (q - 1) * y1 + (r + y1) = h := by
  obtain ⟨n, rfl⟩ : ∃ n, q = n + 1 := ⟨q - 1, by omega⟩
  rw [Nat.add_sub_cancel]
  rw [Nat.add_mul, Nat.one_mul] at e
  omega

/-- The facts of the loop that corrects the estimate. -/
structure Est (D x0 y0 y1 h : Nat) : Prop where
  start : D ≤ h / y1
  far : ∀ q r, q * y1 + r = h → 4294967296 ≤ r → q < 4294967296 ∧ q ≤ D + 1
  big : ∀ q, 4294967296 ≤ q → D ≤ q - 1
  down : ∀ q r, q * y1 + r = h → r * 4294967296 + x0 < q * y0 → D ≤ q - 1 ∧ 0 < q
  up : ∀ q r, q * y1 + r = h → q * y0 ≤ r * 4294967296 + x0 → q < 4294967296 → q ≤ D + 1
  lt : D < 4294967296

theorem est_facts {lu lv : List Nat} {i m x0 x1 x2 y0 y1 h : Nat} (hdu : Dig lu) (hdv : Dig lv) (h0 : x0 = dg lu (i + m)) (h1 : x1 = dg lu (i + (m + 1))) (h2 : x2 = dg lu (i + (m + 2))) (k0 : y0 = dg lv m) (k1 : y1 = dg lv (m + 1))
    (hh : h = x2 * 4294967296 + x1) (htop : 2147483648 ≤ y1) (hlt : sv lu i (m + 3) < BB * sv lv 0 (m + 2)) : Est (sv lu i (m + 3) / sv lv 0 (m + 2)) x0 y0 y1 h ∧ 0 < sv lv 0 (m + 2) := by
  have p1 : BB ^ (m + 1) = BB ^ m * 4294967296 := by rw [Nat.pow_succ, ← BB_eq]
  have p2 : BB ^ (m + 2) = BB ^ m * 4294967296 * 4294967296 := by rw [Nat.pow_succ, p1, ← BB_eq]
  have eU : sv lu i (m + 3) = (h * 4294967296 + x0) * BB ^ m + sv lu i m := by
    rw [sv_succ, sv_succ, sv_succ, ← h0, ← h1, ← h2, hh, p2, p1]
    generalize BB ^ m = P
    generalize sv lu i m = R
    grind
  have eU1 : sv lu i (m + 3) = h * BB ^ (m + 1) + sv lu i (m + 1) := by
    rw [sv_succ lu i (m + 2), sv_succ lu i (m + 1), ← h1, ← h2, hh, p2, p1]
    generalize BB ^ m = P
    generalize sv lu i (m + 1) = R
    grind
  have eV : sv lv 0 (m + 2) = (y1 * 4294967296 + y0) * BB ^ m + sv lv 0 m := by
    rw [sv_succ, sv_succ, Nat.zero_add, Nat.zero_add, ← k0, ← k1, p1]
    generalize BB ^ m = P
    generalize sv lv 0 m = R
    grind
  have eV1 : sv lv 0 (m + 2) = y1 * BB ^ (m + 1) + sv lv 0 (m + 1) := by
    rw [sv_succ lv 0 (m + 1), Nat.zero_add, ← k1, Nat.mul_comm y1, Nat.add_comm]
  have lU := sv_lt hdu i m
  have lU1 := sv_lt hdu i (m + 1)
  have lV := sv_lt hdv 0 m
  have lV1 := sv_lt hdv 0 (m + 1)
  have hP : 0 < BB ^ (m + 1) := Nat.pow_pos (by decide)
  have hV0 : 0 < sv lv 0 (m + 2) := by
    rw [eV1]
    have := Nat.mul_pos (show 0 < y1 by omega) hP
    omega
  have hx2 : x2 ≤ y1 := by
    have g1 : x2 * BB ^ (m + 2) ≤ sv lu i (m + 3) := by rw [sv_succ lu i (m + 2), ← h2, Nat.mul_comm]; omega
    have g2 : sv lv 0 (m + 2) < (y1 + 1) * BB ^ (m + 1) := by rw [eV1, Nat.add_mul, Nat.one_mul]; omega
    have g3 : x2 * BB ^ (m + 2) < (y1 + 1) * BB ^ (m + 2) := by
      rw [Nat.pow_succ BB (m + 1), ← Nat.mul_assoc, ← Nat.mul_assoc]
      have g4 := Nat.mul_lt_mul_of_pos_left g2 (show 0 < BB by decide)
      rw [Nat.mul_comm BB ((y1 + 1) * _)] at g4
      rw [Nat.pow_succ BB (m + 1), ← Nat.mul_assoc] at g1
      omega
    have := Nat.lt_of_mul_lt_mul_right g3
    omega
  have hx1 : x1 < 4294967296 := by rw [h1]; exact hdu _
  have hx0 : x0 < 4294967296 := by rw [h0]; exact hdu _
  have hy0 : y0 < 4294967296 := by rw [k0]; exact hdv _
  have hlt' : sv lu i (m + 3) / sv lv 0 (m + 2) < 4294967296 := by
    rw [Nat.div_lt_iff_lt_mul hV0]; exact hlt
  refine ⟨⟨est_ge eU1 lU1 eV1 (by omega), ?_, ?_, ?_, ?_, hlt'⟩, hV0⟩
  · intro q r e hr
    have hq : q < 4294967296 := by
      rcases Nat.lt_or_ge q 4294967296 with g | g
      · exact g
      · have g1 := Nat.mul_le_mul_right y1 g
        have g2 := Nat.mul_le_mul_right 4294967296 hx2
        omega
    exact ⟨hq, est_up eU1 eV1 lV1 hV0 (r := r) (by omega) (by omega)⟩
  · intro q hq
    exact Nat.le_sub_one_of_lt (Nat.lt_of_lt_of_le hlt' hq)
  · intro q r e ht
    have := est_down (q := q) eU lU eV hV0 (est_mulgt e ht)
    exact ⟨Nat.le_sub_one_of_lt this, Nat.lt_of_le_of_lt (Nat.zero_le _) this⟩
  · intro q r e ht hq
    exact est_up eU eV lV hV0 (r := 0) (est_mulle e ht) (est_r hq htop)

/-- One step of the subtraction of q times the divisor. -/
theorem mulsub_step {lo l0 lv : List Nat} {i j c b b' q x s : Nat} (hk : i + j < lo.length) (h : sv l0 i j + BB ^ j * (c + b) = sv lo i j + q * sv lv 0 j) (hs : s = c + q * dg lv j)
    (hx : dg l0 (i + j) + 4294967296 * b' = x + b + s % 4294967296) :
    sv l0 i (j + 1) + BB ^ (j + 1) * (s / 4294967296 + b') = sv (lo.set (i + j) x) i (j + 1) + q * sv lv 0 (j + 1) := by
  rw [sv_set _ _ _ _ hk, sv_succ, sv_succ, Nat.zero_add, Nat.pow_succ]
  have h1 := pow_split (BB ^ j) s
  have e1 : BB ^ j * s = BB ^ j * c + q * (BB ^ j * dg lv j) := by rw [hs, Nat.mul_add, Nat.mul_left_comm]
  have e2 : BB ^ j * (dg l0 (i + j) + 4294967296 * b') = BB ^ j * (x + b + s % 4294967296) := by rw [hx]
  rw [Nat.mul_add, Nat.mul_add, Nat.mul_add, ← Nat.mul_assoc, ← BB_eq] at e2
  rw [Nat.mul_add (BB ^ j * BB), Nat.mul_add q]
  rw [Nat.mul_add] at h
  simp only [← BB_eq] at *
  omega
/-- One step of adding the divisor back. -/
theorem back_step {lo l0 lv : List Nat} {i j c s : Nat} (hk : i + j < lo.length) (h : sv lo i j + BB ^ j * c = sv l0 i j + sv lv 0 j) (hs : s = c + (dg l0 (i + j) + dg lv j)) :
    sv (lo.set (i + j) (s % 4294967296)) i (j + 1) + BB ^ (j + 1) * (s / 4294967296) = sv l0 i (j + 1) + sv lv 0 (j + 1) := by
  rw [sv_set _ _ _ _ hk, sv_succ, sv_succ, Nat.zero_add, Nat.pow_succ]
  have h1 := pow_split (BB ^ j) s
  have e1 : BB ^ j * s = BB ^ j * c + BB ^ j * dg l0 (i + j) + BB ^ j * dg lv j := by rw [hs, Nat.mul_add, Nat.mul_add]; omega
  omega

/-- The subtraction has left no borrow: the digit is right. -/
theorem sub_end {U V q S : Nat} (hV : 0 < V) (h : U = S + q * V) (hq : U / V ≤ q) : q = U / V ∧ S = U % V := by
  have h1 : q ≤ U / V := by rw [Nat.le_div_iff_mul_le hV]; omega
  have h2 : q = U / V := Nat.le_antisymm h1 hq
  refine ⟨h2, ?_⟩
  have := Nat.div_add_mod U V
  rw [← h2, Nat.mul_comm] at this
  omega
/-- The subtraction has left a borrow: the digit is one too great, and what is added back leads to the rest. -/
theorem back_end {U V q S T X ov : Nat} (hV : 0 < V) (h : U + X = S + q * V) (hS : S < X) (hVX : V < X) (hq : q ≤ U / V + 1) (hT : T + X * ov = S + V) (hTX : T < X) : q - 1 = U / V ∧ T = U % V ∧ 0 < q := by
  have h1 : U < q * V := by omega
  have h2 : U / V < q := by rw [Nat.div_lt_iff_lt_mul hV]; exact h1
  have h3 : q = U / V + 1 := by omega
  have h4 := Nat.div_add_mod U V
  have h5 := Nat.mod_lt U hV
  have h6 : q * V = V * (U / V) + V := by rw [h3, Nat.add_mul, Nat.one_mul, Nat.mul_comm]
  have hov : ov = 1 := by
    rcases Nat.lt_or_ge ov 1 with ho | ho
    · have : ov = 0 := by omega
      subst this
      omega
    · rcases Nat.lt_or_ge 1 ov with ho2 | ho2
      · have := Nat.mul_le_mul_left X ho2
        omega
      · omega
  subst hov
  rw [Nat.mul_one] at hT
  exact ⟨by rw [h3, Nat.add_sub_cancel], by omega, by rw [h3]; exact Nat.succ_pos _⟩

theorem sub_step (lo lu lv : List Nat) {i m q x c b : Nat} (hk : i + m < lo.length) (h : sv lu i m + BB ^ m * (c + b) = sv lo i m + q * sv lv 0 m) (hx : dg lu (i + m) = x + b + c) :
    sv lu i (m + 1) = sv (lo.set (i + m) x) i (m + 1) + q * sv lv 0 m := by
  rw [sv_set _ _ _ _ hk, sv_succ, hx]
  rw [Nat.mul_add] at h
  rw [Nat.mul_add, Nat.mul_add]
  omega
theorem back_start (lo lu lv : List Nat) {i m q x c b : Nat} (hk : i + m < lo.length) (h : sv lu i m + BB ^ m * (c + b) = sv lo i m + q * sv lv 0 m) (hx : dg lu (i + m) + 4294967296 = x + b + c) :
    sv lu i (m + 1) + BB ^ (m + 1) = sv (lo.set (i + m) x) i (m + 1) + q * sv lv 0 m := by
  rw [sv_set _ _ _ _ hk, sv_succ, Nat.pow_succ]
  have e : BB ^ m * (dg lu (i + m) + 4294967296) = BB ^ m * (x + b + c) := by rw [hx]
  rw [← BB_eq, Nat.mul_add, Nat.mul_add, Nat.mul_add] at e
  rw [Nat.mul_add] at h
  omega
theorem back_last (lo l1 lv : List Nat) {i m c s : Nat} (hk : i + m < lo.length) (h : sv lo i m + BB ^ m * c = sv l1 i m + sv lv 0 m) (hs : s = dg l1 (i + m) + c) :
    sv (lo.set (i + m) (s % 4294967296)) i (m + 1) + BB ^ (m + 1) * (s / 4294967296) = sv l1 i (m + 1) + sv lv 0 m := by
  rw [sv_set _ _ _ _ hk, sv_succ, Nat.pow_succ]
  have h1 := pow_split (BB ^ m) s
  have e1 : BB ^ m * s = BB ^ m * dg l1 (i + m) + BB ^ m * c := by rw [hs, Nat.mul_add]
  omega

end Go.Proofs.YtjeaemoiafamaaaDoor

/- Plain mathematics of decimal texts by groups of digits. No program in sight. -/
namespace Go.Proofs.YtjeaemoiafamaaaDoor
open Go.Lib

theorem dec_step (q d : Nat) (hq : 0 < q) (hd : d < 10) : decDigits (q * 10 + d) = decDigits q ++ [UInt8.ofNat (48 + d)] := by
  rw [decDigits, dif_neg (by omega), show (q * 10 + d) / 10 = q by omega, show (q * 10 + d) % 10 = d by omega]

/-- The k lowest decimal digits of r. -/
def padL : Nat → Nat → List UInt8
  | 0, _ => []
  | k + 1, r => padL k (r / 10) ++ [UInt8.ofNat (48 + r % 10)]
theorem padL_length (k r : Nat) : (padL k r).length = k := by
  induction k generalizing r with
  | zero => rfl
  | succ k ih => simp [padL, ih]

theorem dec_pad (k : Nat) : ∀ (q r : Nat), 0 < q → r < 10 ^ k → decDigits (q * 10 ^ k + r) = decDigits q ++ padL k r := by
  induction k with
  | zero => intro q r _ hr; rw [Nat.pow_zero] at hr; rw [show r = 0 by omega]; simp [padL]
  | succ k ih =>
    intro q r hq hr
    rw [Nat.pow_succ] at hr
    have e : q * 10 ^ (k + 1) + r = (q * 10 ^ k + r / 10) * 10 + r % 10 := by
      rw [Nat.pow_succ, Nat.add_mul, Nat.mul_assoc]
      omega
    have hpos : 0 < q * 10 ^ k := Nat.mul_pos hq (Nat.pow_pos (by decide))
    rw [e, dec_step _ _ (by omega) (Nat.mod_lt _ (by decide)), ih q (r / 10) hq (by omega), padL, List.append_assoc]

theorem repeatL_snoc (k : Nat) (b : UInt8) : repeatL [b] k ++ [b] = b :: repeatL [b] k := by
  induction k with
  | zero => rfl
  | succ k ih => rw [repeatL, List.append_assoc, ih]; rfl
theorem pad_zero (k : Nat) : padL k 0 = repeatL [48] k := by
  induction k with
  | zero => rfl
  | succ k ih =>
    show padL k (0 / 10) ++ [UInt8.ofNat (48 + 0 % 10)] = _
    rw [Nat.zero_div, ih]
    show repeatL [48] k ++ [48] = [48] ++ repeatL [48] k
    rw [repeatL_snoc]; rfl
theorem dec_len_le (k : Nat) : ∀ r, r < 10 ^ (k + 1) → (decDigits r).length ≤ k + 1 := by
  induction k with
  | zero => intro r hr; rw [decDigits_one (by simpa using hr)]; simp
  | succ k ih =>
    intro r hr
    by_cases h : r < 10
    · rw [decDigits_one h]; simp
    · rw [decDigits, dif_neg h, List.length_append]
      rw [Nat.pow_succ] at hr
      have := ih (r / 10) (by omega)
      simp; omega
theorem pad_eq (k : Nat) : ∀ r, r < 10 ^ (k + 1) → repeatL [48] (k + 1 - (decDigits r).length) ++ decDigits r = padL (k + 1) r := by
  induction k with
  | zero => intro r hr; rw [decDigits_one (by simpa using hr)]; simp [padL, repeatL]; congr 1; omega
  | succ k ih =>
    intro r hr
    by_cases h : r < 10
    · rw [decDigits_one h, padL, show r / 10 = 0 by omega, pad_zero, show r % 10 = r by omega]; rfl
    · rw [Nat.pow_succ] at hr
      have h1 := ih (r / 10) (by omega)
      rw [padL, ← h1, decDigits, dif_neg h, List.length_append, List.append_assoc]
      have h2 := dec_len_le k (r / 10) (by omega)
      rw [show k + 1 + 1 - ((decDigits (r / 10)).length + [UInt8.ofNat (48 + r % 10)].length) = k + 1 - (decDigits (r / 10)).length by simp]

theorem join_nosep (xs : List (List UInt8)) : join xs [] = xs.flatten := by
  unfold join
  induction xs with
  | nil => rfl
  | cons x xs ih =>
    rcases xs with _ | ⟨y, ys⟩
    · simp [List.intercalate]
    · rw [List.flatten_cons, ← ih]; simp [List.intercalate, List.intersperse]

/-- The text of m ahead of the groups that are written down already. -/
def ahead (m : Nat) : List UInt8 := if m = 0 then [] else decDigits m
/-- The group that a number gives: its lowest nine digits. -/
def groupOf (m : Nat) : List UInt8 := if m / 1000000000 = 0 then decDigits (m % 1000000000) else padL 9 (m % 1000000000)
theorem ahead_step {m : Nat} (hm : 0 < m) : ahead m = ahead (m / 1000000000) ++ groupOf m := by
  unfold ahead groupOf
  rw [if_neg (by omega)]
  have hdm := Nat.div_add_mod m 1000000000
  by_cases h : m / 1000000000 = 0
  · rw [if_pos h, if_pos h]
    rw [h] at hdm
    rw [List.nil_append]
    congr 1
    omega
  · rw [if_neg h, if_neg h]
    have := dec_pad 9 (m / 1000000000) (m % 1000000000) (by omega) (Nat.mod_lt _ (by decide))
    rw [← this]
    congr 1
    show m = m / 1000000000 * 1000000000 + m % 1000000000
    omega

end Go.Proofs.YtjeaemoiafamaaaDoor

/- Plain mathematics: decimal texts of integers, their digits and their errors. No program in sight. -/
namespace Go.Proofs.YtjeaemoiafamaaaDoor
open Go.Lib

/-- The text of an integer. -/
def txt (a : Int) : ByteArray := ⟨(itoa a).toArray⟩
theorem txt_list (a : Int) : (txt a).data.toList = itoa a := by simp [txt]

/-- A digit's letter. -/
def chr (d : Nat) : UInt8 := UInt8.ofNat (48 + d)
theorem chr_toNat {d : Nat} (h : d < 10) : (chr d).toNat = 48 + d := by unfold chr; simp; omega
theorem decDigits_zero : decDigits 0 = [48] := by rw [decDigits_one (by omega)]; rfl
theorem dec_digs (n : Nat) : 0 < n → decDigits n = (T.digs n).reverse.map chr := by
  induction n using Nat.strongRecOn with
  | _ n ih =>
    intro h
    rw [T.digs_pos h]
    by_cases h10 : n < 10
    · rw [decDigits_one h10]
      have e1 : n / T.BB = 0 := by rw [T.BB_eq]; omega
      have e2 : n % T.BB = n := by rw [T.BB_eq]; omega
      rw [e1, e2, T.digs_zero]; rfl
    · rw [decDigits, dif_neg h10]
      have e1 : n / T.BB = n / 10 := by rw [T.BB_eq]
      have e2 : n % T.BB = n % 10 := by rw [T.BB_eq]
      rw [e1, e2, ih (n / 10) (by omega) (by omega)]
      simp [chr]
theorem dec_length {n : Nat} (h : 0 < n) : (decDigits n).length = (T.digs n).length := by rw [dec_digs n h]; simp
theorem dec_pos (n : Nat) : 0 < (decDigits n).length := by
  rw [decDigits]; split <;> simp
theorem digsT_le (n : Nat) : (T.digs n).length ≤ (decDigits n).length := by
  rcases Nat.eq_zero_or_pos n with h | h
  · subst h; rw [T.digs_zero]; simp
  · rw [dec_length h]; exact Nat.le_refl _

/-- A letter that is a digit. -/
def isDg (c : UInt8) : Bool := decide (48 ≤ c.toNat) && decide (c.toNat ≤ 57)
theorem isDg_iff {c : UInt8} : isDg c = true ↔ 48 ≤ c.toNat ∧ c.toNat ≤ 57 := by unfold isDg; simp
theorem isDg_chr {d : Nat} (h : d < 10) : isDg (chr d) = true := by rw [isDg_iff, chr_toNat h]; omega
theorem dec_isDg (n : Nat) : ∀ c ∈ decDigits n, isDg c = true := by
  rcases Nat.eq_zero_or_pos n with h | h
  · subst h; rw [decDigits_zero]; intro c hc; simp at hc; subst hc; rfl
  · rw [dec_digs n h]
    intro c hc
    rw [List.mem_map] at hc
    obtain ⟨d, hd, rfl⟩ := hc
    rw [List.mem_reverse] at hd
    obtain ⟨i, hi, rfl⟩ := List.getElem_of_mem hd
    have := T.dig_digs n i
    rw [dg_lt hi] at this
    exact isDg_chr this

/-- The value of letters, the highest one first. -/
def dv (l : List UInt8) : Nat := l.foldl (fun a c => 10 * a + (c.toNat - 48)) 0
theorem dv_snoc (l : List UInt8) (c : UInt8) : dv (l ++ [c]) = 10 * dv l + (c.toNat - 48) := by unfold dv; rw [List.foldl_append]; rfl
theorem dv_foldl (l : List UInt8) : ∀ a, l.foldl (fun a c => 10 * a + (c.toNat - 48)) a = 10 ^ l.length * a + dv l := by
  induction l with
  | nil => intro a; simp [dv]
  | cons c l ih =>
    intro a
    unfold dv
    rw [List.foldl_cons, List.foldl_cons, ih, ih (10 * 0 + (c.toNat - 48)), List.length_cons, Nat.pow_succ]
    rw [Nat.mul_add, Nat.mul_zero, Nat.zero_add, ← Nat.mul_assoc, Nat.add_assoc]
theorem dv_append (l m : List UInt8) : dv (l ++ m) = 10 ^ m.length * dv l + dv m := by
  unfold dv
  rw [List.foldl_append, dv_foldl]
  rfl
theorem dv_lt {l : List UInt8} (h : ∀ c ∈ l, isDg c = true) : dv l < 10 ^ l.length := by
  induction l with
  | nil => simp [dv]
  | cons c l ih =>
    have h1 := ih (fun x hx => h x (List.mem_cons_of_mem _ hx))
    have h2 := isDg_iff.1 (h c (List.mem_cons_self ..))
    have h3 := dv_append [c] l
    have h4 : dv [c] = c.toNat - 48 := by unfold dv; simp
    rw [List.singleton_append, h4] at h3
    rw [h3, List.length_cons, Nat.pow_succ]
    have h5 : 10 ^ l.length * (c.toNat - 48) ≤ 10 ^ l.length * 9 := Nat.mul_le_mul_left _ (by omega)
    omega
theorem snoc_induction {P : List UInt8 → Prop} (h0 : P []) (h1 : ∀ l c, P l → P (l ++ [c])) (l : List UInt8) : P l := by
  have : ∀ m : List UInt8, P m.reverse := by
    intro m
    induction m with
    | nil => exact h0
    | cons c m ih => rw [List.reverse_cons]; exact h1 _ _ ih
  have := this l.reverse
  rwa [List.reverse_reverse] at this
theorem dv_dec (n : Nat) : dv (decDigits n) = n := by
  induction n using Nat.strongRecOn with
  | _ n ih =>
    rw [decDigits]
    split
    · unfold dv; simp; omega
    · rw [dv_snoc, ih _ (by omega)]; simp; omega
/-- Letters without a needless zero at the head are the text of their value. -/
theorem dec_dv (l : List UInt8) : l ≠ [] → (∀ c ∈ l, isDg c = true) → (l.head? = some 48 → l.length ≤ 1) → decDigits (dv l) = l := by
  induction l using snoc_induction with
  | h0 => intro h; exact absurd rfl h
  | h1 l c ih =>
    intro _ hd hh
    have hc := isDg_iff.1 (hd c (by simp))
    rw [dv_snoc]
    by_cases hl : l = []
    · subst hl
      rw [show dv [] = 0 from rfl, decDigits_one (by omega)]
      simp only [List.nil_append, List.cons.injEq, and_true]
      apply UInt8.toNat_inj.1
      simp; omega
    · have hne : 0 < l.length := List.length_pos_iff.2 hl
      have hh' : (l ++ [c]).head? = l.head? := by rw [List.head?_append]; cases l with | nil => exact absurd rfl hl | cons _ _ => rfl
      rw [hh', List.length_append, List.length_singleton] at hh
      have hz : l.head? ≠ some 48 := fun h => by have := hh h; omega
      have hi := ih hl (fun x hx => hd x (by simp [hx])) (fun h => absurd h hz)
      have hp : 0 < dv l := by
        rcases Nat.eq_zero_or_pos (dv l) with h0 | h0
        · rw [h0, decDigits_zero] at hi; rw [← hi] at hz; exact absurd rfl hz
        · exact h0
      rw [show 10 * dv l + (c.toNat - 48) = dv l * 10 + (c.toNat - 48) by omega, dec_step _ _ hp (by omega), hi]
      congr 1
      simp only [List.cons.injEq, and_true]
      apply UInt8.toNat_inj.1
      simp; omega

/-- The letters behind the sign. -/
def body (l : List UInt8) : List UInt8 := if l.head? = some 45 then l.tail else l
/-- The error of a text of permitted length; 0 if there is none. -/
def chk (l : List UInt8) : Nat :=
  if body l = [] then 14 else if (body l).all isDg = false then 14 else if (body l).head? = some 48 ∧ (1 < (body l).length ∨ l.head? = some 45) then 3 else 0
theorem chk_ok {l : List UInt8} (h : chk l = 0) : ∃ a : Int, l = itoa a ∧ body l = decDigits a.natAbs ∧ (l.head? = some 45 ↔ a < 0) := by
  unfold chk at h
  split at h
  · omega
  rename_i h1
  split at h
  · omega
  rename_i h2
  split at h
  · omega
  rename_i h3
  have h2' : ∀ c ∈ body l, isDg c = true := by
    have : (body l).all isDg = true := by simpa using h2
    exact List.all_eq_true.1 this
  have hb := dec_dv (body l) h1 h2' (fun hh => by
    rcases Nat.lt_or_ge 1 (body l).length with h4 | h4
    · exact absurd ⟨hh, .inl h4⟩ h3
    · exact h4)
  by_cases hs : l.head? = some 45
  · have hl : l = 45 :: body l := by
      unfold body
      rw [if_pos hs]
      cases l with
      | nil => simp at hs
      | cons c l => simp at hs; rw [hs]; rfl
    have hp : 0 < dv (body l) := by
      rcases Nat.eq_zero_or_pos (dv (body l)) with h0 | h0
      · rw [h0, decDigits_zero] at hb; exact absurd ⟨by rw [← hb]; rfl, .inr hs⟩ h3
      · exact h0
    refine ⟨-(dv (body l) : Int), ?_, ?_, ?_⟩
    · unfold itoa
      rw [if_pos (by omega)]
      have : (-(dv (body l) : Int)).natAbs = dv (body l) := by omega
      rw [this, hb]; exact hl
    · have : (-(dv (body l) : Int)).natAbs = dv (body l) := by omega
      rw [this, hb]
    · exact ⟨fun _ => by omega, fun _ => hs⟩
  · have hl : l = body l := by unfold body; rw [if_neg hs]
    refine ⟨(dv (body l) : Int), ?_, ?_, ?_⟩
    · unfold itoa
      rw [if_neg (by omega), Int.toNat_natCast, hb]; exact hl
    · rw [Int.natAbs_natCast, hb]
    · exact ⟨fun h => absurd h hs, fun h => by omega⟩
theorem itoa_neg {a : Int} (h : a < 0) : itoa a = 45 :: decDigits a.natAbs := by unfold itoa; rw [if_pos h]
theorem itoa_nonneg' {a : Int} (h : ¬ a < 0) : itoa a = decDigits a.natAbs := by unfold itoa; rw [if_neg h, show a.toNat = a.natAbs by omega]
theorem itoa_inj {a b : Int} (h : itoa a = itoa b) : a = b := by
  have key : ∀ n m : Nat, decDigits n = decDigits m → n = m := fun n m h => by rw [← dv_dec n, h, dv_dec]
  have no : ∀ n m : Nat, decDigits n ≠ 45 :: decDigits m := fun n m h => by
    have := dec_isDg n 45 (by rw [h]; simp)
    simp [isDg] at this
  by_cases ha : a < 0 <;> by_cases hb : b < 0
  · rw [itoa_neg ha, itoa_neg hb] at h; have := key _ _ (List.cons.inj h).2; omega
  · rw [itoa_neg ha, itoa_nonneg' hb] at h; exact absurd h.symm (no _ _)
  · rw [itoa_nonneg' ha, itoa_neg hb] at h; exact absurd h (no _ _)
  · rw [itoa_nonneg' ha, itoa_nonneg' hb] at h; have := key _ _ h; omega
theorem txt_inj {a b : Int} (h : txt a = txt b) : a = b := by
  apply itoa_inj
  rw [← txt_list, ← txt_list, h]
theorem itoa_zero : itoa 0 = [48] := by rw [itoa_nonneg' (by omega)]; exact decDigits_zero

/-- The sign and the magnitude make the text. -/
theorem itoa_of (s : Bool) (n : Nat) (h : 0 < n) : itoa (if s then -(n : Int) else n) = (if s then [45] else []) ++ (T.digs n).reverse.map chr := by
  cases s
  · rw [if_neg (by simp), itoa_nonneg' (by omega), Int.natAbs_natCast, dec_digs n h]; rfl
  · rw [if_pos rfl, itoa_neg (by omega), show (-(n : Int)).natAbs = n by omega, dec_digs n h]; rfl

end Go.Proofs.YtjeaemoiafamaaaDoor

/- Plain mathematics: when a string has a rune that is no digit; how strconv.ParseUint reads digits; a text without its sign. No program in sight. -/
namespace Go.Proofs.YtjeaemoiafamaaaDoor
open Go.Lib

/-- The rune is no digit. -/
def noDg (r : Nat) : Bool := !(decide (48 ≤ r) && decide (r ≤ 57))

theorem decodeN_big (n b0 b1 b2 b3 : Nat) (h : 128 ≤ b0) : 128 ≤ (decodeN n b0 b1 b2 b3).1 := by
  unfold decodeN
  repeat' split
  all_goals (simp only; omega)

theorem idx_from (s : ByteArray) : ∀ (f pos : Nat), s.size ≤ pos + f → (decide (0 ≤ idxFuncFrom noDg true s f pos) = !((s.data.toList.drop pos).all isDg)) := by
  have hsl : s.data.toList.length = s.size := by rw [Array.length_toList]; rfl
  intro f
  induction f with
  | zero =>
    intro pos h
    rw [List.drop_eq_nil_of_le (by rw [hsl]; omega)]
    rfl
  | succ f ih =>
    intro pos h
    unfold idxFuncFrom
    by_cases hp : pos < s.size
    · rw [if_pos hp, List.drop_eq_getElem_cons (by rw [hsl]; exact hp), List.all_cons]
      have hg : s.data.toList.getD pos 0 = s.data.toList[pos]'(by rw [hsl]; exact hp) := by
        rw [List.getD_eq_getElem?_getD, List.getElem?_eq_getElem (by rw [hsl]; exact hp)]; rfl
      have hdec := decode_N s pos
      rw [hg] at hdec
      generalize s.data.toList[pos]'(by rw [hsl]; exact hp) = c at hdec ⊢
      by_cases hc : isDg c = true
      · have hc' := isDg_iff.1 hc
        rw [decodeN_ascii _ _ _ _ _ (by omega)] at hdec
        rw [hdec, if_neg (by unfold noDg; simp; omega), hc, Bool.true_and]
        exact ih (pos + 1) (by omega)
      · have hc2 : isDg c = false := by simpa using hc
        have hn : noDg (Utf8.decode s pos).1 = true := by
          rw [hdec]
          by_cases hb : c.toNat < 128
          · rw [decodeN_ascii _ _ _ _ _ hb]
            unfold noDg
            unfold isDg at hc2
            rw [hc2]; rfl
          · have := decodeN_big (s.data.toList.length - pos) c.toNat (s.data.toList.getD (pos + 1) 0).toNat (s.data.toList.getD (pos + 2) 0).toNat (s.data.toList.getD (pos + 3) 0).toNat (by omega)
            revert this
            generalize (decodeN (s.data.toList.length - pos) c.toNat (s.data.toList.getD (pos + 1) 0).toNat (s.data.toList.getD (pos + 2) 0).toNat (s.data.toList.getD (pos + 3) 0).toNat).1 = q
            intro this
            unfold noDg
            simp; omega
        rw [if_pos hn, hc2]
        simp
    · rw [if_neg hp, List.drop_eq_nil_of_le (by rw [hsl]; omega)]
      rfl
theorem idx_dg (s : ByteArray) : decide (0 ≤ idxFunc noDg true s) = !(s.data.toList.all isDg) := by
  have := idx_from s s.size 0 (by omega)
  rw [List.drop_zero] at this
  exact this

theorem trim_body (l : List UInt8) : trimPrefix l [45] = body l ∧ hasPrefix l [45] = decide (l.head? = some 45) := by
  unfold trimPrefix hasPrefix body
  cases l with
  | nil => simp
  | cons c l =>
    by_cases h : c = 45
    · subst h; simp [List.isPrefixOf]
    · have h' : ¬ (45 : UInt8) = c := fun e => h e.symm
      simp [List.isPrefixOf, h, h']

theorem parseM_ok (M : Nat) : ∀ (l : List UInt8) (acc : Nat), (∀ c ∈ l, isDg c = true) → 10 ^ l.length * acc + dv l ≤ M → M < 1844674407370955162 → parseUintM M acc l = .ok (10 ^ l.length * acc + dv l) := by
  intro l
  induction l with
  | nil => intro acc _ _ _; simp [parseUintM, dv]
  | cons c l ih =>
    intro acc hd hle hM
    have hc := isDg_iff.1 (hd c (List.mem_cons_self ..))
    have h1 := dv_append [c] l
    have h2 : dv [c] = c.toNat - 48 := by unfold dv; simp
    rw [List.singleton_append, h2] at h1
    have hpos : 1 ≤ 10 ^ l.length := Nat.one_le_pow _ _ (by decide)
    have e : 10 ^ (c :: l).length * acc + dv (c :: l) = 10 ^ l.length * (acc * 10 + (c.toNat - 48)) + dv l := by
      rw [h1, List.length_cons, Nat.pow_succ, Nat.mul_add, Nat.mul_comm acc 10, ← Nat.mul_assoc, Nat.add_assoc]
    rw [e] at hle ⊢
    have hb : acc * 10 + (c.toNat - 48) ≤ 10 ^ l.length * (acc * 10 + (c.toNat - 48)) := Nat.le_mul_of_pos_left _ hpos
    unfold parseUintM
    rw [if_pos hc, if_neg (by omega), if_neg (by omega)]
    exact ih _ (fun x hx => hd x (List.mem_cons_of_mem _ hx)) hle hM
theorem parse_ok32 {l : List UInt8} (h0 : l ≠ []) (h9 : l.length ≤ 9) (hd : ∀ c ∈ l, isDg c = true) : parseUintB 32 l = .ok (dv l) := by
  unfold parseUintB
  rw [if_neg h0]
  have h1 := dv_lt hd
  have h2 : 10 ^ l.length ≤ 10 ^ 9 := Nat.pow_le_pow_right (by decide) h9
  have := parseM_ok (2 ^ 32 - 1) l 0 hd (by omega) (by decide)
  rw [Nat.mul_zero, Nat.zero_add] at this
  exact this

end Go.Proofs.YtjeaemoiafamaaaDoor
