/- Texts of this proof, laid together: RBase RTrim RDigits RText ROrder RMinus RPlus RSign RAdd RFrom RMul RMulW RDivA RDivMod RGcd RPower RCheck. -/
import Derived.Test.YtjeaemoiafamaaaDoorPkB
import Derived.Test.YtjeaemoiafamaaaDoorPkA
import Derived.Deep.LoopGhost
import Derived.Lib.ConvBytes
import Derived.Laws.AppendOwnNone
import Derived.Test.YtjeaemoiafamaaaDoorPkC

/- Words for the reference's digits: slices of int, the lowest digit first. -/
namespace Go.Proofs.YtjeaemoiafamaaaDoor
open Go.RowKit

/-- Digits of type int in memory. -/
def D64 (w : World) (A : Option Addr) (l : List Nat) : Prop := Cells w A l.length (fun j => .int .i64 (dg l j : Nat))
theorem D64.below {w w' : World} {A : Option Addr} {l : List Nat} (h : D64 w A l) (hb : Below w.heap.size w w') : D64 w' A l := Cells.below h hb
theorem D64.trimmed {w : World} {A : Option Addr} {l : List Nat} (h : D64 w A l) (hd : T.Dig l) : D64 w A (T.digs (T.val l)) := by
  obtain ⟨h1, h2⟩ := T.digs_val_take hd
  refine (Cells.take h h1).congr fun j hj => ?_
  rw [← h2, dg_take, if_pos hj]
/-- A slice value that reads as digits of type int. -/
def IsD (w : World) (v : Value) (l : List Nat) : Prop := ∃ A c, v = .slice A l.length c ∧ l.length ≤ c ∧ c ≤ maxLen ∧ D64 w A l
theorem IsD.below {w w' : World} {v : Value} {l : List Nat} (h : IsD w v l) (hb : Below w.heap.size w w') : IsD w' v l := by
  obtain ⟨A, c, hv, hl, hc, hu⟩ := h
  exact ⟨A, c, hv, hl, hc, Cells.below hu hb⟩
theorem info64 : (Tryd.prog.info? 3).map (fun i => (i.zero, i.size, i.bytes)) = some (some (.int .i64 0), 1, 8) := by kernel_rfl

/-- A digit as a value of type int. -/
def dV (d : Nat) : Value := .int .i64 (d : Nat)
theorem dg_map {l : List Nat} {j : Nat} (hj : j < l.length) : (l.map dV)[j]? = some (.int .i64 (dg l j : Nat)) := by
  rw [dg_lt hj]; simp [hj, dV]
/-- A row of the call's own that holds digits reads as them. -/
theorem owns_IsD {w : World} {base n : Nat} {e : TypeId} {v : Value} {l : List Nat} (h : w.ownsRow base e 1 v n (l.map dV)) : IsD w v l := by
  have hn : n = l.length := by have := h.1; rw [List.length_map] at this; omega
  subst hn
  rcases h.2 with ⟨rfl, h'⟩ | ⟨g, cap, cur, rfl, _, hg, h1, h2, hs, ht⟩
  · have hl : l = [] := by simpa using h'
    subst hl
    exact ⟨none, 0, rfl, Nat.le_refl _, by unfold maxLen; omega, .inl rfl⟩
  · refine ⟨some ⟨g, 0, none⟩, cap, rfl, h1, h2, .inr ⟨g, 0, rfl, fun j hj => ?_, _, _, _, hg, fun z hz => by simp at hz⟩⟩
    rw [Nat.zero_add, World.ownsRow.cellAt h j (by omega)]
    exact dg_map hj
/-- A row of the call's own is kept while older blocks alone stand as they were. -/
theorem owns_below' {w w' : World} {base size n : Nat} {e : TypeId} {v : Value} {xs : List Value} (h : w.ownsRow base e size v n xs) (hb : Below w.heap.size w w') : w'.ownsRow base e size v n xs := by
  refine ⟨h.1, ?_⟩
  rcases h.2 with hn | ⟨g, cap, cur, rfl, hbg, hgg, rest⟩
  · exact .inl hn
  · exact .inr ⟨g, cap, cur, rfl, hbg, (hb.block g (Array.getElem?_eq_some_iff.1 hgg).1).trans hgg, rest⟩
/-- A run of cells below the base is kept while a row of the call's own grows. -/
theorem Cells.grown {w w' : World} {A : Option Addr} {n B : Nat} {r : Option Nat} {f : Nat → Value} (h : Cells w A n f) (hlow : ∀ b off, A = some ⟨b, off, none⟩ → b < B) (hg : w.grownBy w' r) (hr : ∀ k, r = some k → B ≤ k) : Cells w' A n f := by
  rcases h with h | ⟨b, off, hA, hc, ht⟩
  · exact .inl h
  · have hne : some b ≠ r := by
      intro e
      have h1 := hr _ e.symm
      have h2 := hlow b off hA
      omega
    refine .inr ⟨b, off, hA, fun j hj => hg.cell (hc j hj) hne, ht.of_eq (hg.block b ?_ hne)⟩
    obtain ⟨_, _, _, h1, _⟩ := ht
    exact (Array.getElem?_eq_some_iff.1 h1).1

/-- The slice value owns these cells, one an element. -/
def Owns1 (w : World) (base : Nat) (e : TypeId) (v : Value) (xs : List Value) : Prop := w.ownsRow base e 1 v xs.length xs
theorem Owns1.nil (w : World) (base : Nat) (e : TypeId) : Owns1 w base e (.slice none 0 0) [] := World.ownsRow_nil _ _ _ _
theorem Owns1.below {w w' : World} {base : Nat} {e : TypeId} {v : Value} {xs : List Value} (h : Owns1 w base e v xs) (hb : Below w.heap.size w w') : Owns1 w' base e v xs := owns_below' h hb
theorem Owns1.isD {w : World} {base : Nat} {e : TypeId} {v : Value} {l : List Nat} (h : Owns1 w base e v (l.map dV)) : IsD w v l := owns_IsD h
/-- 'append(out, x)', x one cell: the row grows by it; what lies below the base stands as it was. -/
theorem wpList_app1 {P : Program} (w : World) {ops : Array Oper} {rest : List Oper} {o : Oper} {a : Act} {Q : Exit → Act → World → Prop} (hgd : o.guard = none) (s x : Operand) (t : TypeId)
    (ho : o.op = .call { callee := .builtin .append, args := #[s, x], argTypes := #[t, t] })
    (base : Nat) (e : TypeId) (i : TypeInfo) (z : Value) (bytes : Nat) (ht : P.underlying t = some (.slice e)) (hi : P.info? e = some i) (hz : i.zero = some z)
    (hsize : i.size = 1) (hby : i.bytes = bytes) (hzs : z.cells.size = 1)
    (v : Value) (xs : List Value) (hs : a.eval s = v) (hown : Owns1 w base e v xs)
    (u : Value) (h1 : u.oneCell' = true) (hx : a.eval x = .slice (some ⟨w.heap.size, 0, none⟩) 1 1)
    (hlen : xs.length + 1 ≤ maxLen ∧ (xs.length + 1) * bytes ≤ 140737488355328) (hbase : base ≤ w.heap.size)
    (h : ∀ v' w', Owns1 w' base e v' (xs ++ [u]) → Below base w w' → wpList P ops Q rest (a.put o.dst v') w') : wpList P ops Q (o :: rest) a (w.alloc (.cells #[u] e)) := by
  have hb := (boxes1 w (.cells #[u] e)).2.2
  refine wpList_append_own _ hgd s x t ho base e i z 1 bytes ht hi hz hsize hby hzs (by decide) v xs.length xs hs (owns_below' hown hb) ⟨w.heap.size, 0, none⟩ 1 1 [u] hx rfl ?_ ?_ hlen.1 hlen.2 (Nat.le_trans hbase hb.size) ?_
  · intro j y hj
    rcases j with _ | j
    · simp at hj; subst hj; simp [Addr.add]
    · simp at hj
  · intro y hy; simp at hy; subst hy; exact h1
  · intro v' w' hown' hgr _
    refine h v' w' (by unfold Owns1; rw [List.length_append]; exact hown') ?_
    refine (hb.mono hbase).grown hgr (Nat.le_trans hbase hb.size) ?_
    intro k hk
    exact (hown.lt k hk).1

/-- A slice value that reads as digits, nil or in a block from B on. -/
def FreshD (B : Nat) (w : World) (v : Value) (l : List Nat) : Prop :=
  (v = .slice none 0 0 ∧ l = []) ∨ ∃ b off c, v = .slice (some ⟨b, off, none⟩) l.length c ∧ B ≤ b ∧ b < w.heap.size ∧ l.length ≤ c ∧ c ≤ maxLen ∧ D64 w (some ⟨b, off, none⟩) l
theorem FreshD.nil (B : Nat) (w : World) : FreshD B w (.slice none 0 0) [] := .inl ⟨rfl, rfl⟩
theorem FreshD.isD {B : Nat} {w : World} {v : Value} {l : List Nat} (h : FreshD B w v l) : IsD w v l := by
  rcases h with ⟨rfl, rfl⟩ | ⟨b, off, c, rfl, _, _, h1, h2, h3⟩
  · exact ⟨none, 0, rfl, Nat.le_refl _, by unfold maxLen; omega, .inl rfl⟩
  · exact ⟨_, _, rfl, h1, h2, h3⟩
theorem FreshD.below {B : Nat} {w w' : World} {v : Value} {l : List Nat} (h : FreshD B w v l) (hb : Below w.heap.size w w') : FreshD B w' v l := by
  rcases h with h | ⟨b, off, c, rfl, h0, h4, h1, h2, h3⟩
  · exact .inl h
  · exact .inr ⟨b, off, c, rfl, h0, Nat.lt_of_lt_of_le h4 hb.size, h1, h2, Cells.below h3 hb⟩
theorem FreshD.mono {B B' : Nat} {w : World} {v : Value} {l : List Nat} (h : FreshD B w v l) (hb : B' ≤ B) : FreshD B' w v l := by
  rcases h with h | ⟨b, off, c, rfl, h0, h4, h1, h2, h3⟩
  · exact .inl h
  · exact .inr ⟨b, off, c, rfl, Nat.le_trans hb h0, h4, h1, h2, h3⟩
/-- A store into an older block leaves them. -/
theorem FreshD.set {B g i : Nat} {w : World} {v x : Value} {l : List Nat} (h : FreshD B w v l) (hg : g < B) : FreshD B (w.setCell ⟨g, i, none⟩ x) v l := by
  rcases h with h | ⟨b, off, c, rfl, h0, h4, h1, h2, h3⟩
  · exact .inl h
  · refine .inr ⟨b, off, c, rfl, h0, by simpa using h4, h1, h2, ?_⟩
    rcases h3 with h3 | ⟨b', off', hA, hc, ht⟩
    · exact .inl h3
    · simp only [Option.some.injEq, Addr.mk.injEq, and_true] at hA
      obtain ⟨rfl, rfl⟩ := hA
      exact .inr ⟨b, off, rfl, fun j hj => (cell_far w g i b (off + j) x (by omega)).trans (hc j hj), ht.of_eq (heap_setCell_other w ⟨g, i, none⟩ b x (by simp; omega))⟩
theorem Owns1.fresh {w : World} {base : Nat} {e : TypeId} {v : Value} {l : List Nat} (h : Owns1 w base e v (l.map dV)) : FreshD base w v l := by
  have h' : w.ownsRow base e 1 v l.length (l.map dV) := by have := h; unfold Owns1 at this; rwa [List.length_map] at this
  rcases h'.2 with ⟨rfl, hn⟩ | ⟨g, cap, cur, rfl, hbg, hg, h1, h2, hs, ht⟩
  · exact .inl ⟨rfl, List.eq_nil_of_length_eq_zero hn⟩
  · refine .inr ⟨g, 0, cap, rfl, hbg, (Array.getElem?_eq_some_iff.1 hg).1, h1, h2, .inr ⟨g, 0, rfl, fun j hj => ?_, _, _, _, hg, fun z hz => by simp at hz⟩⟩
    rw [Nat.zero_add, World.ownsRow.cellAt h' j (by omega)]
    exact dg_map hj

end Go.Proofs.YtjeaemoiafamaaaDoor

/- dowelref01.trim: digits without zeros at the end. -/
namespace Go.Proofs.YtjeaemoiafamaaaDoor
open Go.RowKit

theorem rtrim_walk (A : Option Addr) (n c : Nat) (l : List Nat) (w : World) (hn : n = l.length) (hc : n ≤ c) (hm : c ≤ maxLen) (h : D64 w A l) (hd : T.Dig l) :
    Calls Tryd.prog 60 #[.slice A n c] w fun e w' => e = .returned (.slice A (T.digs (T.val l)).length c) ∧ (T.digs (T.val l)).length ≤ l.length ∧ w = w' := by
  unfold maxLen at hm
  subst hn
  obtain ⟨fin, hfin⟩ : ∃ fin : Nat → Prop, ∀ k, fin k ↔ (k ≤ l.length ∧ (∀ j, k ≤ j → j < l.length → dg l j = 0) ∧ (0 < k → dg l (k - 1) ≠ 0)) := ⟨_, fun _ => Iff.rfl⟩
  have key : Calls Tryd.prog 60 #[.slice A l.length c] w fun e w' => (∃ k, fin k ∧ e = .returned (.slice A k c)) ∧ w = w' := by
    have HF := Lib.hid hfin
    clear hfin
    go_enter Tryd.func60, Tryd.ntmps60
    go_wp2
    go_loop [3] (fun v => ∃ k : Nat, k ≤ l.length ∧ v = .int .i64 k ∧ (∀ j, k ≤ j → j < l.length → dg l j = 0)) (fun v => (intOf v).toNat)
    case atStart => exact ⟨l.length, Nat.le_refl _, rfl, fun j h1 h2 => absurd h1 (by omega)⟩
    case round =>
      obtain ⟨k, hk, rfl, hz⟩ := hrel
      have HZ := Lib.hid hz
      clear hz
      by_cases h0 : 0 < k
      · obtain ⟨b, off, rfl, hb, hcell⟩ := Cells.at_ h (by omega)
        have hc1 := hcell (k-1) (by omega)
        have H := Lib.hid h
        clear hcell h
        have h0' : (0 : Int) < (k : Nat) := by omega
        go_wp2
        · have h0' : (((dg l (k - 1) : Nat) : Int) == 0) = true := by assumption
          have h00 : dg l (k - 1) = 0 := by simpa using h0'
          go_round
          case rel =>
            refine ⟨k - 1, by omega, by first | rfl | (congr 1; omega), fun j h1 h2 => ?_⟩
            by_cases hj : j = k - 1
            · rw [hj]; exact h00
            · exact HZ.out j (by omega) h2
          case measure => simp [intOf]; omega
        · have h0' : (((dg l (k - 1) : Nat) : Int) == 0) = false := by assumption
          go_ret
          exact ⟨⟨k, (HF.out k).2 ⟨hk, HZ.out, fun _ h => by rw [h] at h0'; simp at h0'⟩, by simp⟩, rfl⟩
      · obtain rfl : k = 0 := by omega
        go_wp2
        go_ret
        exact ⟨⟨0, (HF.out 0).2 ⟨hk, HZ.out, fun h => absurd h (by omega)⟩, by simp⟩, rfl⟩
  refine key.mono ?_
  rintro e w' ⟨⟨k, hk, he⟩, hw⟩
  obtain ⟨h1, h2, h3⟩ := (hfin k).1 hk
  have ht := T.take_can hd h1 h2 h3
  have hl : (T.digs (T.val l)).length = k := by rw [← ht, List.length_take]; omega
  exact ⟨by rw [hl]; exact he, by omega, hw⟩

theorem rtrim_fresh (B : Nat) (v : Value) (l : List Nat) (w : World) (h : FreshD B w v l) (hd : T.Dig l) :
    Calls Tryd.prog 60 #[v] w fun e w' => ∃ v', e = .returned v' ∧ FreshD B w v' (T.digs (T.val l)) ∧ w = w' := by
  rcases h with ⟨rfl, rfl⟩ | ⟨b, off, c, rfl, h0, h4, h1, h2, h3⟩
  · refine (rtrim_walk none 0 0 [] w rfl (Nat.le_refl _) (by unfold maxLen; omega) (.inl rfl) hd).mono ?_
    rintro e w' ⟨rfl, _, rfl⟩
    have e : T.digs (T.val []) = [] := by show T.digs 0 = []; exact T.digs_zero
    rw [e]
    exact ⟨_, rfl, .inl ⟨rfl, rfl⟩, rfl⟩
  · refine (rtrim_walk _ _ c l w rfl h1 h2 h3 hd).mono ?_
    rintro e w' ⟨rfl, hle, rfl⟩
    exact ⟨_, rfl, .inr ⟨b, off, c, rfl, h0, h4, by omega, h2, h3.trimmed hd⟩, rfl⟩

end Go.Proofs.YtjeaemoiafamaaaDoor

/- dowelref01.digits: the digits of a text. -/
namespace Go.Proofs.YtjeaemoiafamaaaDoor
open Go.RowKit

theorem byte_at {s : ByteArray} {ds : List Nat} {neg : Bool} (hs : s.data.toList = (if neg then [45] else []) ++ ds.reverse.map chr) (hsz : s.size = ds.length + (if neg then 1 else 0)) (hd : T.Dig ds) {j : Nat} (hj : j < s.size) :
    if s.size - (j + 1) < ds.length then s[j].toNat = 48 + dg ds (s.size - (j + 1)) else s[j].toNat = 45 := by
  have e : s[j] = s.data.toList[j]'(by rw [Array.length_toList]; exact hj) := by rw [Array.getElem_toList]; rfl
  rw [e]
  have key : ∀ (l : List UInt8) (hl : j < l.length), l = (if neg then [45] else []) ++ ds.reverse.map chr → if s.size - (j + 1) < ds.length then (l[j]).toNat = 48 + dg ds (s.size - (j + 1)) else (l[j]).toNat = 45 := by
    intro l hl h
    subst h
    have hdig := hd (s.size - (j + 1))
    cases neg
    · simp only [Bool.false_eq_true, if_false, Nat.add_zero] at hsz
      rw [if_pos (by omega)]
      simp only [Bool.false_eq_true, if_false, List.nil_append, List.getElem_map, List.getElem_reverse]
      rw [← chr_toNat hdig, dg_lt (by omega)]
      congr 3
      omega
    · simp only [if_true] at hsz
      rcases j with _ | j
      · rw [if_neg (by omega)]; rfl
      · rw [if_pos (by omega)]
        simp only [if_true, List.singleton_append, List.getElem_cons_succ, List.getElem_map, List.getElem_reverse]
        rw [← chr_toNat hdig, dg_lt (by omega)]
        congr 3
        omega
  exact key _ _ hs

theorem take_succ_dV {ds : List Nat} {k : Nat} (h : k < ds.length) : (ds.take (k + 1)).map dV = (ds.take k).map dV ++ [.int .i64 (dg ds k : Nat)] := by
  rw [List.take_succ_eq_append_getElem h, List.map_append, dg_lt h]; rfl

set_option maxHeartbeats 400000 in
theorem rdigits_any (s : ByteArray) (ds : List Nat) (neg : Bool) (w : World) (hs : s.data.toList = (if neg then [45] else []) ++ ds.reverse.map chr) (hd : T.Dig ds) (hl : ds.length ≤ 1099511627776) :
    Calls Tryd.prog 58 #[.string s] w fun e w' => ∃ v, e = .returned v ∧ IsD w' v (T.digs (T.val ds)) ∧ Below w.heap.size w w' := by
  obtain ⟨i0, hi0, hz0, hz1, hz2⟩ := info_parts info64
  have hsz : s.size = ds.length + (if neg then 1 else 0) := by
    have := congrArg List.length hs
    rw [List.length_append, List.length_map, List.length_reverse] at this
    have e : s.size = s.data.toList.length := by rw [Array.length_toList]; rfl
    rw [e, this]; cases neg <;> simp <;> omega
  have hn1 : s.size ≤ 1099511627777 := by rw [hsz]; split <;> omega
  have hbig : ds.length ≤ s.size := by rw [hsz]; omega
  have hnm : s.size ≤ 9223372036854775807 := by omega
  have HS := Lib.hid hs
  have HSZ := Lib.hid hsz
  have HD := Lib.hid hd
  have HN1 := Lib.hid hn1
  have HL := Lib.hid hl
  have HBIG := Lib.hid hbig
  clear hs hsz hd hn1 hl hbig
  go_enter Tryd.func58, Tryd.ntmps58
  go_wp2
  go_loopw [3, 4] (fun ov iv wr => ∃ j : Nat, j ≤ s.size ∧ iv = .int .i64 ((j : Int) - 1) ∧ Hid (wr.ownsRow w.heap.size 3 1 ov (ds.take (s.size - j)).length ((ds.take (s.size - j)).map dV)) ∧ Below w.heap.size w wr) (fun _ iv _ => (intOf iv + 1).toNat)
  case atStart => exact ⟨s.size, Nat.le_refl _, by simp, Lib.hid (by rw [Nat.sub_self]; exact World.ownsRow_nil _ _ _ _), by first | exact Below.refl _ _ | go_grown⟩
  case round =>
    obtain ⟨j, hj, rfl, hown, hbw⟩ := hrel
    rcases j with _ | j
    · have hown0 := hown.out
      rw [Nat.sub_zero, List.take_of_length_le HBIG.out] at hown0
      obtain ⟨A, c, hv, hc1, hc2, hc3⟩ := owns_IsD hown0
      have HO := Lib.hid hown0
      have HC3 := Lib.hid hc3
      clear hown0 hown hc3
      subst hv
      go_wp2_with fail
      refine (rtrim_walk _ _ _ ds _ rfl hc1 hc2 HC3.out HD.out).mono ?_
      rintro e w2 ⟨rfl, hle2, rfl⟩
      go_wp2_with fail
      go_returns
      exact ⟨_, rfl, ⟨_, _, rfl, by omega, hc2, HC3.out.trimmed HD.out⟩, hbw⟩
    · have hj1 : ((j : Nat) : Int) < (s.size : Nat) := by omega
      have hby := byte_at HS.out HSZ.out HD.out (j := j) (by omega)
      obtain ⟨x, hx⟩ : ∃ x : Nat, s[j].toNat = x := ⟨_, rfl⟩
      rw [hx] at hby
      by_cases hk : s.size - (j + 1) < ds.length
      · rw [if_pos hk] at hby
        have hdb := HD.out (s.size - (j + 1))
        have hx1 : 48 ≤ ((x : Nat) : Int) := by omega
        have hx2 : ((x : Nat) : Int) ≤ 57 := by omega
        have hne : (((x : Nat) : Int) != 45) = true := by simp; omega
        have hlen : (ds.take (s.size - (j + 1))).length = s.size - (j + 1) := by rw [List.length_take]; omega
        have HK := Lib.hid hk
        have HBY := Lib.hid hby
        have HLEN := Lib.hid hlen
        clear hk hby hlen
        go_wp2_with (at_builtin; refine wpList_append_own _ rfl (.tmp 16) (.tmp 22) 67 rfl w.heap.size 3 i0 (.int .i64 0) 1 8 Tryd.underlying67 hi0 hz0 hz1 hz2 rfl (by decide) _ _ _ rfl (hown.out.alloc _) ⟨wr.heap.size, 0, none⟩ 1 1 [.int .i64 (((x : Nat) : Int) - 48)] rfl rfl ?c1 ?c2 ?c3 ?c4 ?c5 ?_)
        case c1 =>
          intro j u hj
          rcases j with _ | j
          · simp at hj; subst hj; simp [Addr.add]
          · simp at hj
        case c2 => intro u hu; simp at hu; subst hu; rfl
        case c3 => have := HN1.out; rw [HLEN.out]; unfold maxLen; omega
        case c4 => have := HN1.out; rw [HLEN.out]; omega
        case c5 =>
          have h1 := hbw.size
          have h3 := size_alloc wr (.cells #[.int .i64 (((x : Nat) : Int) - 48)] 3)
          omega
        · intro v' w1 hown' hgr hnn
          have HOWN' := Lib.hid hown'
          have HGR := Lib.hid hgr
          clear hown' hgr hnn
          go_wp2_with fail
          go_roundw
          case rel =>
            refine ⟨j, by omega, by first | rfl | (congr 1; omega), Lib.hid ?_, ?_⟩
            · have h0 := HOWN'.out
              have e1 : s.size - j = s.size - (j + 1) + 1 := by omega
              rw [e1, List.length_take, Nat.min_eq_left (by have := HK.out; omega), take_succ_dV HK.out]
              rw [Nat.min_eq_left (by have := HK.out; omega), ← List.map_take] at h0
              have e2 : ((x : Nat) : Int) - 48 = (dg ds (s.size - (j + 1)) : Nat) := by have := HBY.out; omega
              rw [e2] at h0
              exact h0
            · have h1 := (boxes1 wr (.cells #[.int .i64 (((x : Nat) : Int) - 48)] 3)).2.2
              have h2 := hbw.trans (h1.mono hbw.size)
              refine h2.grown HGR.out h2.size ?_
              intro k hk
              have := (hown.out.lt k hk).1
              omega
          case measure => first | (simp [intOf]; done) | (simp [intOf]; omega)
      · rw [if_neg hk] at hby
        have hne : (((x : Nat) : Int) != 45) = false := by simp; omega
        have HK := Lib.hid hk
        have HBY := Lib.hid hby
        clear hk hby
        go_wp2_with fail
        go_roundw
        case rel =>
          refine ⟨j, by omega, by first | rfl | (congr 1; omega), Lib.hid ?_, hbw⟩
          have h0 := hown.out
          rw [List.take_of_length_le (by have := HK.out; omega)] at h0 ⊢
          exact h0
        case measure => first | (simp [intOf]; done) | (simp [intOf]; omega)

/-- The digits of an integer's text. -/
theorem rdigits_walk (a : Int) (w : World) (hl : (T.digs a.natAbs).length < 1099511627776) :
    Calls Tryd.prog 58 #[.string (txt a)] w fun e w' => ∃ v, e = .returned v ∧ IsD w' v (T.digs a.natAbs) ∧ Below w.heap.size w w' := by
  by_cases h0 : a = 0
  · subst h0
    have := rdigits_any (txt 0) [0] false w (by rw [txt_list, itoa_zero]; rfl) (T.Dig.cons (by omega) T.Dig.nil) (by simp)
    rw [show T.val [0] = 0 from rfl] at this
    exact this
  · have hp : 0 < a.natAbs := by omega
    have := rdigits_any (txt a) (T.digs a.natAbs) (decide (a < 0)) w (by
      rw [txt_list, ← itoa_of _ _ hp]
      congr 1
      by_cases h : a < 0
      · rw [decide_eq_true h, if_pos rfl]; omega
      · rw [decide_eq_false h, if_neg (by simp)]; omega) (T.dig_digs _) (by omega)
    rw [T.val_digs] at this
    exact this
end Go.Proofs.YtjeaemoiafamaaaDoor

/- dowelref01.text: the text of a sign and digits. -/
namespace Go.Proofs.YtjeaemoiafamaaaDoor
open Go.RowKit

/-- A byte as a value. -/
def bV (c : UInt8) : Value := .int .u8 (c.toNat : Nat)
theorem info8 : (Tryd.prog.info? 5).map (fun i => (i.zero, i.size, i.bytes)) = some (some (.int .u8 0), 1, 1) := by kernel_rfl

theorem owns_conv {w : World} {base : Nat} {v : Value} {l : List UInt8} (h : w.ownsRow base 5 1 v l.length (l.map bV)) :
    (convert 37 9 v).run Tryd.prog w = .ok (.string ⟨l.toArray⟩) w := by
  rcases h.2 with ⟨rfl, h'⟩ | ⟨g, cap, cur, rfl, _, hg, h1, h2, hs, ht⟩
  · have hl : l = [] := by simpa using h'
    subst hl
    rw [run_convert_bytes_string w 37 9 5 none 0 0 Tryd.underlying37 Tryd.underlying5 Tryd.underlying9]
    rfl
  · refine run_convert_bytes_back (P := Tryd.prog) w 37 9 5 ⟨g, 0, none⟩ cap l Tryd.underlying37 Tryd.underlying5 Tryd.underlying9 (fun j hj => ?_)
    rw [Addr.add_lit, Nat.zero_add, World.ownsRow.cellAt h j (by omega)]
    simp [hj, bV]

theorem txt_sgn (neg : Bool) (n : Nat) (h : 0 < n) : txt (sgn neg n) = ⟨((if neg then [45] else []) ++ (T.digs n).reverse.map chr).toArray⟩ := by
  unfold txt sgn
  rw [itoa_of neg n h]

set_option maxHeartbeats 800000 in
theorem rtext_walk (neg : Bool) (v : Value) (l : List Nat) (w : World) (h : IsD w v l) (hd : T.Dig l) (hl : l.length ≤ 1099511627776) :
    Calls Tryd.prog 51 #[.bool neg, v] w fun e w' => e = .returned (.string (txt (sgn neg (T.val l)))) ∧ Below w.heap.size w w' := by
  obtain ⟨i0, hi0, hz0, hz1, hz2⟩ := info_parts info8
  obtain ⟨A, c, rfl, hc, hcm, hD⟩ := h
  obtain ⟨ds, hds⟩ : ∃ ds, ds = T.digs (T.val l) := ⟨_, rfl⟩
  have hdt := hD.trimmed hd
  have hdl := (T.digs_val_take hd).1
  have hdd := T.dig_digs (T.val l)
  rw [← hds] at hdt hdl hdd
  have hnil : ds.length = 0 ↔ T.val l = 0 := by rw [hds]; exact T.digs_len_zero
  have HD := Lib.hid hD
  have HDT := Lib.hid hdt
  have HDD := Lib.hid hdd
  have HDS := Lib.hid hds
  have HL := Lib.hid hl
  have HDIG := Lib.hid hd
  have HC := Lib.hid hc
  have HCM := Lib.hid hcm
  have HNIL := Lib.hid hnil
  have HDL := Lib.hid hdl
  clear hD hdt hdd hds hd hnil hl hdl hc hcm
  obtain ⟨S, hS⟩ : ∃ S, S = txt (sgn neg (T.val l)) := ⟨_, rfl⟩
  rw [← hS]
  have HSS := Lib.hid hS
  clear hS
  go_enter Tryd.func51, Tryd.ntmps51
  go_wp2_with fail
  refine (rtrim_walk A l.length c l _ rfl HC.out HCM.out HD.out HDIG.out).mono ?_
  rintro e w2 ⟨rfl, hle, rfl⟩
  rw [← HDS.out] at hle
  rw [← HDS.out]
  clear hle
  by_cases hz : ds.length = 0
  · have hz' : (((ds.length : Nat) : Int) == 0) = true := by rw [hz]; rfl
    have ht : S = ⟨#[48]⟩ := by
      rw [HSS.out, HNIL.out.1 hz]
      unfold sgn
      cases neg <;> (unfold txt; simp [itoa_zero])
    subst ht
    clear hz
    go_wp2_with fail
    go_returns
    exact ⟨rfl, by first | exact Below.refl _ _ | go_grown⟩
  · have hz' : (((ds.length : Nat) : Int) == 0) = false := by rw [beq_eq_false_iff_ne]; omega
    have hp : 0 < T.val l := by have := HNIL.out; omega
    have ht := txt_sgn neg (T.val l) hp
    rw [← HDS.out, ← HSS.out] at ht
    have HT := Lib.hid ht
    have hdm : ds.length ≤ 9223372036854775807 := by have := HDL.out; have := HL.out; omega
    have hdb : ds.length ≤ 1099511627776 := by have := HDL.out; have := HL.out; omega
    have HDB := Lib.hid hdb
    clear hz ht hp hdb
    have htop : ds.drop ds.length = [] := List.drop_eq_nil_of_le (Nat.le_refl _)
    have HTOP := Lib.hid htop
    clear htop
    cases neg
    · go_wp2_with fail
      have start : ∃ pre : List UInt8, pre.length ≤ 1 ∧ S = ⟨(pre ++ ds.reverse.map chr).toArray⟩ ∧ w.ownsRow w.heap.size 5 1 (.slice none 0 0) pre.length (pre.map bV) ∧ Below w.heap.size w w :=
        ⟨[], by simp, HT.out, World.ownsRow_nil _ _ _ _, Below.refl _ _⟩
      obtain ⟨pre, hpre, hS2, hown0, hbw0⟩ := start
      have HPRE := Lib.hid hpre
      have HS2 := Lib.hid hS2
      have HOWN0 := Lib.hid hown0
      have HBW0 := Lib.hid hbw0
      clear hpre hS2 hown0 hbw0
      go_loopw [5, 6] (fun ov iv wr => ∃ j : Nat, j ≤ ds.length ∧ iv = .int .i64 ((j : Int) - 1) ∧ Hid (wr.ownsRow w.heap.size 5 1 ov (pre ++ (ds.drop j).reverse.map chr).length ((pre ++ (ds.drop j).reverse.map chr).map bV)) ∧ Hid (Below w.heap.size w wr)) (fun _ iv _ => (intOf iv + 1).toNat)
      case atStart => exact ⟨ds.length, Nat.le_refl _, rfl, Lib.hid (by rw [HTOP.out]; simpa using HOWN0.out), HBW0⟩
      case round =>
        obtain ⟨j, hj, rfl, hown, hbw⟩ := hrel
        rcases j with _ | j
        · have hconv := owns_conv hown.out
          rw [List.drop_zero, ← HS2.out] at hconv
          go_wp2_with fail
          go_returns
          exact ⟨rfl, hbw.out⟩
        · have hj1 : ((j : Nat) : Int) < (ds.length : Nat) := by omega
          obtain ⟨b, off, hA, hbb, hcell⟩ := Cells.at_ HDT.out (by omega)
          have hcj := ((bbelow hbw.out).1 b (off + j) hbb).trans (hcell j (by omega))
          have hd10 : ((dg ds j : Nat) : Int) < 10 := by have := HDD.out j; omega
          have hlen : (pre ++ (ds.drop (j + 1)).reverse.map chr).length ≤ 1099511627777 := by
            have := HPRE.out; have := HDB.out
            rw [List.length_append, List.length_map, List.length_reverse, List.length_drop]; omega
          have hdrop : (ds.drop j).reverse.map chr = (ds.drop (j + 1)).reverse.map chr ++ [chr (dg ds j)] := by
            rw [List.drop_eq_getElem_cons (by omega), List.reverse_cons, List.map_append, dg_lt (by omega)]; rfl
          have HDROP := Lib.hid hdrop
          have HLEN := Lib.hid hlen
          subst hA
          clear hcell hdrop hlen
          go_wp2_with (at_builtin; refine wpList_append_own _ rfl (.tmp 23) (.tmp 30) 37 rfl w.heap.size 5 i0 (.int .u8 0) 1 1 Tryd.underlying37 hi0 hz0 hz1 hz2 rfl (by decide) _ _ _ rfl (hown.out.alloc _) ⟨wr.heap.size, 0, none⟩ 1 1 [.int .u8 (48 + ((dg ds j : Nat) : Int))] rfl rfl ?d1 ?d2 ?d3 ?d4 ?d5 ?_)
          case d1 =>
            intro i u hj
            rcases i with _ | i
            · simp at hj; subst hj; simp [Addr.add]
            · simp at hj
          case d2 => intro u hu; simp at hu; subst hu; rfl
          case d3 => have := HLEN.out; unfold maxLen; omega
          case d4 => have := HLEN.out; omega
          case d5 =>
            have h1 := hbw.out.size
            have h3 := size_alloc wr (.cells #[.int .u8 (48 + ((dg ds j : Nat) : Int))] 5)
            omega
          intro v2 w2 hown2 hgr2 hnn2
          have HOWN2 := Lib.hid hown2
          have HGR2 := Lib.hid hgr2
          clear hown2 hgr2 hnn2
          go_wp2_with fail
          go_roundw
          case rel =>
            refine ⟨j, by omega, by first | rfl | (congr 1; omega), Lib.hid ?_, Lib.hid ?_⟩
            · have h0 := HOWN2.out
              rw [HDROP.out, ← List.append_assoc]
              have e2 : (Value.int .u8 (48 + ((dg ds j : Nat) : Int))) = bV (chr (dg ds j)) := by
                unfold bV; rw [chr_toNat (by omega)]; simp
              rw [e2] at h0
              simpa [Nat.add_assoc] using h0
            · have h1 := (boxes1 wr (.cells #[.int .u8 (48 + ((dg ds j : Nat) : Int))] 5)).2.2
              have h2 := hbw.out.trans (h1.mono hbw.out.size)
              refine h2.grown HGR2.out h2.size ?_
              intro k hk
              have := (hown.out.lt k hk).1
              omega
          case measure => first | (simp [intOf]; done) | (simp [intOf]; omega)
    · go_wp2_with (at_builtin; refine wpList_append_own _ rfl (.tmp 13) (.tmp 14) 37 rfl w.heap.size 5 i0 (.int .u8 0) 1 1 Tryd.underlying37 hi0 hz0 hz1 hz2 rfl (by decide) _ _ _ rfl (World.ownsRow_nil _ _ _ _) ⟨w.heap.size, 0, none⟩ 1 1 [.int .u8 45] rfl rfl ?c1 ?c2 ?c3 ?c4 ?c5 ?_)
      case c1 =>
        intro j u hj
        rcases j with _ | j
        · simp at hj; subst hj; simp [Addr.add]
        · simp at hj
      case c2 => intro u hu; simp at hu; subst hu; rfl
      case c3 => unfold maxLen; omega
      case c4 => omega
      case c5 => simp
      intro v' w1 hown' hgr hnn
      have start : ∃ pre : List UInt8, pre.length ≤ 1 ∧ S = ⟨(pre ++ ds.reverse.map chr).toArray⟩ ∧ w1.ownsRow w.heap.size 5 1 v' pre.length (pre.map bV) ∧ Below w.heap.size w w1 :=
        ⟨[45], by simp, HT.out, hown', ((boxes1 w (.cells #[.int .u8 45] 5)).2.2).grown hgr (by simp) (fun k hk => by simp [Value.ownBlock] at hk)⟩
      clear hown' hgr hnn
      go_wp2_with fail
      obtain ⟨pre, hpre, hS2, hown0, hbw0⟩ := start
      have HPRE := Lib.hid hpre
      have HS2 := Lib.hid hS2
      have HOWN0 := Lib.hid hown0
      have HBW0 := Lib.hid hbw0
      clear hpre hS2 hown0 hbw0
      go_loopw [5, 6] (fun ov iv wr => ∃ j : Nat, j ≤ ds.length ∧ iv = .int .i64 ((j : Int) - 1) ∧ Hid (wr.ownsRow w.heap.size 5 1 ov (pre ++ (ds.drop j).reverse.map chr).length ((pre ++ (ds.drop j).reverse.map chr).map bV)) ∧ Hid (Below w.heap.size w wr)) (fun _ iv _ => (intOf iv + 1).toNat)
      case atStart => exact ⟨ds.length, Nat.le_refl _, rfl, Lib.hid (by rw [HTOP.out]; simpa using HOWN0.out), HBW0⟩
      case round =>
        obtain ⟨j, hj, rfl, hown, hbw⟩ := hrel
        rcases j with _ | j
        · have hconv := owns_conv hown.out
          rw [List.drop_zero, ← HS2.out] at hconv
          go_wp2_with fail
          go_returns
          exact ⟨rfl, hbw.out⟩
        · have hj1 : ((j : Nat) : Int) < (ds.length : Nat) := by omega
          obtain ⟨b, off, hA, hbb, hcell⟩ := Cells.at_ HDT.out (by omega)
          have hcj := ((bbelow hbw.out).1 b (off + j) hbb).trans (hcell j (by omega))
          have hd10 : ((dg ds j : Nat) : Int) < 10 := by have := HDD.out j; omega
          have hlen : (pre ++ (ds.drop (j + 1)).reverse.map chr).length ≤ 1099511627777 := by
            have := HPRE.out; have := HDB.out
            rw [List.length_append, List.length_map, List.length_reverse, List.length_drop]; omega
          have hdrop : (ds.drop j).reverse.map chr = (ds.drop (j + 1)).reverse.map chr ++ [chr (dg ds j)] := by
            rw [List.drop_eq_getElem_cons (by omega), List.reverse_cons, List.map_append, dg_lt (by omega)]; rfl
          have HDROP := Lib.hid hdrop
          have HLEN := Lib.hid hlen
          subst hA
          clear hcell hdrop hlen
          go_wp2_with (at_builtin; refine wpList_append_own _ rfl (.tmp 23) (.tmp 30) 37 rfl w.heap.size 5 i0 (.int .u8 0) 1 1 Tryd.underlying37 hi0 hz0 hz1 hz2 rfl (by decide) _ _ _ rfl (hown.out.alloc _) ⟨wr.heap.size, 0, none⟩ 1 1 [.int .u8 (48 + ((dg ds j : Nat) : Int))] rfl rfl ?d1 ?d2 ?d3 ?d4 ?d5 ?_)
          case d1 =>
            intro i u hj
            rcases i with _ | i
            · simp at hj; subst hj; simp [Addr.add]
            · simp at hj
          case d2 => intro u hu; simp at hu; subst hu; rfl
          case d3 => have := HLEN.out; unfold maxLen; omega
          case d4 => have := HLEN.out; omega
          case d5 =>
            have h1 := hbw.out.size
            have h3 := size_alloc wr (.cells #[.int .u8 (48 + ((dg ds j : Nat) : Int))] 5)
            omega
          intro v2 w2 hown2 hgr2 hnn2
          have HOWN2 := Lib.hid hown2
          have HGR2 := Lib.hid hgr2
          clear hown2 hgr2 hnn2
          go_wp2_with fail
          go_roundw
          case rel =>
            refine ⟨j, by omega, by first | rfl | (congr 1; omega), Lib.hid ?_, Lib.hid ?_⟩
            · have h0 := HOWN2.out
              rw [HDROP.out, ← List.append_assoc]
              have e2 : (Value.int .u8 (48 + ((dg ds j : Nat) : Int))) = bV (chr (dg ds j)) := by
                unfold bV; rw [chr_toNat (by omega)]; simp
              rw [e2] at h0
              simpa [Nat.add_assoc] using h0
            · have h1 := (boxes1 wr (.cells #[.int .u8 (48 + ((dg ds j : Nat) : Int))] 5)).2.2
              have h2 := hbw.out.trans (h1.mono hbw.out.size)
              refine h2.grown HGR2.out h2.size ?_
              intro k hk
              have := (hown.out.lt k hk).1
              omega
          case measure => first | (simp [intOf]; done) | (simp [intOf]; omega)
end Go.Proofs.YtjeaemoiafamaaaDoor

/- dowelref01.order: compares two lists of digits. -/
namespace Go.Proofs.YtjeaemoiafamaaaDoor
open Go.RowKit

theorem rorder_lists (A B : Option Addr) (ca cb : Nat) (la lb : List Nat) (w : World) (ha : D64 w A la) (hb : D64 w B lb) (hca : T.Can la) (hcb : T.Can lb) (hla : la.length < 17592186044416) (_hlb : lb.length < 17592186044416) :
    Calls Tryd.prog 61 #[.slice A la.length ca, .slice B lb.length cb] w fun e w' => e = .returned (.int .i64 (ordN (T.val la) (T.val lb))) ∧ Drew w w' := by
  have HCA := Lib.hid hca
  have HCB := Lib.hid hcb
  clear hca hcb
  obtain ⟨fin, hfin⟩ : ∃ fin, fin = ordN (T.val la) (T.val lb) := ⟨_, rfl⟩
  rw [← hfin]
  have HF := Lib.hid hfin
  clear hfin
  by_cases hne : la.length = lb.length
  · have hne' : (((la.length : Nat) : Int) != (lb.length : Nat)) = false := by rw [hne]; simp
    have HNE := Lib.hid hne
    clear hne
    go_enter Tryd.func61, Tryd.ntmps61
    go_wp2_with fail
    go_loopw [5] (fun v wr => ∃ k : Nat, k ≤ la.length ∧ v = .int .i64 ((k : Int) - 1) ∧ Hid (∀ j, k ≤ j → j < la.length → dg la j = dg lb j) ∧ Drew w wr) (fun v _ => (intOf v + 1).toNat)
    case atStart => exact ⟨la.length, Nat.le_refl _, rfl, fun j h1 h2 => absurd h1 (by omega), Drew.refl _⟩
    case round =>
      obtain ⟨k, hk, rfl, hz, hw⟩ := hrel
      obtain ⟨m, rfl⟩ := hw
      rcases k with _ | k
      · go_wp2_with fail
        go_returns
        refine ⟨?_, Drew.mk _ _⟩
        have : T.val la = T.val lb := T.val_eq_of_dg HNE.out (fun j hj => hz.out j (Nat.zero_le _) hj)
        rw [HF.out, ordN, if_neg (by omega), if_pos this]; rfl
      · obtain ⟨b1, off1, rfl, hb1, hcell1⟩ := Cells.at_ ha (by omega)
        obtain ⟨b2, off2, rfl, hb2, hcell2⟩ := Cells.at_ hb (by have := HNE.out; omega)
        have hc1 := hcell1 k (by omega)
        have hc2 := hcell2 k (by have := HNE.out; omega)
        have h1 : ((k : Nat) : Int) < (la.length : Nat) := by omega
        have h2 : ((k : Nat) : Int) < (lb.length : Nat) := by have := HNE.out; omega
        clear hcell1 hcell2 hne'
        by_cases hlt : dg la k < dg lb k
        · have HL := Lib.hid hlt
          go_wp2_with fail
          go_quiet (fail)
          go_wp2_with fail
          go_returns
          refine ⟨?_, (Drew.mk _ _).step _⟩
          have := T.val_lt_of_dg HCA.out.1 HNE.out (by omega) (fun j h3 h4 => hz.out j (by omega) h4) HL.out
          rw [HF.out, ordN, if_pos this]; rfl
        · by_cases hgt : dg lb k < dg la k
          · have HL := Lib.hid hgt
            go_wp2_with fail
            go_quiet (fail)
            go_wp2_with fail
            go_quiet (fail)
            go_wp2_with fail
            go_returns
            refine ⟨?_, ((Drew.mk _ _).step _).step _⟩
            have h7 := HNE.out
            have := T.val_lt_of_dg (k := k) HCB.out.1 HNE.out.symm (by omega) (fun j h3 h4 => (hz.out j (by omega) (by omega)).symm) HL.out
            rw [HF.out, ordN, if_neg (by omega), if_neg (by omega)]; rfl
          · have HD : Hid (dg la k = dg lb k) := Lib.hid (by omega)
            go_wp2_with fail
            go_quiet (fail)
            go_wp2_with fail
            go_quiet (fail)
            go_wp2_with fail
            go_roundw
            case rel =>
              refine ⟨k, by omega, rfl, fun j h3 h4 => ?_, Drew.mk _ _⟩
              by_cases hj : j = k
              · rw [hj]; exact HD.out
              · exact hz.out j (by omega) h4
            case measure => first | (simp [intOf]; done) | (simp [intOf]; omega)
  · have HNE := Lib.hid hne
    have hne' : (((la.length : Nat) : Int) != (lb.length : Nat)) = true := by simp; omega
    clear hne
    by_cases hlt : la.length < lb.length
    · go_enter Tryd.func61, Tryd.ntmps61
      go_wp2_with fail
      go_returns
      refine ⟨?_, Drew.refl _⟩
      have := T.val_lt_of_len HCA.out.1 HCB.out hlt
      rw [HF.out, ordN, if_pos this]; rfl
    · go_enter Tryd.func61, Tryd.ntmps61
      go_wp2_with fail
      go_returns
      refine ⟨?_, Drew.refl _⟩
      have h2 := HNE.out
      have := T.val_lt_of_len HCB.out.1 HCA.out (by omega)
      rw [HF.out, ordN, if_neg (by omega), if_neg (by omega)]; rfl

theorem rorder_walk (v1 v2 : Value) (a b : Nat) (w : World) (h1 : IsD w v1 (T.digs a)) (h2 : IsD w v2 (T.digs b)) (hla : (T.digs a).length < 17592186044416) (hlb : (T.digs b).length < 17592186044416) :
    Calls Tryd.prog 61 #[v1, v2] w fun e w' => e = .returned (.int .i64 (ordN a b)) ∧ Drew w w' := by
  obtain ⟨A, ca, rfl, _, _, ha⟩ := h1
  obtain ⟨B, cb, rfl, _, _, hb⟩ := h2
  have := rorder_lists A B ca cb _ _ w ha hb (T.can_digs a) (T.can_digs b) hla hlb
  rw [T.val_digs, T.val_digs] at this
  exact this
end Go.Proofs.YtjeaemoiafamaaaDoor

/- dowelref01.minus: the difference of two lists of digits, of which the first one is not less. -/
namespace Go.Proofs.YtjeaemoiafamaaaDoor
open Go.RowKit

theorem take_snoc_of {lo : List Nat} {k x : Nat} (h : lo.length = k) : T.val ((lo ++ [x]).take (k + 1)) = T.val lo + T.BB ^ k * x := by
  rw [List.take_of_length_le (by simp [h]), T.val_append, h]; simp [T.val]
theorem Dig_snoc {lo : List Nat} {x : Nat} (h : T.Dig lo) (hx : x < 10) : T.Dig (lo ++ [x]) := T.Dig.append h (T.Dig.cons hx T.Dig.nil)
theorem rminus_step {lo la lb : List Nat} {k c c' x : Nat} (hk : lo.length = k) (h : T.val (la.take k) + T.BB ^ k * c = T.val lo + T.val (lb.take k)) (hs : dg la k + 10 * c' = x + c + dg lb k) :
    T.val (la.take (k + 1)) + T.BB ^ (k + 1) * c' = T.val (lo ++ [x]) + T.val (lb.take (k + 1)) := by
  rw [T.val_append, hk, T.val_take_succ, T.val_take_succ, Nat.pow_succ]
  have e : T.BB ^ k * (dg la k + 10 * c') = T.BB ^ k * (x + c + dg lb k) := by rw [hs]
  rw [Nat.mul_add, Nat.mul_add, Nat.mul_add, ← Nat.mul_assoc] at e
  simp only [T.val, ← T.BB_eq, Nat.mul_zero, Nat.add_zero] at e ⊢
  omega

set_option maxHeartbeats 800000 in
theorem rminus_lists (A B : Option Addr) (ca cb : Nat) (la lb : List Nat) (w : World) (ha : D64 w A la) (hb : D64 w B lb) (hda : T.Dig la) (hdb : T.Dig lb) (hla : la.length < 1099511627776) (hlb : lb.length ≤ la.length) (hle : T.val lb ≤ T.val la) :
    Calls Tryd.prog 62 #[.slice A la.length ca, .slice B lb.length cb] w fun e w' => ∃ v, e = .returned v ∧ FreshD w.heap.size w' v (T.digs (T.val la - T.val lb)) ∧ Below w.heap.size w w' := by
  obtain ⟨i0, hi0, hz0, hz1, hz2⟩ := info_parts info64
  have HLE := Lib.hid hle
  have HLB := Lib.hid hlb
  have hlam : la.length ≤ 9223372036854775807 := by omega
  have hlbm : lb.length ≤ 9223372036854775807 := by omega
  have HLA := Lib.hid hla
  have HA := Lib.hid ha
  have HB := Lib.hid hb
  have HDA := Lib.hid hda
  have HDB := Lib.hid hdb
  clear hle hlb hla ha hb hda hdb
  go_enter Tryd.func62, Tryd.ntmps62
  go_wp2_with fail
  go_loopw [5, 6, 7] (fun ov cv iv wr => ∃ (k c : Nat) (lo : List Nat), k ≤ la.length ∧ cv = .int .i64 c ∧ iv = .int .i64 k ∧ lo.length = k ∧ Hid (Owns1 wr w.heap.size 3 ov (lo.map dV)) ∧ Hid (T.Dig lo) ∧ ((c : Nat) : Int) ≤ 1 ∧ Hid (T.val (la.take k) + T.BB ^ k * c = T.val lo + T.val (lb.take k)) ∧ Hid (Below w.heap.size w wr))
    (fun _ _ iv _ => la.length - (intOf iv).toNat)
  case atStart => exact ⟨0, 0, [], Nat.zero_le _, rfl, rfl, rfl, Lib.hid (Owns1.nil _ _ _), Lib.hid T.Dig.nil, by omega, Lib.hid (by simp [T.val]), Lib.hid (by first | exact Below.refl _ _ | go_grown)⟩
  case round =>
    obtain ⟨k, c, lo, hk, rfl, rfl, hlo, hown, hdlo, hc1, hinv, hbw⟩ := hrel
    have HLO := Lib.hid hlo
    clear hlo
    by_cases hkl : ((k : Nat) : Int) < (la.length : Nat)
    · obtain ⟨b, off, rfl, hbb, hcell⟩ := Cells.at_ HA.out (by omega)
      have hcx := ((bbelow hbw.out).1 b (off + k) hbb).trans (hcell k (by omega))
      have hbx : ((dg la k : Nat) : Int) < 10 := by have := HDA.out k; omega
      have hby : ((dg lb k : Nat) : Int) < 10 := by have := HDB.out k; omega
      clear hcell
      have c3 : ((lo.map dV).length + 1 ≤ maxLen) ∧ ((lo.map dV).length + 1) * 8 ≤ 140737488355328 := by
        have := HLA.out; have := HLO.out; rw [List.length_map]; unfold maxLen; omega
      have C3 := Lib.hid c3
      clear c3
      have fin : ∀ (n2 : Int) (v' : Value) (w1 : World) (c' x : Nat), n2 = (x : Nat) → Owns1 w1 w.heap.size 3 v' (lo.map dV ++ [.int .i64 n2]) → Below w.heap.size wr w1 → x < 10 → dg la k + 10 * c' = x + c + dg lb k →
          Hid (Owns1 w1 w.heap.size 3 v' ((lo ++ [x]).map dV)) ∧ Hid (T.Dig (lo ++ [x])) ∧ Hid (T.val (la.take (k + 1)) + T.BB ^ (k + 1) * c' = T.val (lo ++ [x]) + T.val (lb.take (k + 1))) ∧ Hid (Below w.heap.size w w1) := by
        intro n2 v' w1 c' x hn how hgr hx hs
        subst hn
        refine ⟨Lib.hid ?_, Lib.hid (Dig_snoc hdlo.out hx), Lib.hid (rminus_step HLO.out hinv.out hs), Lib.hid (hbw.out.trans hgr)⟩
        rw [List.map_append]; exact how
      have FIN := Lib.hid fin
      clear fin
      by_cases hky : ((k : Nat) : Int) < (lb.length : Nat)
      · obtain ⟨b2, off2, rfl, hb2, hcell2⟩ := Cells.at_ HB.out (by omega)
        have hcy := ((bbelow hbw.out).1 b2 (off2 + k) hb2).trans (hcell2 k (by omega))
        clear hcell2
        obtain ⟨n1, hn1⟩ : ∃ n : Int, ((dg la k : Nat) : Int) - (c : Nat) = n := ⟨_, rfl⟩
        obtain ⟨n2, hn2⟩ : ∃ n : Int, n1 - ((dg lb k : Nat) : Int) = n := ⟨_, rfl⟩
        have hb1' : -11 < n2 := by omega
        have hb2' : n2 < 10 := by omega
        have hb3' : -2 < n1 := by omega
        have hb4' : n1 < 10 := by omega
        by_cases hneg : n2 < 0
        · go_wp2_with (at_builtin; refine wpList_app1 _ rfl (.tmp 35) (.tmp 37) 67 rfl w.heap.size 3 i0 (.int .i64 0) 8 Tryd.underlying67 hi0 hz0 hz1 hz2 rfl _ _ rfl hown.out (.int .i64 (n2 + 10)) rfl rfl C3.out hbw.out.size ?_)
          intro v' w1 hown' hb1
          have hf := FIN.out (n2 + 10) v' w1 1 (n2 + 10).toNat (by omega) hown' hb1 (by omega) (by omega)
          have HF := Lib.hid hf
          clear hown' hb1 hf
          go_wp2_with fail
          go_roundw
          case rel => exact ⟨k + 1, 1, _, by omega, rfl, by go_num, by rw [List.length_append, HLO.out]; rfl, HF.out.1, HF.out.2.1, by omega, HF.out.2.2.1, HF.out.2.2.2⟩
          case measure => simp [intOf]; omega
        · go_wp2_with (at_builtin; refine wpList_app1 _ rfl (.tmp 35) (.tmp 37) 67 rfl w.heap.size 3 i0 (.int .i64 0) 8 Tryd.underlying67 hi0 hz0 hz1 hz2 rfl _ _ rfl hown.out (.int .i64 n2) rfl rfl C3.out hbw.out.size ?_)
          intro v' w1 hown' hb1
          have hf := FIN.out n2 v' w1 0 n2.toNat (by omega) hown' hb1 (by omega) (by omega)
          have HF := Lib.hid hf
          clear hown' hb1 hf
          go_wp2_with fail
          go_roundw
          case rel => exact ⟨k + 1, 0, _, by omega, rfl, by go_num, by rw [List.length_append, HLO.out]; rfl, HF.out.1, HF.out.2.1, by omega, HF.out.2.2.1, HF.out.2.2.2⟩
          case measure => simp [intOf]; omega
      · have hy0 : dg lb k = 0 := dg_ge (by omega)
        obtain ⟨n2, hn2⟩ : ∃ n : Int, ((dg la k : Nat) : Int) - (c : Nat) = n := ⟨_, rfl⟩
        have hb3' : -2 < n2 := by omega
        have hb4' : n2 < 10 := by omega
        have HY0 := Lib.hid hy0
        clear hy0 hby
        by_cases hneg : n2 < 0
        · go_wp2_with (at_builtin; refine wpList_app1 _ rfl (.tmp 35) (.tmp 37) 67 rfl w.heap.size 3 i0 (.int .i64 0) 8 Tryd.underlying67 hi0 hz0 hz1 hz2 rfl _ _ rfl hown.out (.int .i64 (n2 + 10)) rfl rfl C3.out hbw.out.size ?_)
          intro v' w1 hown' hb1
          have hf := FIN.out (n2 + 10) v' w1 1 (n2 + 10).toNat (by omega) hown' hb1 (by omega) (by have := HY0.out; omega)
          have HF := Lib.hid hf
          clear hown' hb1 hf
          go_wp2_with fail
          go_roundw
          case rel => exact ⟨k + 1, 1, _, by omega, rfl, by go_num, by rw [List.length_append, HLO.out]; rfl, HF.out.1, HF.out.2.1, by omega, HF.out.2.2.1, HF.out.2.2.2⟩
          case measure => simp [intOf]; omega
        · go_wp2_with (at_builtin; refine wpList_app1 _ rfl (.tmp 35) (.tmp 37) 67 rfl w.heap.size 3 i0 (.int .i64 0) 8 Tryd.underlying67 hi0 hz0 hz1 hz2 rfl _ _ rfl hown.out (.int .i64 n2) rfl rfl C3.out hbw.out.size ?_)
          intro v' w1 hown' hb1
          have hf := FIN.out n2 v' w1 0 n2.toNat (by omega) hown' hb1 (by omega) (by have := HY0.out; omega)
          have HF := Lib.hid hf
          clear hown' hb1 hf
          go_wp2_with fail
          go_roundw
          case rel => exact ⟨k + 1, 0, _, by omega, rfl, by go_num, by rw [List.length_append, HLO.out]; rfl, HF.out.1, HF.out.2.1, by omega, HF.out.2.2.1, HF.out.2.2.2⟩
          case measure => simp [intOf]; omega
    · have hkk : k = la.length := by omega
      have hinv' := hinv.out
      rw [hkk, T.val_take_of_le (Nat.le_refl _), T.val_take_of_le HLB.out] at hinv'
      have hend := T.minus_end (lo := lo) (c := c) hdlo.out HLE.out (by omega) (by rw [HLO.out, hkk]; exact hinv')
      have HO := Lib.hid hown.out.fresh
      have HEND := Lib.hid hend
      clear hinv' hend hkk
      go_wp2_with fail
      refine (rtrim_fresh _ _ lo _ HO.out hdlo.out).mono ?_
      rintro e w2 ⟨v3, rfl, hf3, rfl⟩
      rw [HEND.out] at hf3
      have HF3 := Lib.hid hf3
      clear hf3
      go_wp2_with fail
      go_returns
      exact ⟨_, rfl, HF3.out, hbw.out⟩

theorem rminus_fresh (v1 v2 : Value) (a b : Nat) (w : World) (h1 : IsD w v1 (T.digs a)) (h2 : IsD w v2 (T.digs b)) (hla : (T.digs a).length < 1099511627776) (hle : b ≤ a) :
    Calls Tryd.prog 62 #[v1, v2] w fun e w' => ∃ v, e = .returned v ∧ FreshD w.heap.size w' v (T.digs (a - b)) ∧ Below w.heap.size w w' := by
  obtain ⟨A, ca, rfl, _, _, ha⟩ := h1
  obtain ⟨B, cb, rfl, _, _, hb⟩ := h2
  have := rminus_lists A B ca cb _ _ w ha hb (T.dig_digs a) (T.dig_digs b) hla (T.digs_len_mono hle) (by rw [T.val_digs, T.val_digs]; exact hle)
  rw [T.val_digs, T.val_digs] at this
  exact this
theorem rminus_walk (v1 v2 : Value) (a b : Nat) (w : World) (h1 : IsD w v1 (T.digs a)) (h2 : IsD w v2 (T.digs b)) (hla : (T.digs a).length < 1099511627776) (hle : b ≤ a) :
    Calls Tryd.prog 62 #[v1, v2] w fun e w' => ∃ v, e = .returned v ∧ IsD w' v (T.digs (a - b)) ∧ Below w.heap.size w w' :=
  (rminus_fresh v1 v2 a b w h1 h2 hla hle).mono fun _ _ ⟨v, h1, h2, h3⟩ => ⟨v, h1, h2.isD, h3⟩
end Go.Proofs.YtjeaemoiafamaaaDoor

/- dowelref01.plus: the sum of two lists of digits. -/
namespace Go.Proofs.YtjeaemoiafamaaaDoor
open Go.RowKit

theorem rplus_step {lo la lb : List Nat} {k c s : Nat} (hk : lo.length = k) (h : T.val lo + T.BB ^ k * c = T.val (la.take k) + T.val (lb.take k)) (hs : s = c + dg la k + dg lb k) :
    T.val (lo ++ [s % 10]) + T.BB ^ (k + 1) * (s / 10) = T.val (la.take (k + 1)) + T.val (lb.take (k + 1)) := by
  rw [T.val_append, hk, T.val_take_succ, T.val_take_succ, Nat.pow_succ]
  have := T.pow_split (T.BB ^ k) s
  have e : T.BB ^ k * s = T.BB ^ k * c + T.BB ^ k * dg la k + T.BB ^ k * dg lb k := by rw [hs, Nat.mul_add, Nat.mul_add]
  simp only [T.val, Nat.mul_zero, Nat.add_zero]
  omega
theorem rfl_carry {n : Int} {s : Nat} (h : n = (s : Nat)) : Value.int .i64 (n / 10) = .int .i64 ((s / 10 : Nat) : Int) := by rw [h]; congr 1

set_option maxHeartbeats 1600000 in
theorem rplus_lists (A B : Option Addr) (ca cb : Nat) (la lb : List Nat) (w : World) (ha : D64 w A la) (hb : D64 w B lb) (hda : T.Dig la) (hdb : T.Dig lb) (hla : la.length < 1099511627776) (hlb : lb.length < 1099511627776) :
    Calls Tryd.prog 65 #[.slice A la.length ca, .slice B lb.length cb] w fun e w' => ∃ v, e = .returned v ∧ ∃ lr, IsD w' v lr ∧ T.Dig lr ∧ T.val lr = T.val la + T.val lb ∧ lr.length ≤ max la.length lb.length + 1 ∧ Below w.heap.size w w' := by
  obtain ⟨i0, hi0, hz0, hz1, hz2⟩ := info_parts info64
  obtain ⟨M, hM⟩ : ∃ M, M = max la.length lb.length := ⟨_, rfl⟩
  rw [← hM]
  have hlM1 : ((la.length : Nat) : Int) ≤ (M : Nat) := by omega
  have hlM2 : ((lb.length : Nat) : Int) ≤ (M : Nat) := by omega
  have hMm : M ≤ 9223372036854775806 := by omega
  have HMB : Hid (M < 1099511627776) := Lib.hid (by omega)
  have hMc : ((M : Nat) : Int) ≤ ((la.length : Nat) : Int) ∨ ((M : Nat) : Int) ≤ ((lb.length : Nat) : Int) := by omega
  have HMC := Lib.hid hMc
  have HM := Lib.hid hM
  have HA := Lib.hid ha
  have HB := Lib.hid hb
  have HDA := Lib.hid hda
  have HDB := Lib.hid hdb
  clear hM hla hlb ha hb hda hdb hMc
  go_enter Tryd.func65, Tryd.ntmps65
  go_wp2_with fail
  go_loopw [5, 6, 7] (fun ov cv iv wr => ∃ (k c : Nat) (lo : List Nat), ((k : Nat) : Int) ≤ (M : Nat) + 1 ∧ cv = .int .i64 c ∧ iv = .int .i64 k ∧ lo.length = k ∧ Hid (Owns1 wr w.heap.size 3 ov (lo.map dV)) ∧ Hid (T.Dig lo) ∧ ((c : Nat) : Int) ≤ 1 ∧ Hid (M < k → c = 0) ∧ Hid (T.val lo + T.BB ^ k * c = T.val (la.take k) + T.val (lb.take k)) ∧ Hid (Below w.heap.size w wr))
    (fun _ _ iv _ => M + 1 - (intOf iv).toNat)
  case atStart => exact ⟨0, 0, [], by omega, rfl, rfl, rfl, Lib.hid (Owns1.nil _ _ _), Lib.hid T.Dig.nil, by omega, Lib.hid (fun _ => rfl), Lib.hid (by simp [T.val]), Lib.hid (by first | exact Below.refl _ _ | go_grown)⟩
  case round =>
    obtain ⟨k, c, lo, hk, rfl, rfl, hlo, hown, hdlo, hc1, hcz, hinv, hbw⟩ := hrel
    have HLO := Lib.hid hlo
    clear hlo
    have c3 : ((lo.map dV).length + 1 ≤ maxLen) ∧ ((lo.map dV).length + 1) * 8 ≤ 140737488355328 := by
      have := HMB.out; have := HLO.out; rw [List.length_map]; unfold maxLen; omega
    have C3 := Lib.hid c3
    clear c3
    have hbx : ((dg la k : Nat) : Int) < 10 := by have := HDA.out k; omega
    have hby : ((dg lb k : Nat) : Int) < 10 := by have := HDB.out k; omega
    have fin : ∀ (n2 : Int) (v' : Value) (w1 : World), n2 = ((c + dg la k + dg lb k : Nat) : Int) → Owns1 w1 w.heap.size 3 v' (lo.map dV ++ [.int .i64 (n2 % 10)]) → Below w.heap.size wr w1 →
        Hid (Owns1 w1 w.heap.size 3 v' ((lo ++ [(c + dg la k + dg lb k) % 10]).map dV)) ∧ Hid (T.Dig (lo ++ [(c + dg la k + dg lb k) % 10])) ∧ Hid (M < k + 1 → (c + dg la k + dg lb k) / 10 = 0) ∧ Hid (T.val (lo ++ [(c + dg la k + dg lb k) % 10]) + T.BB ^ (k + 1) * ((c + dg la k + dg lb k) / 10) = T.val (la.take (k + 1)) + T.val (lb.take (k + 1))) ∧ Hid (Below w.heap.size w w1) := by
      intro n2 v' w1 hn how hgr
      refine ⟨Lib.hid ?_, Lib.hid (Dig_snoc hdlo.out (Nat.mod_lt _ (by decide))), Lib.hid ?_, Lib.hid (rplus_step HLO.out hinv.out rfl), Lib.hid (hbw.out.trans hgr)⟩
      · rw [List.map_append]
        have e : Value.int .i64 (n2 % 10) = dV ((c + dg la k + dg lb k) % 10) := by unfold dV; rw [hn]; congr 1
        rw [e] at how
        exact how
      · intro h
        have h1 : dg la k = 0 := dg_ge (by omega)
        have h2 : dg lb k = 0 := dg_ge (by omega)
        omega
    have FIN := Lib.hid fin
    clear fin
    by_cases hka : ((k : Nat) : Int) < (la.length : Nat)
    · by_cases hkb : ((k : Nat) : Int) < (lb.length : Nat)
      · obtain ⟨b, off, rfl, hbb, hcell⟩ := Cells.at_ HA.out (by omega)
        have hcx := ((bbelow hbw.out).1 b (off + k) hbb).trans (hcell k (by omega))
        clear hcell
        obtain ⟨b2, off2, rfl, hbb2, hcell2⟩ := Cells.at_ HB.out (by omega)
        have hcy := ((bbelow hbw.out).1 b2 (off2 + k) hbb2).trans (hcell2 k (by omega))
        clear hcell2
        obtain ⟨n1, hn1⟩ : ∃ n : Int, ((c : Nat) : Int) + ((dg la k : Nat) : Int) = n := ⟨_, rfl⟩
        obtain ⟨n2, hn2⟩ : ∃ n : Int, n1 + ((dg lb k : Nat) : Int) = n := ⟨_, rfl⟩
        have hq1 : 0 ≤ n1 := by omega
        have hq2 : n1 ≤ 10 := by omega
        have hr1 : 0 ≤ n2 := by omega
        have hr2 : n2 ≤ 19 := by omega
        have hs : n2 = ((c + dg la k + dg lb k : Nat) : Int) := by omega
        have HSS := Lib.hid hs
        clear hs
        go_wp2_with (at_builtin; refine wpList_app1 _ rfl (.tmp 46) (.tmp 49) 67 rfl w.heap.size 3 i0 (.int .i64 0) 8 Tryd.underlying67 hi0 hz0 hz1 hz2 rfl _ _ rfl hown.out (.int .i64 (n2 % 10)) rfl rfl C3.out hbw.out.size ?_)
        intro v' w1 hown' hb1
        have hf := FIN.out n2 v' w1 HSS.out hown' hb1
        have HF := Lib.hid hf
        clear hown' hb1 hf
        go_wp2_with fail
        go_roundw
        case rel => exact ⟨k + 1, (c + dg la k + dg lb k) / 10, _, by omega, rfl_carry HSS.out, by go_num, by rw [List.length_append, HLO.out]; rfl, HF.out.1, HF.out.2.1, by omega, HF.out.2.2.1, HF.out.2.2.2.1, HF.out.2.2.2.2⟩
        case measure => simp [intOf]; omega
      · obtain ⟨b, off, rfl, hbb, hcell⟩ := Cells.at_ HA.out (by omega)
        have hcx := ((bbelow hbw.out).1 b (off + k) hbb).trans (hcell k (by omega))
        clear hcell
        have HY0 : Hid (dg lb k = 0) := Lib.hid (dg_ge (by omega))
        obtain ⟨n1, hn1⟩ : ∃ n : Int, ((c : Nat) : Int) + ((dg la k : Nat) : Int) = n := ⟨_, rfl⟩
        have hq1 : 0 ≤ n1 := by omega
        have hq2 : n1 ≤ 10 := by omega
        have hs : n1 = ((c + dg la k + dg lb k : Nat) : Int) := by have := HY0.out; omega
        have HSS := Lib.hid hs
        clear hs
        go_wp2_with (at_builtin; refine wpList_app1 _ rfl (.tmp 46) (.tmp 49) 67 rfl w.heap.size 3 i0 (.int .i64 0) 8 Tryd.underlying67 hi0 hz0 hz1 hz2 rfl _ _ rfl hown.out (.int .i64 (n1 % 10)) rfl rfl C3.out hbw.out.size ?_)
        intro v' w1 hown' hb1
        have hf := FIN.out n1 v' w1 HSS.out hown' hb1
        have HF := Lib.hid hf
        clear hown' hb1 hf
        go_wp2_with fail
        go_roundw
        case rel => exact ⟨k + 1, (c + dg la k + dg lb k) / 10, _, by omega, rfl_carry HSS.out, by go_num, by rw [List.length_append, HLO.out]; rfl, HF.out.1, HF.out.2.1, by omega, HF.out.2.2.1, HF.out.2.2.2.1, HF.out.2.2.2.2⟩
        case measure => simp [intOf]; omega
    · by_cases hkb : ((k : Nat) : Int) < (lb.length : Nat)
      · obtain ⟨b2, off2, rfl, hbb2, hcell2⟩ := Cells.at_ HB.out (by omega)
        have hcy := ((bbelow hbw.out).1 b2 (off2 + k) hbb2).trans (hcell2 k (by omega))
        clear hcell2
        have HX0 : Hid (dg la k = 0) := Lib.hid (dg_ge (by omega))
        obtain ⟨n2, hn2⟩ : ∃ n : Int, ((c : Nat) : Int) + ((dg lb k : Nat) : Int) = n := ⟨_, rfl⟩
        have hr1 : 0 ≤ n2 := by omega
        have hr2 : n2 ≤ 19 := by omega
        have hs : n2 = ((c + dg la k + dg lb k : Nat) : Int) := by have := HX0.out; omega
        have HSS := Lib.hid hs
        clear hs
        go_wp2_with (at_builtin; refine wpList_app1 _ rfl (.tmp 46) (.tmp 49) 67 rfl w.heap.size 3 i0 (.int .i64 0) 8 Tryd.underlying67 hi0 hz0 hz1 hz2 rfl _ _ rfl hown.out (.int .i64 (n2 % 10)) rfl rfl C3.out hbw.out.size ?_)
        intro v' w1 hown' hb1
        have hf := FIN.out n2 v' w1 HSS.out hown' hb1
        have HF := Lib.hid hf
        clear hown' hb1 hf
        go_wp2_with fail
        go_roundw
        case rel => exact ⟨k + 1, (c + dg la k + dg lb k) / 10, _, by omega, rfl_carry HSS.out, by go_num, by rw [List.length_append, HLO.out]; rfl, HF.out.1, HF.out.2.1, by omega, HF.out.2.2.1, HF.out.2.2.2.1, HF.out.2.2.2.2⟩
        case measure => simp [intOf]; omega
      · by_cases hc0' : c = 1
        · have hkM : ((k : Nat) : Int) ≤ (M : Nat) := by
            rcases Nat.lt_or_ge M k with h | h
            · have := hcz.out h; omega
            · omega
          have HC1 := Lib.hid hc0'
          have HX0 : Hid (dg la k = 0) := Lib.hid (dg_ge (by omega))
          have HY0 : Hid (dg lb k = 0) := Lib.hid (dg_ge (by omega))
          obtain ⟨n2, hn2⟩ : ∃ n : Int, ((c : Nat) : Int) = n := ⟨_, rfl⟩
          have hc0 : (0 : Int) < n2 := by omega
          have hr2 : n2 ≤ 19 := by omega
          clear hc0'
          have hs : n2 = ((c + dg la k + dg lb k : Nat) : Int) := by have := HX0.out; have := HY0.out; omega
          have HSS := Lib.hid hs
          clear hs
          go_wp2_with (at_builtin; refine wpList_app1 _ rfl (.tmp 46) (.tmp 49) 67 rfl w.heap.size 3 i0 (.int .i64 0) 8 Tryd.underlying67 hi0 hz0 hz1 hz2 rfl _ _ rfl hown.out (.int .i64 (n2 % 10)) rfl rfl C3.out hbw.out.size ?_)
          intro v' w1 hown' hb1
          have hf := FIN.out n2 v' w1 HSS.out hown' hb1
          have HF := Lib.hid hf
          clear hown' hb1 hf
          go_wp2_with fail
          go_roundw
          case rel => exact ⟨k + 1, (c + dg la k + dg lb k) / 10, _, by omega, rfl_carry HSS.out, by go_num, by rw [List.length_append, HLO.out]; rfl, HF.out.1, HF.out.2.1, by omega, HF.out.2.2.1, HF.out.2.2.2.1, HF.out.2.2.2.2⟩
          case measure => simp [intOf]; omega
        · have hc00 : c = 0 := by omega
          subst hc00
          have hend := hinv.out
          rw [T.val_take_of_le (by omega), T.val_take_of_le (by omega), Nat.mul_zero, Nat.add_zero] at hend
          have HEND := Lib.hid hend
          clear hend
          have hd := hown.out.isD
          have HD := Lib.hid hd
          clear hd
          go_wp2_with fail
          go_returns
          exact ⟨_, rfl, lo, HD.out, hdlo.out, HEND.out, by have := HLO.out; omega, hbw.out⟩
end Go.Proofs.YtjeaemoiafamaaaDoor

/- dowelref01.Sign: the sign of a text. -/
namespace Go.Proofs.YtjeaemoiafamaaaDoor
open Go.RowKit

theorem txt_zero : txt 0 = ⟨#[48]⟩ := by unfold txt; rw [itoa_zero]
theorem txt_size (a : Int) : (txt a).size = (Lib.itoa a).length := by
  unfold txt
  show (Lib.itoa a).toArray.size = _
  rw [List.size_toArray]
theorem txt_pos (a : Int) : 0 < (txt a).size := by
  rw [txt_size]
  by_cases h : a < 0
  · rw [itoa_neg h]; simp
  · rw [itoa_nonneg' h]; exact dec_pos _
theorem txt_get (a : Int) (j : Nat) (h : j < (txt a).size) : (txt a)[j] = (Lib.itoa a)[j]'(by rw [← txt_size]; exact h) := rfl
/-- The walk's test whether two texts are one. -/
theorem txt_eq (a b : Int) : ((txt a).toList == (txt b).toList) = decide (a = b) := by
  rw [ByteArray.toList_eq, ByteArray.toList_eq, txt_list, txt_list]
  by_cases h : a = b
  · subst h; simp
  · rw [decide_eq_false h, beq_eq_false_iff_ne]
    exact fun e => h (itoa_inj e)
theorem txt_ne0 {a : Int} (h : a ≠ 0) : ((txt a).toList == [48]) = false := by
  have := txt_eq a 0
  rw [decide_eq_false h, txt_zero, ByteArray.toList_eq ⟨#[48]⟩] at this
  exact this
theorem txt_first_neg {a : Int} (h : a < 0) : (txt a)[0]'(txt_pos a) = 45 := by
  rw [txt_get]
  simp [itoa_neg h]
theorem txt_first_pos {a : Int} (h : ¬ a < 0) : isDg ((txt a)[0]'(txt_pos a)) = true := by
  rw [txt_get]
  refine dec_isDg a.natAbs _ ?_
  rw [← itoa_nonneg' h]
  exact List.getElem_mem _

theorem rsign_walk (a : Int) (w : World) :
    Calls Tryd.prog 33 #[.string (txt a)] w fun e w' => e = .returned (.int .i64 (sgI a)) ∧ w = w' := by
  by_cases h0 : a = 0
  · subst h0
    rw [txt_zero]
    go_enter Tryd.func33, Tryd.ntmps33
    go_wp2_with fail
    go_returns
    exact ⟨rfl, rfl⟩
  · have hne := txt_ne0 h0
    have hp := txt_pos a
    have hn := @txt_first_neg a
    have hq := @txt_first_pos a
    obtain ⟨S, hS⟩ : ∃ S, S = txt a := ⟨_, rfl⟩
    simp only [← hS] at hn hq hne hp ⊢
    obtain ⟨x, hx⟩ : ∃ x : Nat, (S[0]).toNat = x := ⟨_, rfl⟩
    by_cases hlt : a < 0
    · have h1 : S[0].toNat = 45 := by rw [hn hlt]; rfl
      rw [show sgI a = -1 by unfold sgI; rw [if_pos hlt]]
      clear hn hq hx
      clear hS
      go_enter Tryd.func33, Tryd.ntmps33
      go_wp2_with fail
      go_returns
      exact ⟨rfl, rfl⟩
    · have h1 : ((x : Int) == 45) = false := by
        have := isDg_iff.1 (hq hlt)
        rw [beq_eq_false_iff_ne]
        omega
      rw [show sgI a = 1 by unfold sgI; rw [if_neg hlt, if_neg h0]]
      clear hn hq
      clear hS
      go_enter Tryd.func33, Tryd.ntmps33
      go_wp2_with fail
      go_returns
      exact ⟨rfl, rfl⟩
end Go.Proofs.YtjeaemoiafamaaaDoor

/- dowelref01.Neg, Add, Sub, Compare over the texts of integers. -/
namespace Go.Proofs.YtjeaemoiafamaaaDoor
open Go.RowKit

/-- A sign as a test. -/
def isNeg (a : Int) : Bool := decide (sgI a < 0)
def isPos (a : Int) : Bool := decide (0 < sgI a)
theorem sgI_neg {a : Int} : sgI a < 0 ↔ a < 0 := by unfold sgI; split <;> (try split) <;> omega
theorem sgI_pos {a : Int} : 0 < sgI a ↔ 0 < a := by unfold sgI; split <;> (try split) <;> omega
theorem isNeg_eq (a : Int) : isNeg a = decide (a < 0) := by unfold isNeg; simp only [sgI_neg]
theorem isPos_eq (a : Int) : isPos a = decide (0 < a) := by unfold isPos; simp only [sgI_pos]
/-- Few digits: what the reference is asked of. -/
def Few (a : Int) : Prop := (T.digs a.natAbs).length < 1000000000
theorem Few.lt {a : Int} (h : Few a) : (T.digs a.natAbs).length < 1099511627776 := Nat.lt_trans h (by decide)
theorem Few.lt2 {a : Int} (h : Few a) : (T.digs a.natAbs).length < 17592186044416 := Nat.lt_trans h (by decide)
theorem Few.le {a : Int} (h : Few a) : (T.digs a.natAbs).length ≤ 1099511627776 := Nat.le_of_lt h.lt

theorem rneg_walk (a : Int) (w : World) (ha : Few a) :
    Calls Tryd.prog 34 #[.string (txt a)] w fun e w' => e = .returned (.string (txt (-a))) ∧ Below w.heap.size w w' := by
  have HF := Lib.hid ha
  clear ha
  obtain ⟨S, hS⟩ : ∃ S, S = txt (-a) := ⟨_, rfl⟩
  rw [← hS]
  have HS := Lib.hid hS
  clear hS
  go_enter Tryd.func34, Tryd.ntmps34
  go_wp2_with fail
  refine (rsign_walk a _).mono ?_
  rintro e w1 ⟨rfl, rfl⟩
  go_wp2_with fail
  refine (rdigits_walk a _ HF.out.lt).mono ?_
  rintro e w2 ⟨v, rfl, hv, hb⟩
  have HV := Lib.hid hv
  have HB := Lib.hid hb
  clear hv hb
  go_wp2_with fail
  refine (rtext_walk (isPos a) v _ _ HV.out (T.dig_digs _) HF.out.le).mono ?_
  rintro e w3 ⟨rfl, hb3⟩
  have ht : txt (sgn (isPos a) (T.val (T.digs a.natAbs))) = S := by
    rw [HS.out, T.val_digs, isPos_eq]
    congr 1
    unfold sgn
    by_cases h : 0 < a
    · rw [decide_eq_true h]; simp; omega
    · rw [decide_eq_false h]; simp; omega
  rw [ht]
  have HB3 := Lib.hid (HB.out.trans (hb3.mono HB.out.size))
  clear ht hb3
  go_wp2_with fail
  go_returns
  exact ⟨rfl, HB3.out⟩

theorem rcompare_walk (a b : Int) (w : World) (ha : Few a) (hb : Few b) :
    Calls Tryd.prog 41 #[.string (txt a), .string (txt b)] w fun e w' => e = .returned (.int .i64 (cmpI a b)) ∧ Below w.heap.size w w' := by
  have HFA := Lib.hid ha
  have HFB := Lib.hid hb
  clear ha hb
  obtain ⟨r, hr⟩ : ∃ r, r = cmpI a b := ⟨_, rfl⟩
  rw [← hr]
  have HR := Lib.hid hr
  clear hr
  by_cases h1 : sgI a < sgI b
  · have e : r = -1 := by
      rw [HR.out]; unfold cmpI
      rw [if_pos]
      unfold sgI at h1; split at h1 <;> split at h1 <;> (try split at h1) <;> (try split at h1) <;> omega
    subst e
    go_enter Tryd.func41, Tryd.ntmps41
    go_wp2_with fail
    refine (rsign_walk a _).mono ?_
    rintro e w1 ⟨rfl, rfl⟩
    go_wp2_with fail
    refine (rsign_walk b _).mono ?_
    rintro e w1 ⟨rfl, rfl⟩
    go_wp2_with fail
    go_returns
    exact ⟨rfl, by first | exact Below.refl _ _ | go_grown⟩
  · by_cases h2 : sgI b < sgI a
    · have e : r = 1 := by
        rw [HR.out]; unfold cmpI
        rw [if_neg, if_neg]
        · unfold sgI at h2; split at h2 <;> split at h2 <;> (try split at h2) <;> (try split at h2) <;> omega
        · unfold sgI at h2; split at h2 <;> split at h2 <;> (try split at h2) <;> (try split at h2) <;> omega
      subst e
      have h1' : sgI b ≤ sgI a := by omega
      clear h1
      go_enter Tryd.func41, Tryd.ntmps41
      go_wp2_with fail
      refine (rsign_walk a _).mono ?_
      rintro e w1 ⟨rfl, rfl⟩
      go_wp2_with fail
      refine (rsign_walk b _).mono ?_
      rintro e w1 ⟨rfl, rfl⟩
      go_wp2_with fail
      go_returns
      exact ⟨rfl, by first | exact Below.refl _ _ | go_grown⟩
    · have hab : sgI a = sgI b := by omega
      have HAB := Lib.hid hab
      have h1' : sgI b ≤ sgI a := by omega
      have h2' : sgI a ≤ sgI b := by omega
      clear h1 h2 hab
      by_cases h3 : sgI a < 0
      · go_enter Tryd.func41, Tryd.ntmps41
        go_wp2_with fail
        refine (rsign_walk a _).mono ?_
        rintro e w1 ⟨rfl, rfl⟩
        go_wp2_with fail
        refine (rsign_walk b _).mono ?_
        rintro e w1 ⟨rfl, rfl⟩
        go_wp2_with fail
        refine (rdigits_walk b _ HFB.out.lt).mono ?_
        rintro e w2 ⟨v1, rfl, hv1, hb1⟩
        have HV1 := Lib.hid hv1
        have HB1 := Lib.hid hb1
        clear hv1 hb1
        go_wp2_with fail
        refine (rdigits_walk a _ HFA.out.lt).mono ?_
        rintro e w3 ⟨v2, rfl, hv2, hb2⟩
        have HV2 := Lib.hid hv2
        have HB2 := Lib.hid hb2
        have HV1' := Lib.hid (HV1.out.below HB2.out)
        clear hv2 hb2
        go_wp2_with fail
        refine (rorder_walk v1 v2 _ _ _ HV1'.out HV2.out HFB.out.lt2 HFA.out.lt2).mono ?_
        rintro e w4 ⟨rfl, hd⟩
        have ho : ordN b.natAbs a.natAbs = r := by
          have h5 : a < 0 := sgI_neg.1 h3
          have h6 : b < 0 := sgI_neg.1 (by have := HAB.out; omega)
          rw [HR.out]; unfold ordN cmpI
          by_cases h7 : a < b
          · rw [if_pos (by omega), if_pos h7]
          · by_cases h8 : a = b
            · rw [if_neg (by omega), if_pos (by omega), if_neg h7, if_pos h8]
            · rw [if_neg (by omega), if_neg (by omega), if_neg h7, if_neg h8]
        rw [ho]
        have HBD := Lib.hid ((HB1.out.trans (HB2.out.mono HB1.out.size)).trans (hd.below _))
        clear ho hd
        go_wp2_with fail
        go_returns
        exact ⟨rfl, HBD.out⟩
      · have h3' : 0 ≤ sgI a := by omega
        clear h3
        go_enter Tryd.func41, Tryd.ntmps41
        go_wp2_with fail
        refine (rsign_walk a _).mono ?_
        rintro e w1 ⟨rfl, rfl⟩
        go_wp2_with fail
        refine (rsign_walk b _).mono ?_
        rintro e w1 ⟨rfl, rfl⟩
        go_wp2_with fail
        refine (rdigits_walk a _ HFA.out.lt).mono ?_
        rintro e w2 ⟨v1, rfl, hv1, hb1⟩
        have HV1 := Lib.hid hv1
        have HB1 := Lib.hid hb1
        clear hv1 hb1
        go_wp2_with fail
        refine (rdigits_walk b _ HFB.out.lt).mono ?_
        rintro e w3 ⟨v2, rfl, hv2, hb2⟩
        have HV2 := Lib.hid hv2
        have HB2 := Lib.hid hb2
        have HV1' := Lib.hid (HV1.out.below HB2.out)
        clear hv2 hb2
        go_wp2_with fail
        refine (rorder_walk v1 v2 _ _ _ HV1'.out HV2.out HFA.out.lt2 HFB.out.lt2).mono ?_
        rintro e w4 ⟨rfl, hd⟩
        have ho : ordN a.natAbs b.natAbs = r := by
          have h5 : ¬ a < 0 := fun h => by have := sgI_neg.2 h; omega
          have h6 : ¬ b < 0 := fun h => by have := sgI_neg.2 h; have := HAB.out; omega
          rw [HR.out]; unfold ordN cmpI
          by_cases h7 : a < b
          · rw [if_pos (by omega), if_pos h7]
          · by_cases h8 : a = b
            · rw [if_neg (by omega), if_pos (by omega), if_neg h7, if_pos h8]
            · rw [if_neg (by omega), if_neg (by omega), if_neg h7, if_neg h8]
        rw [ho]
        have HBD := Lib.hid ((HB1.out.trans (HB2.out.mono HB1.out.size)).trans (hd.below _))
        clear ho hd
        go_wp2_with fail
        go_returns
        exact ⟨rfl, HBD.out⟩

theorem txt_sgn_of {s : Bool} {n : Nat} {r : Int} {S : ByteArray} (hS : S = txt r) (h : sgn s n = r) : txt (sgn s n) = S := by rw [hS, h]

set_option maxHeartbeats 800000 in
theorem radd_walk (a b : Int) (w : World) (ha : Few a) (hb : Few b) :
    Calls Tryd.prog 36 #[.string (txt a), .string (txt b)] w fun e w' => e = .returned (.string (txt (a + b))) ∧ Below w.heap.size w w' := by
  have HFA := Lib.hid ha
  have HFB := Lib.hid hb
  clear ha hb
  obtain ⟨S, hS⟩ : ∃ S, S = txt (a + b) := ⟨_, rfl⟩
  rw [← hS]
  have HS := Lib.hid hS
  clear hS
  go_enter Tryd.func36, Tryd.ntmps36
  go_wp2_with fail
  refine (rdigits_walk a _ HFA.out.lt).mono ?_
  rintro e w2 ⟨v1, rfl, hv1, hb1⟩
  have HV1 := Lib.hid hv1
  have HB1 := Lib.hid hb1
  clear hv1 hb1
  go_wp2_with fail
  refine (rdigits_walk b _ HFB.out.lt).mono ?_
  rintro e w3 ⟨v2, rfl, hv2, hb2⟩
  have HV2 := Lib.hid hv2
  have HV1' := Lib.hid (HV1.out.below hb2)
  have HBW := Lib.hid (HB1.out.trans (hb2.mono HB1.out.size))
  clear hv2 hb2 HV1 HB1
  go_wp2_with fail
  refine (rsign_walk a _).mono ?_
  rintro e w1 ⟨rfl, rfl⟩
  go_wp2_with fail
  refine (rsign_walk b _).mono ?_
  rintro e w1 ⟨rfl, rfl⟩
  by_cases hs : isNeg a = isNeg b
  · have hs' : (decide (sgI a < 0) == decide (sgI b < 0)) = true := by
      unfold isNeg at hs; rw [hs]; simp
    have HSE := Lib.hid hs
    clear hs
    go_wp2_with fail
    refine (rsign_walk a _).mono ?_
    rintro e w1 ⟨rfl, rfl⟩
    go_wp2_with fail
    obtain ⟨A, ca, rfl, hca, hcm, hua⟩ := HV1'.out
    obtain ⟨B, cb, rfl, hcb, hcmb, hub⟩ := HV2.out
    refine (rplus_lists A B ca cb _ _ _ hua hub (T.dig_digs _) (T.dig_digs _) HFA.out.lt HFB.out.lt).mono ?_
    rintro e w4 ⟨v3, rfl, lr, hv3, hdl, hval, hlen, hb4⟩
    have HV3 := Lib.hid hv3
    have HDL := Lib.hid hdl
    have HVAL := Lib.hid hval
    have HLEN := Lib.hid hlen
    have HBW4 := Lib.hid (HBW.out.trans (hb4.mono HBW.out.size))
    clear hv3 hdl hval hlen hb4 hua hub
    go_wp2_with fail
    refine (rtext_walk (isNeg a) v3 lr _ HV3.out HDL.out (by have := HLEN.out; have h1 := HFA.out; have h2 := HFB.out; unfold Few at h1 h2; omega)).mono ?_
    rintro e w5 ⟨rfl, hb5⟩
    have HBW5 := Lib.hid (HBW4.out.trans (hb5.mono HBW4.out.size))
    rw [txt_sgn_of HS.out (by
      rw [HVAL.out, T.val_digs, T.val_digs]
      have h1 := HSE.out
      rw [isNeg_eq, isNeg_eq] at h1
      rw [isNeg_eq]
      unfold sgn
      by_cases h2 : a < 0
      · rw [decide_eq_true h2] at h1 ⊢
        have : b < 0 := of_decide_eq_true h1.symm
        simp; omega
      · rw [decide_eq_false h2] at h1 ⊢
        have : ¬ b < 0 := of_decide_eq_false h1.symm
        simp; omega)]
    clear hb5
    go_wp2_with fail
    go_returns
    exact ⟨rfl, HBW5.out⟩
  · have hs' : (decide (sgI a < 0) == decide (sgI b < 0)) = false := by
      unfold isNeg at hs; rw [beq_eq_false_iff_ne]; exact hs
    have HSE := Lib.hid hs
    clear hs
    have hcmp : Hid (isNeg a = isNeg b → False) := Lib.hid HSE.out
    by_cases hge : b.natAbs ≤ a.natAbs
    · have hor : (0 : Int) ≤ ordN a.natAbs b.natAbs := by unfold ordN; split <;> (try split) <;> omega
      have HGE := Lib.hid hge
      clear hge
      go_wp2_with fail
      refine (rorder_walk v1 v2 _ _ _ HV1'.out HV2.out HFA.out.lt2 HFB.out.lt2).mono ?_
      rintro e w4 ⟨rfl, hd⟩
      have HBW4 := Lib.hid (HBW.out.trans (hd.below _))
      have HV1'' := Lib.hid (HV1'.out.below (hd.below _))
      have HV2'' := Lib.hid (HV2.out.below (hd.below _))
      clear hd HV1' HV2
      go_wp2_with fail
      refine (rsign_walk a _).mono ?_
      rintro e w1 ⟨rfl, rfl⟩
      go_wp2_with fail
      refine (rminus_walk v1 v2 _ _ _ HV1''.out HV2''.out HFA.out.lt HGE.out).mono ?_
      rintro e w5 ⟨v3, rfl, hv3, hb5⟩
      have HV3 := Lib.hid hv3
      have HBW5 := Lib.hid (HBW4.out.trans (hb5.mono HBW4.out.size))
      clear hv3 hb5
      go_wp2_with fail
      refine (rtext_walk (isNeg a) v3 _ _ HV3.out (T.dig_digs _) (Nat.le_trans (T.digs_len_mono (Nat.sub_le _ _)) HFA.out.le)).mono ?_
      rintro e w6 ⟨rfl, hb6⟩
      have HBW6 := Lib.hid (HBW5.out.trans (hb6.mono HBW5.out.size))
      rw [txt_sgn_of HS.out (by
        rw [T.val_digs]
        have h1 := HSE.out
        have h3 := HGE.out
        rw [isNeg_eq, isNeg_eq] at h1
        rw [isNeg_eq]
        unfold sgn
        by_cases h2 : a < 0
        · rw [decide_eq_true h2] at h1 ⊢
          have : ¬ b < 0 := fun h => h1 (decide_eq_true h).symm
          simp; omega
        · rw [decide_eq_false h2] at h1 ⊢
          have : b < 0 := by
            rcases Int.lt_or_le b 0 with h | h
            · exact h
            · exact absurd (decide_eq_false (by omega)).symm h1
          simp; omega)]
      clear hb6
      go_wp2_with fail
      go_returns
      exact ⟨rfl, HBW6.out⟩
    · have hor : ordN a.natAbs b.natAbs < (0 : Int) := by unfold ordN; split <;> (try split) <;> omega
      have HGE : Hid (a.natAbs ≤ b.natAbs) := Lib.hid (by omega)
      clear hge
      go_wp2_with fail
      refine (rorder_walk v1 v2 _ _ _ HV1'.out HV2.out HFA.out.lt2 HFB.out.lt2).mono ?_
      rintro e w4 ⟨rfl, hd⟩
      have HBW4 := Lib.hid (HBW.out.trans (hd.below _))
      have HV1'' := Lib.hid (HV1'.out.below (hd.below _))
      have HV2'' := Lib.hid (HV2.out.below (hd.below _))
      clear hd HV1' HV2
      go_wp2_with fail
      refine (rsign_walk b _).mono ?_
      rintro e w1 ⟨rfl, rfl⟩
      go_wp2_with fail
      refine (rminus_walk v2 v1 _ _ _ HV2''.out HV1''.out HFB.out.lt HGE.out).mono ?_
      rintro e w5 ⟨v3, rfl, hv3, hb5⟩
      have HV3 := Lib.hid hv3
      have HBW5 := Lib.hid (HBW4.out.trans (hb5.mono HBW4.out.size))
      clear hv3 hb5
      go_wp2_with fail
      refine (rtext_walk (isNeg b) v3 _ _ HV3.out (T.dig_digs _) (Nat.le_trans (T.digs_len_mono (Nat.sub_le _ _)) HFB.out.le)).mono ?_
      rintro e w6 ⟨rfl, hb6⟩
      have HBW6 := Lib.hid (HBW5.out.trans (hb6.mono HBW5.out.size))
      rw [txt_sgn_of HS.out (by
        rw [T.val_digs]
        have h1 := HSE.out
        have h3 := HGE.out
        rw [isNeg_eq, isNeg_eq] at h1
        rw [isNeg_eq]
        unfold sgn
        by_cases h2 : b < 0
        · rw [decide_eq_true h2] at h1 ⊢
          have : ¬ a < 0 := fun h => h1 (decide_eq_true h)
          simp; omega
        · rw [decide_eq_false h2] at h1 ⊢
          have : a < 0 := by
            rcases Int.lt_or_le a 0 with h | h
            · exact h
            · exact absurd (decide_eq_false (by omega)) h1
          simp; omega)]
      clear hb6
      go_wp2_with fail
      go_returns
      exact ⟨rfl, HBW6.out⟩

theorem few_neg {a : Int} (h : Few a) : Few (-a) := by unfold Few at *; rw [Int.natAbs_neg]; exact h
theorem rsub_walk (a b : Int) (w : World) (ha : Few a) (hb : Few b) :
    Calls Tryd.prog 38 #[.string (txt a), .string (txt b)] w fun e w' => e = .returned (.string (txt (a - b))) ∧ Below w.heap.size w w' := by
  have HFA := Lib.hid ha
  have HFB := Lib.hid hb
  clear ha hb
  obtain ⟨S, hS⟩ : ∃ S, S = txt (a - b) := ⟨_, rfl⟩
  rw [← hS]
  have HS := Lib.hid hS
  clear hS
  go_enter Tryd.func38, Tryd.ntmps38
  go_wp2_with fail
  refine (rneg_walk b _ HFB.out).mono ?_
  rintro e w2 ⟨rfl, hb1⟩
  have HB1 := Lib.hid hb1
  clear hb1
  go_wp2_with fail
  refine (radd_walk a (-b) _ HFA.out (few_neg HFB.out)).mono ?_
  rintro e w3 ⟨rfl, hb2⟩
  have HB2 := Lib.hid (HB1.out.trans (hb2.mono HB1.out.size))
  rw [show txt (a + -b) = S by rw [HS.out, Int.sub_eq_add_neg]]
  clear hb2
  go_wp2_with fail
  go_returns
  exact ⟨rfl, HB2.out⟩
end Go.Proofs.YtjeaemoiafamaaaDoor

/- dowelref01.From: the text of an int. -/
namespace Go.Proofs.YtjeaemoiafamaaaDoor
open Go.RowKit

theorem tdiv_neg {m : Int} (h : m ≤ 0) : m.tdiv 10 = -((-m) / 10) ∧ m.tmod 10 = -((-m) % 10) := by
  have h1 : m = -(-m) := by omega
  constructor
  · rw [h1, Int.neg_tdiv, Int.tdiv_eq_ediv_of_nonneg (by omega)]; simp
  · rw [h1, Int.neg_tmod, Int.tmod_eq_emod_of_nonneg (by omega)]; simp

theorem pow_small {k n : Nat} (h : T.BB ^ k * n ≤ 9223372036854775808) (hn : 0 < n) : k ≤ 18 := by
  rcases Nat.lt_or_ge 18 k with h1 | h1
  · have h2 : T.BB ^ 19 ≤ T.BB ^ k := Nat.pow_le_pow_right (by decide) h1
    have h3 : T.BB ^ 19 = 10000000000000000000 := by decide
    have h4 := Nat.le_mul_of_pos_right (T.BB ^ k) hn
    omega
  · exact h1

theorem from_step {lo : List Nat} {N n : Nat} (h : N = T.val lo + T.BB ^ lo.length * n) : N = T.val (lo ++ [n % 10]) + T.BB ^ (lo ++ [n % 10]).length * (n / 10) := by
  rw [T.val_append, List.length_append, List.length_singleton, Nat.pow_succ, h]
  simp only [T.val, Nat.mul_zero, Nat.add_zero]
  have := T.pow_split (T.BB ^ lo.length) n
  omega

theorem sgn_abs_neg {n : Int} (h : n < 0) : sgn true n.natAbs = n := by unfold sgn; rw [if_pos rfl]; omega
theorem sgn_abs_pos {n : Int} (h : 0 ≤ n) : sgn false n.natAbs = n := by unfold sgn; rw [if_neg (by simp)]; omega

set_option maxHeartbeats 800000 in
theorem rfrom_walk (n : Int) (w : World) (h1 : -9223372036854775808 ≤ n) (h2 : n ≤ 9223372036854775807) :
    Calls Tryd.prog 18 #[.int .i64 n] w fun e w' => e = .returned (.string (txt n)) ∧ Below w.heap.size w w' := by
  obtain ⟨i0, hi0, hz0, hz1, hz2⟩ := info_parts info64
  obtain ⟨S, hS⟩ : ∃ S, S = txt n := ⟨_, rfl⟩
  rw [← hS]
  have HS := Lib.hid hS
  have HN : Hid (n.natAbs ≤ 9223372036854775808) := Lib.hid (by omega)
  have H1 := Lib.hid h1
  have H2 := Lib.hid h2
  clear hS
  by_cases hneg : n < 0
  · go_enter Tryd.func18, Tryd.ntmps18
    go_wp2_with fail
    go_loopw [3, 4] (fun ov mv wr => ∃ (m : Int) (lo : List Nat), m ≤ 0 ∧ -9223372036854775808 ≤ m ∧ mv = .int .i64 m ∧ Hid (Owns1 wr w.heap.size 3 ov (lo.map dV)) ∧ Hid (T.Dig lo) ∧ Hid (n.natAbs = T.val lo + T.BB ^ lo.length * m.natAbs) ∧ Hid (lo.length ≤ 19) ∧ Hid (Below w.heap.size w wr))
      (fun _ mv _ => (intOf mv).natAbs)
    case atStart => exact ⟨n, [], by omega, h1, rfl, Lib.hid (Owns1.nil _ _ _), Lib.hid T.Dig.nil, Lib.hid (by simp [T.val]), Lib.hid (by simp), Lib.hid (by first | exact Below.refl _ _ | go_grown)⟩
    case round =>
      obtain ⟨m, lo, hm1, hm2, rfl, hown, hdlo, hinv, hlen, hbw⟩ := hrel
      by_cases hz : m = 0
      · have hval := hinv.out
        rw [hz] at hval
        simp only [Int.natAbs_zero, Nat.mul_zero, Nat.add_zero] at hval
        have HVAL := Lib.hid hval
        have hzb : (m != 0) = false := by simp [hz]
        have hnd : decide (n < 0) = true := decide_eq_true hneg
        clear hval hz
        go_wp2_with fail
        refine (rtext_walk true _ lo _ hown.out.isD hdlo.out (by have := hlen.out; omega)).mono ?_
        rintro e w2 ⟨rfl, hb2⟩
        have HB2 := Lib.hid (hbw.out.trans (hb2.mono hbw.out.size))
        have hSS : txt (sgn true (T.val lo)) = S := by
          rw [HS.out, ← HVAL.out, sgn_abs_neg hneg]
        rw [hSS]
        clear hb2 hSS
        go_wp2_with fail
        go_returns
        exact ⟨rfl, HB2.out⟩
      · have hzb : (m != 0) = true := by simp [hz]
        have hlen' : lo.length ≤ 18 := pow_small (k := lo.length) (n := m.natAbs) (by have := hinv.out; have := HN.out; omega) (by omega)
        have c3 : ((lo.map dV).length + 1 ≤ maxLen) ∧ ((lo.map dV).length + 1) * 8 ≤ 140737488355328 := by
          rw [List.length_map]; unfold maxLen; omega
        have C3 := Lib.hid c3
        obtain ⟨ht1, ht2⟩ := tdiv_neg hm1
        obtain ⟨q, hq⟩ : ∃ q : Int, m.tdiv 10 = q := ⟨_, rfl⟩
        obtain ⟨r, hr⟩ : ∃ q : Int, m.tmod 10 = q := ⟨_, rfl⟩
        have hq1 : q ≤ 0 := by omega
        have hq2 : -9223372036854775808 ≤ q := by omega
        have hr1 : r ≤ 0 := by omega
        have hr2 : -9 ≤ r := by omega
        have hqn : q.natAbs = m.natAbs / 10 := by omega
        have hrn : r.natAbs = m.natAbs % 10 := by omega
        have HQN := Lib.hid hqn
        have HRN := Lib.hid hrn
        have HZ := Lib.hid hz
        have HL := Lib.hid hlen'
        have hqlt : Hid (q.natAbs < m.natAbs) := Lib.hid (by omega)
        have fin : ∀ (u : Int) (v' : Value) (w1 : World), u = ((m.natAbs % 10 : Nat) : Int) → Owns1 w1 w.heap.size 3 v' (lo.map dV ++ [.int .i64 u]) → Below w.heap.size wr w1 →
            Hid (Owns1 w1 w.heap.size 3 v' ((lo ++ [m.natAbs % 10]).map dV)) ∧ Hid (T.Dig (lo ++ [m.natAbs % 10])) ∧ Hid (n.natAbs = T.val (lo ++ [m.natAbs % 10]) + T.BB ^ (lo ++ [m.natAbs % 10]).length * q.natAbs) ∧ Hid ((lo ++ [m.natAbs % 10]).length ≤ 19) ∧ Hid (Below w.heap.size w w1) := by
          intro u v' w1 hu how hgr
          subst hu
          refine ⟨Lib.hid ?_, Lib.hid (T.Dig.append hdlo.out (T.Dig.cons (Nat.mod_lt _ (by decide)) T.Dig.nil)), Lib.hid (by rw [hqn]; exact from_step hinv.out), Lib.hid (by rw [List.length_append]; simp; omega), Lib.hid (hbw.out.trans hgr)⟩
          rw [List.map_append]; exact how
        have FIN := Lib.hid fin
        clear fin ht1 ht2 hqn hrn hz hlen' c3
        by_cases hr0 : r < 0
        · go_wp2_with (at_builtin; refine wpList_app1 _ rfl (.tmp 17) (.tmp 19) 67 rfl w.heap.size 3 i0 (.int .i64 0) 8 Tryd.underlying67 hi0 hz0 hz1 hz2 rfl _ _ rfl hown.out (.int .i64 (-r)) rfl rfl C3.out hbw.out.size ?_)
          intro v' w1 hown' hb1
          have hf := FIN.out (-r) v' w1 (by have := HRN.out; omega) hown' hb1
          have HF := Lib.hid hf
          clear hown' hb1 hf
          go_wp2_with fail
          go_roundw
          case rel => exact ⟨q, _, hq1, hq2, rfl, HF.out.1, HF.out.2.1, HF.out.2.2.1, HF.out.2.2.2.1, HF.out.2.2.2.2⟩
          case measure => simpa [intOf] using hqlt.out
        · have hr00 : r = 0 := by omega
          subst hr00
          clear hr0
          go_wp2_with (at_builtin; refine wpList_app1 _ rfl (.tmp 17) (.tmp 19) 67 rfl w.heap.size 3 i0 (.int .i64 0) 8 Tryd.underlying67 hi0 hz0 hz1 hz2 rfl _ _ rfl hown.out (.int .i64 0) rfl rfl C3.out hbw.out.size ?_)
          intro v' w1 hown' hb1
          have hf := FIN.out 0 v' w1 (by have := HRN.out; omega) hown' hb1
          have HF := Lib.hid hf
          clear hown' hb1 hf
          go_wp2_with fail
          go_roundw
          case rel => exact ⟨q, _, hq1, hq2, rfl, HF.out.1, HF.out.2.1, HF.out.2.2.1, HF.out.2.2.2.1, HF.out.2.2.2.2⟩
          case measure => simpa [intOf] using hqlt.out
  · have hn0 : 0 ≤ n := by omega
    have HNEG : Hid (¬ n < 0) := Lib.hid hneg
    clear hneg
    go_enter Tryd.func18, Tryd.ntmps18
    go_wp2_with fail
    go_loopw [3, 4] (fun ov mv wr => ∃ (m : Nat) (lo : List Nat), ((m : Nat) : Int) ≤ 9223372036854775807 ∧ mv = .int .i64 (m : Nat) ∧ Hid (Owns1 wr w.heap.size 3 ov (lo.map dV)) ∧ Hid (T.Dig lo) ∧ Hid (n.natAbs = T.val lo + T.BB ^ lo.length * m) ∧ Hid (lo.length ≤ 19) ∧ Hid (Below w.heap.size w wr))
      (fun _ mv _ => (intOf mv).toNat)
    case atStart => exact ⟨n.natAbs, [], by omega, by rw [Int.natAbs_of_nonneg hn0], Lib.hid (Owns1.nil _ _ _), Lib.hid T.Dig.nil, Lib.hid (by simp [T.val]), Lib.hid (by simp), Lib.hid (by first | exact Below.refl _ _ | go_grown)⟩
    case round =>
      obtain ⟨m, lo, hm2, rfl, hown, hdlo, hinv, hlen, hbw⟩ := hrel
      by_cases hz : m = 0
      · have hval := hinv.out
        rw [hz] at hval
        simp only [Nat.mul_zero, Nat.add_zero] at hval
        have HVAL := Lib.hid hval
        subst hz
        have hnd : decide (n < 0) = false := decide_eq_false (by omega)
        clear hval
        go_wp2_with fail
        refine (rtext_walk false _ lo _ hown.out.isD hdlo.out (by have := hlen.out; omega)).mono ?_
        rintro e w2 ⟨rfl, hb2⟩
        have HB2 := Lib.hid (hbw.out.trans (hb2.mono hbw.out.size))
        have hSS : txt (sgn false (T.val lo)) = S := by
          rw [HS.out, ← HVAL.out, sgn_abs_pos hn0]
        rw [hSS]
        clear hb2 hSS
        go_wp2_with fail
        go_returns
        exact ⟨rfl, HB2.out⟩
      · have hzb : (((m : Nat) : Int) != 0) = true := by simp [hz]
        have hlen' : lo.length ≤ 18 := pow_small (k := lo.length) (n := m) (by have := hinv.out; have := HN.out; omega) (by omega)
        have c3 : ((lo.map dV).length + 1 ≤ maxLen) ∧ ((lo.map dV).length + 1) * 8 ≤ 140737488355328 := by
          rw [List.length_map]; unfold maxLen; omega
        have C3 := Lib.hid c3
        have hr00 : 0 ≤ ((m : Nat) : Int) % 10 := by omega
        have hr09 : ((m : Nat) : Int) % 10 ≤ 9 := by omega
        have hxd : decide (((m : Nat) : Int) % 10 < 0) = false := decide_eq_false (by omega)
        have hqlt : Hid (m / 10 < m) := Lib.hid (by omega)
        have hl1 : Hid (lo.length ≤ 18) := Lib.hid hlen'
        clear hz hlen' c3
        go_wp2_with (at_builtin; refine wpList_app1 _ rfl (.tmp 17) (.tmp 19) 67 rfl w.heap.size 3 i0 (.int .i64 0) 8 Tryd.underlying67 hi0 hz0 hz1 hz2 rfl _ _ rfl hown.out (.int .i64 (((m : Nat) : Int) % 10)) rfl rfl C3.out hbw.out.size ?_)
        intro v' w1 hown' hb1
        have HO := Lib.hid hown'
        have HB1 := Lib.hid hb1
        clear hown' hb1
        go_wp2_with fail
        go_roundw
        case rel =>
          refine ⟨m / 10, lo ++ [m % 10], by omega, by simp, Lib.hid ?_, Lib.hid (T.Dig.append hdlo.out (T.Dig.cons (Nat.mod_lt _ (by decide)) T.Dig.nil)), Lib.hid (from_step hinv.out), Lib.hid (by rw [List.length_append]; have := hl1.out; simp; omega), Lib.hid (hbw.out.trans HB1.out)⟩
          rw [List.map_append]; exact HO.out
        case measure => have := hqlt.out; simp [intOf]; omega
end Go.Proofs.YtjeaemoiafamaaaDoor

/- dowelref01.Mul: the product of two texts. -/
namespace Go.Proofs.YtjeaemoiafamaaaDoor
open Go.RowKit

/-- Block g is just these digits, of type int. -/
def Row64 (w : World) (g : Nat) (l : List Nat) : Prop := Row w g 3 (l.map dV)
section
variable {w w' : World} {g : Nat} {l : List Nat}
theorem Row64.lt (h : Row64 w g l) : g < w.heap.size := Row.lt h
theorem Row64.cell (h : Row64 w g l) {j : Nat} (hj : j < l.length) : w.cell? ⟨g, j, none⟩ = some (.int .i64 (dg l j : Nat)) := by
  rw [Row.cell h]; exact dg_map hj
theorem Row64.free (h : Row64 w g l) (j : Nat) : w.frozen? ⟨g, j, none⟩ = false := Row.free h j
theorem Row64.set (h : Row64 w g l) (j x : Nat) {v : Value} (hv : v = .int .i64 (x : Nat)) : Row64 (w.setCell ⟨g, j, none⟩ v) g (l.set j x) := by
  subst hv
  have := Row.set h j (dV x)
  unfold Row64
  rw [List.map_set]
  exact this
theorem Row64.drewN (h : Row64 w g l) (n : Nat) : Row64 (w.drewN n) g l := h
theorem Row64.below (h : Row64 w g l) {B : Nat} (hb : Below B w w') (hg : g < B) : Row64 w' g l := Row.below h hb hg
theorem Row64.made {n : Nat} (h : Row w g 3 (List.replicate n (Value.int .i64 0))) : Row64 w g (List.replicate n 0) := by
  unfold Row64
  rw [List.map_replicate]
  exact h
theorem Row64.isD (h : Row64 w g l) {n : Nat} (hn : n = l.length) (hm : n ≤ maxLen) : IsD w (.slice (some ⟨g, 0, none⟩) n n) l := by
  subst hn
  refine ⟨_, _, rfl, Nat.le_refl _, hm, ?_⟩
  exact .inr ⟨g, 0, rfl, fun j hj => by rw [Nat.zero_add]; exact h.cell hj, _, _, _, h, fun z hz => by simp at hz⟩
end

theorem dgT_zero {l : List Nat} {n j : Nat} (h : T.val l < T.BB ^ n) (hj : n ≤ j) : dg l j = 0 := by
  rcases Nat.lt_or_ge j l.length with h1 | h1
  · have h2 := T.val_set l j 0 h1
    have h3 : T.BB ^ n ≤ T.BB ^ j := Nat.pow_le_pow_right (by decide) hj
    rcases Nat.eq_zero_or_pos (dg l j) with h4 | h4
    · exact h4
    · have := Nat.le_mul_of_pos_right (T.BB ^ j) h4
      omega
  · exact dg_ge h1

theorem rmul_inner {lo lo' lb : List Nat} {i k c x s V : Nat} (hi : i + k < lo'.length) (h : T.val lo' + T.BB ^ (i + k) * c = V + T.BB ^ i * (x * T.val (lb.take k))) (hs : s = dg lo' (i + k) + c + x * dg lb k)
    (hh : ∀ j, i + k ≤ j → dg lo' j = dg lo j) :
    T.val (lo'.set (i + k) (s % 10)) + T.BB ^ (i + (k + 1)) * (s / 10) = V + T.BB ^ i * (x * T.val (lb.take (k + 1))) ∧ (∀ j, i + (k + 1) ≤ j → dg (lo'.set (i + k) (s % 10)) j = dg lo j) := by
  refine ⟨T.mul_step hi h (by rw [hs]; omega), fun j hj => ?_⟩
  rw [dg_set, if_neg (by omega)]
  exact hh j (by omega)

theorem sgI_mul (a b : Int) : -1 ≤ sgI a * sgI b ∧ sgI a * sgI b ≤ 1 ∧ sgn (decide (sgI a * sgI b < 0)) (a.natAbs * b.natAbs) = a * b := by
  obtain ⟨n, rfl | rfl⟩ := Int.eq_nat_or_neg a <;> obtain ⟨m, rfl | rfl⟩ := Int.eq_nat_or_neg b <;>
    rcases Nat.eq_zero_or_pos n with h | h <;> rcases Nat.eq_zero_or_pos m with h' | h' <;> simp [sgn, sgI, h, h', Int.natAbs_neg, Int.mul_neg, Int.neg_mul] <;> (try split) <;> (try split) <;> (try split) <;> (try split) <;> (try simp) <;> omega

def FewM (a : Int) : Prop := (T.digs a.natAbs).length < 100000000
theorem FewM.few {a : Int} (h : FewM a) : Few a := Nat.lt_trans h (by decide)
end Go.Proofs.YtjeaemoiafamaaaDoor

/- dowelref01.Mul: the walk. -/
namespace Go.Proofs.YtjeaemoiafamaaaDoor
open Go.RowKit

set_option maxHeartbeats 1600000 in
theorem rmul_walk (a b : Int) (w : World) (ha : FewM a) (hb : FewM b) :
    Calls Tryd.prog 26 #[.string (txt a), .string (txt b)] w fun e w' => e = .returned (.string (txt (a * b))) ∧ Below w.heap.size w w' := by
  obtain ⟨i0, hi0, hz0, hz1, hz2⟩ := info_parts info64
  have HFA := Lib.hid ha
  have HFB := Lib.hid hb
  clear ha hb
  obtain ⟨S, hS⟩ : ∃ S, S = txt (a * b) := ⟨_, rfl⟩
  rw [← hS]
  have HS := Lib.hid hS
  clear hS
  go_enter Tryd.func26, Tryd.ntmps26
  go_wp2_with fail
  refine (rdigits_walk a _ HFA.out.few.lt).mono ?_
  rintro e w2 ⟨v1, rfl, hv1, hb1⟩
  have HV1 := Lib.hid hv1
  have HB1 := Lib.hid hb1
  clear hv1 hb1
  go_wp2_with fail
  refine (rdigits_walk b _ HFB.out.few.lt).mono ?_
  rintro e w3 ⟨v2, rfl, hv2, hb2⟩
  have HV2 := Lib.hid hv2
  have HV1' := Lib.hid (HV1.out.below hb2)
  have HBW := Lib.hid (HB1.out.trans (hb2.mono HB1.out.size))
  clear hv2 hb2 HV1 HB1
  have hdla := T.dig_digs a.natAbs
  have hdlb := T.dig_digs b.natAbs
  have hla := HFA.out
  have hlb := HFB.out
  unfold FewM at hla hlb
  have hva := T.val_digs a.natAbs
  have hvb := T.val_digs b.natAbs
  have h1 := HV1'.out
  have h2 := HV2.out
  generalize T.digs a.natAbs = la at *
  generalize T.digs b.natAbs = lb at *
  obtain ⟨A, ca, rfl, _, _, hua⟩ := h1
  obtain ⟨B, cb, rfl, _, _, hub⟩ := h2
  have HUA := Lib.hid hua
  have HUB := Lib.hid hub
  have HDA := Lib.hid hdla
  have HDB := Lib.hid hdlb
  have HLA := Lib.hid hla
  have HLB := Lib.hid hlb
  have HVA := Lib.hid hva
  have HVB := Lib.hid hvb
  have hlam : la.length ≤ 4611686018427387000 := by omega
  have hlbm : lb.length ≤ 4611686018427387000 := by omega
  clear hua hub hdla hdlb hla hlb hva hvb HV1' HV2
  go_wp2_with (at_make; refine wpList_mk _ rfl (.tmp 21) (.tmp 21) 67 rfl 3 i0 (.int .i64 0) Tryd.underlying67 hi0 hz0 hz1 rfl _ _ (la.length + lb.length + 1) rfl rfl (by push_cast; rfl) (by push_cast; rfl) (by rw [hz2]; have := HLA.out; have := HLB.out; omega) (by have := HLA.out; have := HLB.out; unfold maxLen; omega) ?_)
  intro w4 hrow hb4 hs4
  have HR := Lib.hid (Row64.made hrow)
  have HB4 := Lib.hid hb4
  have HS4 := Lib.hid hs4
  clear hrow hb4 hs4
  go_wp2_with fail
  go_loopw [8] (fun iv wr => ∃ (i : Nat) (lo : List Nat), ((i : Nat) : Int) ≤ (la.length : Nat) ∧ iv = .int .i64 i ∧ Hid (Row64 wr w3.heap.size lo) ∧ Hid (lo.length = la.length + lb.length + 1) ∧ Hid (T.Dig lo) ∧ Hid (T.val lo = T.val (la.take i) * T.val lb) ∧ Hid (Below w3.heap.size w3 wr)) (fun iv _ => la.length - (intOf iv).toNat)
  case atStart => exact ⟨0, _, by omega, rfl, HR, Lib.hid List.length_replicate, Lib.hid (T.Dig.replicate _), Lib.hid (by rw [T.val_replicate]; simp [T.val]), HB4⟩
  case round =>
    obtain ⟨i, lo, hi, rfl, hrow, hlo, hdlo, hval, hbw⟩ := hrel
    by_cases hil : ((i : Nat) : Int) < (la.length : Nat)
    · obtain ⟨wo, rfl⟩ : ∃ wo : World, wo = wr := ⟨_, rfl⟩
      obtain ⟨ba, oa, rfl, hba, hca⟩ := Cells.at_ HUA.out (by omega)
      have HCA := Lib.hid hca
      have hxb : ((dg la i : Nat) : Int) < 10 := by have := HDA.out i; omega
      clear hca
      go_wp2_with fail
      go_loopw [9, 10] (fun cv kv wr => ∃ (k c : Nat) (lo' : List Nat), ((k : Nat) : Int) ≤ (lb.length : Nat) + 1 ∧ cv = .int .i64 c ∧ kv = .int .i64 k ∧ Hid (Row64 wr w3.heap.size lo') ∧ Hid (lo'.length = la.length + lb.length + 1) ∧ Hid (T.Dig lo') ∧ ((c : Nat) : Int) ≤ 9 ∧ Hid (lb.length < k → c = 0) ∧ Hid (T.val lo' + T.BB ^ (i + k) * c = T.val lo + T.BB ^ i * (dg la i * T.val (lb.take k))) ∧ Hid (∀ j, i + k ≤ j → dg lo' j = dg lo j) ∧ Hid (Below w3.heap.size w3 wr)) (fun _ kv _ => lb.length + 1 - (intOf kv).toNat)
      case atStart => exact ⟨0, 0, lo, by omega, rfl, rfl, hrow, hlo, hdlo, by omega, Lib.hid (fun _ => rfl), Lib.hid (by simp [T.val]), Lib.hid (fun _ _ => rfl), hbw⟩
      case round =>
        obtain ⟨k, c, lo', hk, rfl, rfl, hrow', hlo', hdlo', hc9, hcz, hinv, hsame, hbw'⟩ := hrel
        have hmem : i + k < lo'.length ∨ ¬ (i + k < lo'.length) := by omega
        by_cases hkl : ((k : Nat) : Int) < (lb.length : Nat)
        · obtain ⟨bb, ob, rfl, hbb, hcb⟩ := Cells.at_ HUB.out (by omega)
          have hcx := ((bbelow hbw'.out).1 ba (oa + i) hba).trans (HCA.out i (by omega))
          have hcy := ((bbelow hbw'.out).1 bb (ob + k) hbb).trans (hcb k (by omega))
          have hik : i + k < lo'.length := by have := hlo'.out; omega
          have hco := hrow'.out.cell hik
          have hcf := hrow'.out.free (i + k)
          have hyb : ((dg lb k : Nat) : Int) < 10 := by have := HDB.out k; omega
          have hob : ((dg lo' (i + k) : Nat) : Int) < 10 := by have := hdlo'.out (i + k); omega
          obtain ⟨p, hp⟩ : ∃ p : Nat, ((dg la i : Nat) : Int) * ((dg lb k : Nat) : Int) = (p : Nat) := ⟨dg la i * dg lb k, by push_cast; rfl⟩
          have hpp : p = dg la i * dg lb k := by have := hp; exact_mod_cast this.symm
          have hp81 : ((p : Nat) : Int) ≤ 81 := by
            have h1 : dg la i * dg lb k ≤ 9 * 9 := Nat.mul_le_mul (by omega) (by omega)
            omega
          have HPP := Lib.hid hpp
          have HIK := Lib.hid hik
          clear hcb hmem hik hpp
          go_wp2_with fail
          go_quiet (fail)
          go_wp2_with fail
          go_roundw
          case rel =>
            obtain ⟨s, hs⟩ : ∃ s : Nat, s = dg lo' (i + k) + c + p := ⟨_, rfl⟩
            have hsi : ((dg lo' (i + k) : Nat) : Int) + (c : Nat) + (p : Nat) = (s : Nat) := by omega
            have hstep := rmul_inner (lo := lo) (lb := lb) (V := T.val lo) (x := dg la i) (s := s) HIK.out hinv.out (by rw [hs, HPP.out]) hsame.out
            refine ⟨k + 1, s / 10, lo'.set (i + k) (s % 10), by omega, ?_, by simp, Lib.hid ((hrow'.out.drewN _).set (i + k) (s % 10) ?_), Lib.hid (by rw [List.length_set]; exact hlo'.out), Lib.hid (hdlo'.out.set _ _ (Nat.mod_lt _ (by decide))), by omega, Lib.hid (fun h => by omega), Lib.hid hstep.1, Lib.hid hstep.2, Lib.hid ((hbw'.out.trans (below_drewN _ _ _)).setCell (Nat.le_refl _) _)⟩
            · rw [hsi]; congr 1
            · rw [hsi]; congr 1
          case measure => simp [intOf]; omega
        · have hkl' : ((lb.length : Nat) : Int) ≤ (k : Nat) := by omega
          by_cases hc0 : c = 0
          · subst hc0
            have hval' : T.val lo' = T.val (la.take (i + 1)) * T.val lb := by
              have := hinv.out
              rw [Nat.mul_zero, Nat.add_zero, T.val_take_of_le (by omega), hval.out] at this
              rw [this, T.val_take_succ, Nat.add_mul, Nat.mul_assoc]
            have HV := Lib.hid hval'
            have hdk : decide (k < lb.length) = false := decide_eq_false (by omega)
            clear hkl hmem hval'
            go_wp2_with fail
            go_roundw
            case rel => exact ⟨i + 1, lo', by omega, by go_num, hrow', hlo', hdlo', HV, hbw'⟩
            case measure => simp [intOf]; omega
          · have hkb : k = lb.length := by
              rcases Nat.lt_or_ge lb.length k with h | h
              · exact absurd (hcz.out h) hc0
              · omega
            have hik : i + k < lo'.length := by have := hlo'.out; omega
            have hdz : dg lo' (i + k) = 0 := by
              rw [hsame.out (i + k) (Nat.le_refl _), hkb]
              refine dgT_zero (n := i + lb.length) ?_ (Nat.le_refl _)
              rw [hval.out, Nat.pow_add]
              have h1 := T.val_lt (T.Dig.take HDA.out i)
              rw [List.length_take, Nat.min_eq_left (by omega)] at h1
              have h2 := T.val_lt HDB.out
              exact Nat.mul_lt_mul'' h1 h2
            have hco := hrow'.out.cell hik
            have hcf := hrow'.out.free (i + k)
            rw [hdz] at hco
            have hyz : dg lb k = 0 := dg_ge (by omega)
            have hcpos : (0 : Int) < ((c : Nat) : Int) := by omega
            have hcp2 : decide (0 < c) = true := decide_eq_true (by omega)
            have hdk : decide (k < lb.length) = false := decide_eq_false (by omega)
            have HIK := Lib.hid hik
            have HDZ := Lib.hid hdz
            have HYZ := Lib.hid hyz
            have HKB := Lib.hid hkb
            have HC0 := Lib.hid hc0
            clear hkl hmem hdz hyz hkb hc0 hik
            go_wp2_with fail
            go_roundw
            case rel =>
              have hstep := rmul_inner (lo := lo) (lb := lb) (V := T.val lo) (x := dg la i) (s := c) HIK.out hinv.out (by rw [HDZ.out, HYZ.out]; omega) hsame.out
              refine ⟨k + 1, c / 10, lo'.set (i + k) (c % 10), by have := HKB.out; omega, by simp, by simp, Lib.hid (hrow'.out.set (i + k) (c % 10) (by simp)), Lib.hid (by rw [List.length_set]; exact hlo'.out), Lib.hid (hdlo'.out.set _ _ (Nat.mod_lt _ (by decide))), by omega, Lib.hid (fun h => by omega), Lib.hid hstep.1, Lib.hid hstep.2, Lib.hid (hbw'.out.setCell (Nat.le_refl _) _)⟩
            case measure => have := HKB.out; simp [intOf]; omega
    · have hend : T.val lo = a.natAbs * b.natAbs := by
        have := hval.out
        rw [T.val_take_of_le (by omega), HVA.out, HVB.out] at this
        exact this
      have HEND := Lib.hid hend
      clear hend
      obtain ⟨hp1, hp2, hp3⟩ := sgI_mul a b
      obtain ⟨p, hp⟩ : ∃ p, sgI a * sgI b = p := ⟨_, rfl⟩
      rw [hp] at hp1 hp2 hp3
      have HP3 := Lib.hid hp3
      have hisd := hrow.out.isD (n := la.length + lb.length + 1) hlo.out.symm (by have := HLA.out; have := HLB.out; unfold maxLen; omega)
      have HISD := Lib.hid hisd
      clear hp3 hisd
      go_wp2_with fail
      refine (rsign_walk a _).mono ?_
      rintro e w5 ⟨rfl, rfl⟩
      go_wp2_with fail
      refine (rsign_walk b _).mono ?_
      rintro e w5 ⟨rfl, rfl⟩
      go_wp2_with fail
      refine (rtext_walk (decide (p < 0)) _ lo _ HISD.out hdlo.out (by have := HLA.out; have := HLB.out; rw [hlo.out]; omega)).mono ?_
      rintro e w6 ⟨rfl, hb6⟩
      have HB6 := Lib.hid ((HBW.out.trans (hbw.out.mono HBW.out.size)).trans (hb6.mono (Nat.le_trans HBW.out.size hbw.out.size)))
      rw [txt_sgn_of HS.out (by rw [HEND.out]; exact HP3.out)]
      clear hb6
      go_wp2_with fail
      go_returns
      exact ⟨rfl, HB6.out⟩
end Go.Proofs.YtjeaemoiafamaaaDoor

/- dowelref01.DivMod: a digit ahead of a list; the arithmetic of one round. -/
namespace Go.Proofs.YtjeaemoiafamaaaDoor
open Go.RowKit

theorem owns_one (w : World) (e : TypeId) (x : Value) : (w.alloc (.cells #[x] e)).ownsRow w.heap.size e 1 (.slice (some ⟨w.heap.size, 0, none⟩) 1 1) 1 [x] :=
  ⟨rfl, .inr ⟨w.heap.size, 1, #[x], rfl, Nat.le_refl _, heap_alloc_new w _, Nat.le_refl _, by unfold maxLen; omega, rfl, rfl⟩⟩

/-- 'append([]int{x}, rest...)'. -/
theorem wpList_prepend {P : Program} (w : World) {ops : Array Oper} {rest : List Oper} {o : Oper} {a : Act} {Q : Exit → Act → World → Prop} (hgd : o.guard = none) (s x : Operand) (t : TypeId)
    (ho : o.op = .call { callee := .builtin .append, args := #[s, x], argTypes := #[t, t] })
    (e : TypeId) (i : TypeInfo) (z : Value) (bytes : Nat) (ht : P.underlying t = some (.slice e)) (hi : P.info? e = some i) (hz : i.zero = some z)
    (hsize : i.size = 1) (hby : i.bytes = bytes) (hzs : z.cells.size = 1)
    (u : Value) (hs : a.eval s = .slice (some ⟨w.heap.size, 0, none⟩) 1 1)
    (B : Nat) (v : Value) (l : List Nat) (hf : FreshD B w v l) (hx : a.eval x = v) (hlen : 1 + l.length ≤ maxLen ∧ (1 + l.length) * bytes ≤ 140737488355328)
    (h : ∀ v' w', Owns1 w' w.heap.size e v' (u :: l.map dV) → Below w.heap.size w w' → wpList P ops Q rest (a.put o.dst v') w') : wpList P ops Q (o :: rest) a (w.alloc (.cells #[u] e)) := by
  have hb := (boxes1 w (.cells #[u] e)).2.2
  have hown := owns_one w e u
  rcases hf with ⟨rfl, rfl⟩ | ⟨b, off, c, rfl, h0, h4, h1, h2, h3⟩
  · refine wpList_append_own_none hgd s x t ho w.heap.size e i 1 ht hi _ 1 [u] hs hown hx ?_
    exact h _ _ hown hb
  · refine wpList_append_own _ hgd s x t ho w.heap.size e i z 1 bytes ht hi hz hsize hby hzs (by decide) _ 1 [u] hs hown ⟨b, off, none⟩ l.length c (l.map dV) hx (by simp) ?_ ?_ hlen.1 hlen.2 (by simp) ?_
    · intro j y hj
      have hjl : j < l.length := by have := (List.getElem?_eq_some_iff.1 hj).1; simpa using this
      rw [dg_map hjl] at hj
      simp only [Option.some.injEq] at hj
      subst hj
      rw [Addr.add_lit]
      rcases h3 with h3 | ⟨b', off', hA, hc, _⟩
      · omega
      · simp only [Option.some.injEq, Addr.mk.injEq, and_true] at hA
        obtain ⟨rfl, rfl⟩ := hA
        exact (hb.cell (p := ⟨b, off + j, none⟩) h4).trans (hc j hjl)
    · intro y hy
      rw [List.mem_map] at hy
      obtain ⟨d, _, rfl⟩ := hy
      rfl
    · intro v' w' hown' hgr _
      refine h v' w' ?_ (hb.grown hgr hb.size (fun k hk => ?_))
      · unfold Owns1
        rw [List.length_cons, List.length_map, Nat.add_comm]
        exact hown'
      · simp [Value.ownBlock] at hk; omega

theorem div_round {lo la : List Nat} {j b r0 q r : Nat} (hj : j < la.length) (hlo : lo.length = la.length) (h : T.val (la.drop (j + 1)) = b * T.val (lo.drop (j + 1)) + r0) (hq : b * q + r = dg la j + 10 * r0) :
    T.val (la.drop j) = b * T.val ((lo.set j q).drop j) + r := by
  rw [T.val_drop _ _ hj, T.val_drop_set _ _ _ (by omega), h]
  simp only [T.BB_eq]
  rw [Nat.mul_add, Nat.mul_add, Nat.mul_left_comm b 10]
  omega
theorem val_cons10 (d : Nat) (n : Nat) : T.val (d :: T.digs n) = d + 10 * n := by rw [T.val, T.val_digs]; rfl

theorem fdiv_text {a b : Int} (hb : b ≠ 0) (p : Int) (hp : sgI a * sgI b = p) : sgn (decide (p < 0)) (a.natAbs / b.natAbs) = sgn (decide (a < 0) != decide (b < 0)) (a.natAbs / b.natAbs) := by
  subst hp
  by_cases ha0 : a = 0
  · subst ha0
    simp [sgn]
  · congr 1
    have h1 : sgI a = if a < 0 then -1 else 1 := by unfold sgI; rw [if_neg ha0]
    have h2 : sgI b = if b < 0 then -1 else 1 := by unfold sgI; rw [if_neg hb]
    rw [h1, h2]
    by_cases h3 : a < 0 <;> by_cases h4 : b < 0 <;> simp [h3, h4]
end Go.Proofs.YtjeaemoiafamaaaDoor

/- dowelref01.DivMod over texts of integers. -/
namespace Go.Proofs.YtjeaemoiafamaaaDoor
open Go.RowKit

set_option maxHeartbeats 3200000 in
theorem rdivmod_walk (a b : Int) (w : World) (ha : FewM a) (hb : FewM b) (hb0 : b ≠ 0) :
    Calls Tryd.prog 28 #[.string (txt a), .string (txt b)] w fun e w' => e = .returned (.tuple #[.string (txt (Int.fdiv a b)), .string (txt (Int.fmod a b))]) ∧ Below w.heap.size w w' := by
  obtain ⟨i0, hi0, hz0, hz1, hz2⟩ := info_parts info64
  have HFA := Lib.hid ha
  have HFB := Lib.hid hb
  have HBN := Lib.hid hb0
  clear ha hb hb0
  obtain ⟨SQ, hSQ⟩ : ∃ S, S = txt (Int.fdiv a b) := ⟨_, rfl⟩
  obtain ⟨SR, hSR⟩ : ∃ S, S = txt (Int.fmod a b) := ⟨_, rfl⟩
  rw [← hSQ, ← hSR]
  have HSQ := Lib.hid hSQ
  have HSR := Lib.hid hSR
  clear hSQ hSR
  go_enter Tryd.func28, Tryd.ntmps28
  go_wp2_with fail
  refine (rdigits_walk a _ HFA.out.few.lt).mono ?_
  rintro e w2 ⟨v1, rfl, hv1, hb1⟩
  have HV1 := Lib.hid hv1
  have HB1 := Lib.hid hb1
  clear hv1 hb1
  go_wp2_with fail
  refine (rdigits_walk b _ HFB.out.few.lt).mono ?_
  rintro e w3 ⟨v2, rfl, hv2, hb2⟩
  have HV2 := Lib.hid hv2
  have HV1' := Lib.hid (HV1.out.below hb2)
  have HBW := Lib.hid (HB1.out.trans (hb2.mono HB1.out.size))
  clear hv2 hb2 HV1 HB1
  have hdla := T.dig_digs a.natAbs
  have hla := HFA.out
  have hlb := HFB.out
  unfold FewM at hla hlb
  have hva := T.val_digs a.natAbs
  have h1 := HV1'.out
  generalize T.digs a.natAbs = la at *
  obtain ⟨bn, hbn⟩ : ∃ bn, bn = b.natAbs := ⟨_, rfl⟩
  have hbp : 0 < bn := by have := HBN.out; omega
  rw [← hbn] at hlb
  have h2 := HV2.out
  rw [← hbn] at h2
  have HV2 := Lib.hid h2
  clear h2
  obtain ⟨A, ca, rfl, _, _, hua⟩ := h1
  have HUA := Lib.hid hua
  have HDA := Lib.hid hdla
  have HLA := Lib.hid hla
  have HLB := Lib.hid hlb
  have HVA := Lib.hid hva
  have HBP := Lib.hid hbp
  have HBN2 := Lib.hid hbn
  have hlam : la.length ≤ 4611686018427387000 := by omega
  clear hua hdla hla hlb hva HV1' hbp hbn
  go_wp2_with (at_make; refine wpList_mk _ rfl (.tmp 16) (.tmp 16) 67 rfl 3 i0 (.int .i64 0) Tryd.underlying67 hi0 hz0 hz1 rfl _ _ la.length rfl rfl rfl rfl (by rw [hz2]; have := HLA.out; omega) (by have := HLA.out; unfold maxLen; omega) ?_)
  intro w4 hrow hb4 hs4
  have HR := Lib.hid (Row64.made hrow)
  have HB4 := Lib.hid hb4
  have HS4 := Lib.hid hs4
  clear hrow hb4 hs4
  go_wp2_with fail
  go_loopw [8, 10] (fun rv iv wr => ∃ (j r : Nat) (lo : List Nat), ((j : Nat) : Int) ≤ (la.length : Nat) ∧ iv = .int .i64 ((j : Int) - 1) ∧ Hid (FreshD (w3.heap.size + 1) wr rv (T.digs r)) ∧ Hid (r < bn) ∧ Hid (Row64 wr w3.heap.size lo) ∧ Hid (lo.length = la.length) ∧ Hid (T.Dig lo) ∧ Hid (T.val (la.drop j) = bn * T.val (lo.drop j) + r) ∧ Hid (∀ m, m < j → dg lo m = 0) ∧ Hid (Below w3.heap.size w3 wr)) (fun _ iv _ => (intOf iv + 1).toNat)
  case atStart =>
    refine ⟨la.length, 0, _, by omega, rfl, Lib.hid ?_, HBP, HR, Lib.hid List.length_replicate, Lib.hid (T.Dig.replicate _), Lib.hid ?_, Lib.hid (fun m _ => by rw [dg_replicate]; split <;> rfl), HB4⟩
    · rw [T.digs_zero]; exact FreshD.nil _ _
    · rw [List.drop_eq_nil_of_le (Nat.le_refl _), List.drop_eq_nil_of_le (by rw [List.length_replicate]; exact Nat.le_refl _)]; rfl
  case round =>
    obtain ⟨j, r, lo, hj, rfl, hfr, hrb, hrow, hlo, hdlo, hinv, hzero, hbw⟩ := hrel
    rcases j with _ | j
    · have hend := hinv.out
      rw [List.drop_zero, List.drop_zero, HVA.out] at hend
      have hqv : T.val lo = a.natAbs / b.natAbs := by
        rw [hend, ← HBN2.out, Nat.mul_add_div HBP.out, Nat.div_eq_of_lt hrb.out, Nat.add_zero]
      have hrv : r = a.natAbs % b.natAbs := by
        rw [hend, ← HBN2.out, Nat.mul_add_mod, Nat.mod_eq_of_lt hrb.out]
      obtain ⟨hp1, hp2, _⟩ := sgI_mul a b
      have hpt := fdiv_text (a := a) HBN.out
      obtain ⟨p, hp⟩ : ∃ p, sgI a * sgI b = p := ⟨_, rfl⟩
      have hpt := hpt p hp
      rw [hp] at hp1 hp2
      obtain ⟨q0, hq0⟩ : ∃ q0, q0 = sgn (decide (a < 0) != decide (b < 0)) (a.natAbs / b.natAbs) := ⟨_, rfl⟩
      obtain ⟨r0, hr0⟩ : ∃ r0, r0 = sgn (decide (a < 0)) (a.natAbs % b.natAbs) := ⟨_, rfl⟩
      have hqr := quot_rest a b HBN.out q0 r0 hq0 hr0
      have hx1 : txt (sgn (decide (p < 0)) (T.val lo)) = txt q0 := by rw [hqv, hpt, ← hq0]
      have hx2 : txt (sgn (isNeg a) r) = txt r0 := by rw [isNeg_eq, hrv, ← hr0]
      have hfq : Few q0 := by
        unfold Few
        rw [hq0, sgn_natAbs]
        have h1 := T.digs_len_mono (Nat.div_le_self a.natAbs b.natAbs)
        have h2 := HFA.out
        unfold FewM at h2
        omega
      have hfr0 : Few r0 := by
        unfold Few
        rw [hr0, sgn_natAbs]
        have h1 := T.digs_len_mono (Nat.mod_le a.natAbs b.natAbs)
        have h2 := HFA.out
        unfold FewM at h2
        omega
      have hisd := hrow.out.isD (n := la.length) hlo.out.symm (by have := HLA.out; unfold maxLen; omega)
      have HISD := Lib.hid hisd
      have HX1 := Lib.hid hx1
      have HX2 := Lib.hid hx2
      have HQR := Lib.hid hqr
      have HFQ := Lib.hid hfq
      have HFR0 := Lib.hid hfr0
      have hlr : (T.digs r).length ≤ 1099511627776 := by
        have h1 := T.digs_len_mono (Nat.le_of_lt hrb.out)
        have := HLB.out
        omega
      have HLR := Lib.hid hlr
      clear hend hqv hrv hpt hq0 hr0 hqr hx1 hx2 hfq hfr0 hisd hlr
      go_wp2_with fail
      refine (rsign_walk a _).mono ?_
      rintro e w5 ⟨rfl, rfl⟩
      go_wp2_with fail
      refine (rsign_walk b _).mono ?_
      rintro e w5 ⟨rfl, rfl⟩
      go_wp2_with fail
      refine (rtext_walk (decide (p < 0)) _ lo _ HISD.out hdlo.out (by have := HLA.out; rw [hlo.out]; omega)).mono ?_
      rintro e w6 ⟨rfl, hb6⟩
      rw [HX1.out]
      have HB6 := Lib.hid hb6
      clear hb6
      go_wp2_with fail
      refine (rsign_walk a _).mono ?_
      rintro e w5 ⟨rfl, rfl⟩
      go_wp2_with fail
      refine (rtext_walk (isNeg a) _ (T.digs r) _ (hfr.out.isD.below HB6.out) (T.dig_digs r) HLR.out).mono ?_
      rintro e w7 ⟨rfl, hb7⟩
      rw [T.val_digs, HX2.out]
      have HBW7 := Lib.hid ((HBW.out.trans (hbw.out.mono HBW.out.size)).trans ((HB6.out.trans (hb7.mono HB6.out.size)).mono (Nat.le_trans HBW.out.size hbw.out.size)))
      clear hb7
      by_cases hr00 : r0 = 0
      · subst hr00
        have hfin := floor_same HQR.out (.inl rfl)
        have e1 : txt q0 = SQ := by rw [HSQ.out, hfin.1]
        have e2 : txt 0 = SR := by rw [HSR.out, ← hfin.2]
        have hne : (txt 0).toList = [48] := by rw [txt_zero, ByteArray.toList_eq]
        rw [e1]
        rw [e2] at hne ⊢
        clear hfin e1 e2
        go_wp2_with fail
        go_returns
        exact ⟨rfl, HBW7.out⟩
      · have hne0 := txt_ne0 hr00
        have hne : ¬ (txt r0).toList = [48] := by rw [beq_eq_false_iff_ne] at hne0; exact hne0
        by_cases hs : sgI r0 = sgI b
        · have hsb : (sgI r0 != sgI b) = false := by rw [hs]; simp
          have hdd : decide (r0 < 0) = decide (b < 0) := by rw [← isNeg_eq, ← isNeg_eq]; unfold isNeg; rw [hs]
          have hfin := floor_same HQR.out (.inr hdd)
          have e1 : txt q0 = SQ := by rw [HSQ.out, hfin.1]
          have e2 : txt r0 = SR := by rw [HSR.out, ← hfin.2]
          have HE1 := Lib.hid e1
          have HE2 := Lib.hid e2
          clear hs hdd hfin e1 e2
          go_wp2_with fail
          refine (rsign_walk r0 _).mono ?_
          rintro e w5 ⟨rfl, rfl⟩
          go_wp2_with fail
          refine (rsign_walk b _).mono ?_
          rintro e w5 ⟨rfl, rfl⟩
          go_wp2_with fail
          go_returns
          refine ⟨?_, HBW7.out⟩
          rw [← HE1.out, ← HE2.out]; rfl
        · have hsb : (sgI r0 != sgI b) = true := by simp [hs]
          have hdd : decide (r0 < 0) ≠ decide (b < 0) := by
            intro h
            apply hs
            have h1 : sgI r0 = if r0 < 0 then -1 else 1 := by unfold sgI; rw [if_neg hr00]
            have h2 : sgI b = if b < 0 then -1 else 1 := by unfold sgI; rw [if_neg HBN.out]
            rw [h1, h2]
            by_cases h3 : r0 < 0
            · rw [decide_eq_true h3] at h
              rw [if_pos h3, if_pos (of_decide_eq_true h.symm)]
            · rw [decide_eq_false h3] at h
              rw [if_neg h3, if_neg (of_decide_eq_false h.symm)]
          have hfin := floor_other HQR.out hr00 hdd
          have e1 : txt (q0 - 1) = SQ := by rw [HSQ.out, hfin.1]
          have e2 : txt (r0 + b) = SR := by rw [HSR.out, ← hfin.2]
          have h1t : (⟨#[49]⟩ : ByteArray) = txt 1 := by unfold txt; rw [itoa_nonneg' (by omega)]; show _ = (⟨(Lib.decDigits 1).toArray⟩ : ByteArray); rw [Lib.decDigits_one (by omega)]; rfl
          have hs1 := fun W => rsub_walk q0 1 W HFQ.out (by unfold Few; show (T.digs 1).length < _; rw [T.digs_pos (by omega), show 1 / T.BB = 0 from rfl, T.digs_zero]; decide)
          rw [e1, ← h1t] at hs1
          have ha1 := fun W => radd_walk r0 b W HFR0.out HFB.out.few
          rw [e2] at ha1
          have HS1 := Lib.hid hs1
          have HA1 := Lib.hid ha1
          clear hs hdd hfin e1 e2 h1t hs1 ha1
          go_wp2_with fail
          refine (rsign_walk r0 _).mono ?_
          rintro e w5 ⟨rfl, rfl⟩
          go_wp2_with fail
          refine (rsign_walk b _).mono ?_
          rintro e w5 ⟨rfl, rfl⟩
          go_wp2_with fail
          refine (HS1.out _).mono ?_
          rintro e w8 ⟨rfl, hb8⟩
          have HB8 := Lib.hid (HBW7.out.trans (hb8.mono HBW7.out.size))
          clear hb8
          go_wp2_with fail
          refine (HA1.out _).mono ?_
          rintro e w9 ⟨rfl, hb9⟩
          have HB9 := Lib.hid (HB8.out.trans (hb9.mono HB8.out.size))
          clear hb9
          go_wp2_with fail
          go_returns
          exact ⟨rfl, HB9.out⟩
    · obtain ⟨wo, rfl⟩ : ∃ wo : World, wo = wr := ⟨_, rfl⟩
      obtain ⟨ba, oa, rfl, hba, hca⟩ := Cells.at_ HUA.out (by omega)
      have hcx := ((bbelow hbw.out).1 ba (oa + j) hba).trans (hca j (by omega))
      have hjl : ((j : Nat) : Int) < (la.length : Nat) := by omega
      have hdx : ((dg la j : Nat) : Int) < 10 := by have := HDA.out j; omega
      have hlr : (1 + (T.digs r).length ≤ maxLen) ∧ (1 + (T.digs r).length) * 8 ≤ 140737488355328 := by
        have h1 := T.digs_len_mono (Nat.le_of_lt hrb.out)
        have h2 := HLB.out
        unfold maxLen; omega
      have HLR := Lib.hid hlr
      have hg1 : w3.heap.size + 1 ≤ wo.heap.size := by have := hrow.out.lt; omega
      have HG1 := Lib.hid hg1
      clear hca hlr hg1
      go_wp2_with (at_builtin; refine wpList_prepend _ rfl (.tmp 29) (.tmp 30) 67 rfl 3 i0 (.int .i64 0) 8 Tryd.underlying67 hi0 hz0 hz1 hz2 rfl (.int .i64 (dg la j : Nat)) rfl _ _ _ hfr.out rfl HLR.out ?_)
      intro v5 w5 hown5 hb5
      have hfresh := Owns1.fresh (l := dg la j :: T.digs r) hown5
      have HFR5 := Lib.hid hfresh
      have HB5 := Lib.hid hb5
      clear hown5 hb5 hfresh
      go_wp2_with fail
      refine (rtrim_fresh _ _ (dg la j :: T.digs r) _ HFR5.out (T.Dig.cons (HDA.out j) (T.dig_digs r))).mono ?_
      rintro e w6 ⟨v6, rfl, hf6, rfl⟩
      rw [val_cons10] at hf6
      obtain ⟨R0, hR0⟩ : ∃ R0, R0 = dg la j + 10 * r := ⟨_, rfl⟩
      rw [← hR0] at hf6
      have HF6 := Lib.hid (hf6.mono HG1.out)
      have HR0 := Lib.hid hR0
      have hR10 : R0 < 10 * bn := by have := hrb.out; omega
      have HR10 := Lib.hid hR10
      have hrow5 : Row64 w5 w3.heap.size lo := hrow.out.below HB5.out hrow.out.lt
      have HROW5 := Lib.hid hrow5
      have HBW5 := Lib.hid (hbw.out.trans (HB5.out.mono hbw.out.size))
      clear hf6 hR0 hR10 hrow5
      go_wp2_with fail
      go_loopg [8] R0 (fun g rv wr => ∃ (q r' : Nat), Hid (g = r') ∧ Hid (bn * q + r' = R0) ∧ Hid (FreshD (w3.heap.size + 1) wr rv (T.digs r')) ∧ Hid (Row64 wr w3.heap.size (lo.set j q)) ∧ Hid (Below w3.heap.size w3 wr))
      case atStart =>
        refine ⟨0, R0, Lib.hid rfl, Lib.hid (by simp), HF6, Lib.hid ?_, HBW5⟩
        have e : lo.set j 0 = lo := by
          apply ext_dg (by simp)
          intro m hm
          rw [dg_set]
          split
          · rename_i h; rw [← h.1]; exact (hzero.out j (by omega)).symm
          · rfl
        rw [e]; exact HROW5.out
      case round =>
        obtain ⟨q, r', hg, hq, hfr', hrow', hbw'⟩ := hrel
        have hlr' : (T.digs r').length < 1000000000 := by
          have h0 : r' ≤ 10 * bn := by have := hq.out; have := HR10.out; omega
          have h1 := T.digs_len_mono h0
          have h2 : (T.digs (10 * bn)).length ≤ (T.digs bn).length + 1 := by
            refine T.digs_len_le ?_
            rw [Nat.pow_succ]
            have := T.lt_pow_digs bn
            rw [Nat.mul_comm, T.BB_eq] at *
            omega
          have h3 := HLB.out
          omega
        have HLR' := Lib.hid hlr'
        have HV2' := Lib.hid (HV2.out.below hbw'.out)
        have hq9 : bn * q ≤ R0 := by have := hq.out; omega
        have HQ9 := Lib.hid hq9
        clear hlr' hq9
        by_cases hge : bn ≤ r'
        · have hor : (0 : Int) ≤ ordN r' bn := by unfold ordN; split <;> (try split) <;> omega
          have HGE := Lib.hid hge
          clear hge
          go_wp2_with fail
          refine (rorder_walk _ _ r' bn _ hfr'.out.isD HV2'.out (Nat.lt_trans HLR'.out (by decide)) (by have := HLB.out; omega)).mono ?_
          rintro e w7 ⟨rfl, hd⟩
          have HBD := Lib.hid (hd.below wo.heap.size)
          have hfr7 := hfr'.out.below (hd.below _)
          have hv27 := HV2'.out.below (hd.below _)
          have hrow7 := hrow'.out.below (hd.below _) hrow'.out.lt
          have hbw7 := hbw'.out.trans (hd.below _)
          have HFR7 := Lib.hid hfr7
          have HV27 := Lib.hid hv27
          have HROW7 := Lib.hid hrow7
          have HBW7 := Lib.hid hbw7
          clear hd hfr7 hv27 hrow7 hbw7
          go_wp2_with fail
          refine (rminus_fresh _ _ r' bn _ HFR7.out.isD HV27.out (Nat.lt_trans HLR'.out (by decide)) HGE.out).mono ?_
          rintro e w8 ⟨v8, rfl, hf8, hb8⟩
          have hrow8 : Row64 w8 w3.heap.size (lo.set j q) := HROW7.out.below hb8 HROW7.out.lt
          have hjl8 : j < (lo.set j q).length := by rw [List.length_set, hlo.out]; omega
          have hc8 := hrow8.cell hjl8
          have hcf8 := hrow8.free j
          have hq9 : q < 9 := by
            have h1 := hq.out
            have h2 := HR10.out
            have h3 := HGE.out
            rcases Nat.lt_or_ge q 9 with h | h
            · exact h
            · have := Nat.mul_le_mul_left bn h
              omega
          rw [dg_set, if_pos ⟨rfl, by rw [hlo.out]; omega⟩] at hc8
          have hq9' : ((q : Nat) : Int) < 9 := by omega
          have HF8 := Lib.hid (hf8.mono (B' := w3.heap.size + 1) (by have := HROW7.out.lt; omega))
          have HB8 := Lib.hid (HBW7.out.trans (hb8.mono HBW7.out.size))
          have HROW8 := Lib.hid hrow8
          clear hf8 hb8 hrow8 hjl8 hq9
          go_wp2_with fail
          go_roundg (r' - bn)
          case measure => rw [hg.out]; have := HGE.out; have := HBP.out; omega
          case rel =>
            refine ⟨q + 1, r' - bn, Lib.hid rfl, Lib.hid ?_, Lib.hid (HF8.out.set (by omega)), Lib.hid ?_, Lib.hid (HB8.out.setCell (Nat.le_refl _) _)⟩
            · have := hq.out; have := HGE.out; rw [Nat.mul_add]; omega
            · have := HROW8.out.set j (q + 1) (v := .int .i64 (((q : Nat) : Int) + 1)) (by simp)
              rw [List.set_set] at this
              exact this
        · have hor : ordN r' bn < (0 : Int) := by unfold ordN; split <;> (try split) <;> omega
          have hord : decide ((0 : Int) ≤ ordN r' bn) = false := decide_eq_false (by omega)
          have HLT : Hid (r' < bn) := Lib.hid (by omega)
          clear hge
          go_wp2_with fail
          refine (rorder_walk _ _ r' bn _ hfr'.out.isD HV2'.out (Nat.lt_trans HLR'.out (by decide)) (by have := HLB.out; omega)).mono ?_
          rintro e w7 ⟨rfl, hd⟩
          have HFR7 := Lib.hid (hfr'.out.below (hd.below _))
          have HROW7 := Lib.hid (hrow'.out.below (hd.below _) hrow'.out.lt)
          have HBW7 := Lib.hid (hbw'.out.trans (hd.below _))
          clear hd
          go_wp2_with fail
          go_roundw
          case rel =>
            have hq10 : q < 10 := by
              have h1 := hq.out
              have h2 := HR10.out
              rcases Nat.lt_or_ge q 10 with h | h
              · exact h
              · have := Nat.mul_le_mul_left bn h
                omega
            refine ⟨j, r', lo.set j q, by omega, by first | rfl | (congr 1; omega), HFR7, HLT, HROW7, Lib.hid (by rw [List.length_set]; exact hlo.out), Lib.hid (hdlo.out.set _ _ hq10), Lib.hid (div_round (by omega) hlo.out hinv.out (by rw [hq.out]; exact HR0.out)), Lib.hid (fun m hm => by rw [dg_set, if_neg (by omega)]; exact hzero.out m (by omega)), HBW7⟩
          case measure => first | (simp [intOf]; done) | (simp [intOf]; omega)
end Go.Proofs.YtjeaemoiafamaaaDoor

/- dowelref01.Gcd, Power, Bits over texts of integers. -/
namespace Go.Proofs.YtjeaemoiafamaaaDoor
open Go.RowKit

theorem txt_abs (a : Int) : txt (sgn false (T.val (T.digs a.natAbs))) = txt (a.natAbs : Nat) := by rw [T.val_digs]; rfl
theorem fewM_nat {a : Int} (h : FewM a) : FewM (a.natAbs : Nat) := by unfold FewM at *; rw [Int.natAbs_natCast]; exact h
theorem fewM_le {a : Int} {n : Nat} (h : FewM a) (hn : n ≤ a.natAbs) : FewM (n : Nat) := by
  unfold FewM at *
  rw [Int.natAbs_natCast]
  exact Nat.lt_of_le_of_lt (T.digs_len_mono hn) h

set_option maxHeartbeats 800000 in
theorem rgcd_walk (a b : Int) (w : World) (ha : FewM a) (hb : FewM b) :
    Calls Tryd.prog 30 #[.string (txt a), .string (txt b)] w fun e w' => e = .returned (.string (txt (Nat.gcd a.natAbs b.natAbs : Nat))) ∧ Below w.heap.size w w' := by
  have HFA := Lib.hid ha
  have HFB := Lib.hid hb
  clear ha hb
  obtain ⟨S, hS⟩ : ∃ S, S = txt (Nat.gcd a.natAbs b.natAbs : Nat) := ⟨_, rfl⟩
  rw [← hS]
  have HS := Lib.hid hS
  clear hS
  go_enter Tryd.func30, Tryd.ntmps30
  go_wp2_with fail
  refine (rdigits_walk a _ HFA.out.few.lt).mono ?_
  rintro e w2 ⟨v1, rfl, hv1, hb1⟩
  have HV1 := Lib.hid hv1
  have HB1 := Lib.hid hb1
  clear hv1 hb1
  go_wp2_with fail
  refine (rtext_walk false _ _ _ HV1.out (T.dig_digs _) HFA.out.few.le).mono ?_
  rintro e w3 ⟨rfl, hb3⟩
  rw [txt_abs]
  have HB3 := Lib.hid (HB1.out.trans (hb3.mono HB1.out.size))
  clear hb3
  go_wp2_with fail
  refine (rdigits_walk b _ HFB.out.few.lt).mono ?_
  rintro e w4 ⟨v2, rfl, hv2, hb4⟩
  have HV2 := Lib.hid hv2
  have HB4 := Lib.hid (HB3.out.trans (hb4.mono HB3.out.size))
  clear hv2 hb4
  go_wp2_with fail
  refine (rtext_walk false _ _ _ HV2.out (T.dig_digs _) HFB.out.few.le).mono ?_
  rintro e w5 ⟨rfl, hb5⟩
  rw [txt_abs]
  have HB5 := Lib.hid (HB4.out.trans (hb5.mono HB4.out.size))
  clear hb5
  go_wp2_with fail
  go_loopg [5, 6] b.natAbs (fun g xv yv wr => ∃ x y : Nat, xv = .string (txt (x : Nat)) ∧ yv = .string (txt (y : Nat)) ∧ Hid (g = y) ∧ Hid (Nat.gcd x y = Nat.gcd a.natAbs b.natAbs) ∧ Hid (FewM (x : Nat)) ∧ Hid (FewM (y : Nat)) ∧ Hid (Below w.heap.size w wr))
  case atStart => exact ⟨a.natAbs, b.natAbs, rfl, rfl, Lib.hid rfl, Lib.hid rfl, Lib.hid (fewM_nat HFA.out), Lib.hid (fewM_nat HFB.out), HB5⟩
  case round =>
    obtain ⟨x, y, rfl, rfl, hg, hgcd, hfx, hfy, hbw⟩ := hrel
    by_cases hy : y = 0
    · subst hy
      have hxS : txt (x : Nat) = S := by
        rw [HS.out, ← hgcd.out, Nat.gcd_zero_right]
      have h48 : (txt ((0 : Nat) : Int)).toList = [48] := by rw [show ((0 : Nat) : Int) = 0 from rfl, txt_zero, ByteArray.toList_eq]
      have h48b : ((txt ((0 : Nat) : Int)).toList == [48]) = true := by rw [h48]; rfl
      have h48c : ((txt (0 : Int)).toList == [48]) = true := h48b
      have h48d : (txt (0 : Int)).toList = [48] := h48
      rw [hxS]
      clear hxS h48 h48b
      go_wp2_with fail
      go_returns
      exact ⟨rfl, hbw.out⟩
    · have hyi : ((y : Nat) : Int) ≠ 0 := by omega
      have h48b := txt_ne0 hyi
      have h48 : ¬ (txt ((y : Nat) : Int)).toList = [48] := by rw [beq_eq_false_iff_ne] at h48b; exact h48b
      have HYI := Lib.hid hyi
      clear hyi
      go_wp2_with fail
      refine (rdivmod_walk x y _ hfx.out hfy.out HYI.out).mono ?_
      rintro e w6 ⟨rfl, hb6⟩
      have HB6 := Lib.hid (hbw.out.trans (hb6.mono hbw.out.size))
      have hmod : Int.fmod (x : Nat) (y : Nat) = ((x % y : Nat) : Int) := by rw [Int.fmod_eq_emod_of_nonneg _ (by omega)]; rfl
      rw [hmod]
      clear hb6 hmod
      go_wp2_with fail
      go_roundg (x % y)
      case measure => rw [hg.out]; exact Nat.mod_lt _ (by omega)
      case rel =>
        refine ⟨y, x % y, rfl, rfl, Lib.hid rfl, Lib.hid ?_, hfy, Lib.hid ?_, HB6⟩
        · rw [← hgcd.out, Nat.gcd_comm x y, Nat.gcd_rec y x, Nat.gcd_comm]
        · exact fewM_le hfy.out (by rw [Int.natAbs_natCast]; exact Nat.le_of_lt (Nat.mod_lt _ (by omega)))
end Go.Proofs.YtjeaemoiafamaaaDoor

/- dowelref01.Power, Bits over texts of integers. -/
namespace Go.Proofs.YtjeaemoiafamaaaDoor
open Go.RowKit

theorem digsT_pow (a : Int) (k : Nat) : (T.digs (a ^ k).natAbs).length ≤ (T.digs a.natAbs).length * k + 1 := by
  refine T.digs_len_le ?_
  rw [Int.natAbs_pow, Nat.pow_succ, Nat.pow_mul]
  have h1 := Nat.pow_le_pow_left (Nat.le_of_lt (T.lt_pow_digs a.natAbs)) k
  have h2 : 0 < (T.BB ^ (T.digs a.natAbs).length) ^ k := Nat.pow_pos (Nat.pow_pos (by decide))
  have h3 : (T.BB ^ (T.digs a.natAbs).length) ^ k * 2 ≤ (T.BB ^ (T.digs a.natAbs).length) ^ k * T.BB := Nat.mul_le_mul_left _ (by decide)
  omega
theorem txt_one : txt 1 = ⟨#[49]⟩ := by unfold txt; rw [itoa_nonneg' (by omega)]; show (⟨(Lib.decDigits 1).toArray⟩ : ByteArray) = _; rw [Lib.decDigits_one (by omega)]; rfl
theorem txt_two : txt 2 = ⟨#[50]⟩ := by unfold txt; rw [itoa_nonneg' (by omega)]; show (⟨(Lib.decDigits 2).toArray⟩ : ByteArray) = _; rw [Lib.decDigits_one (by omega)]; rfl

theorem rpower_walk (a : Int) (n : Nat) (w : World) (ha : (T.digs a.natAbs).length ≤ 1000000) (hn : n ≤ 64) :
    Calls Tryd.prog 32 #[.string (txt a), .int .i64 n] w fun e w' => e = .returned (.string (txt (a ^ n))) ∧ Below w.heap.size w w' := by
  have hf : ∀ k, k ≤ 64 → FewM (a ^ k) := by
    intro k hk
    unfold FewM
    have h1 := digsT_pow a k
    have h2 : (T.digs a.natAbs).length * k ≤ 1000000 * 64 := Nat.mul_le_mul ha hk
    omega
  have HF := Lib.hid hf
  have HFA : Hid (FewM a) := Lib.hid (by unfold FewM; omega)
  have hn64 : ((n : Nat) : Int) ≤ 64 := by omega
  obtain ⟨S, hS⟩ : ∃ S, S = txt (a ^ n) := ⟨_, rfl⟩
  rw [← hS]
  have HS := Lib.hid hS
  clear hS hf ha
  go_enter Tryd.func32, Tryd.ntmps32
  go_wp2_with fail
  go_loopw [5, 6] (fun ov iv wr => ∃ k : Nat, ((k : Nat) : Int) ≤ (n : Nat) ∧ iv = .int .i64 k ∧ ov = .string (txt (a ^ k)) ∧ Hid (Below w.heap.size w wr)) (fun _ iv _ => n - (intOf iv).toNat)
  case atStart => exact ⟨0, by omega, rfl, by rw [Int.pow_zero, txt_one], Lib.hid (by first | exact Below.refl _ _ | go_grown)⟩
  case round =>
    obtain ⟨k, hk, rfl, rfl, hbw⟩ := hrel
    by_cases hkn : ((k : Nat) : Int) < (n : Nat)
    · go_wp2_with fail
      refine (rmul_walk (a ^ k) a _ (HF.out k (by omega)) HFA.out).mono ?_
      rintro e w2 ⟨rfl, hb2⟩
      have HB2 := Lib.hid (hbw.out.trans (hb2.mono hbw.out.size))
      rw [show a ^ k * a = a ^ (k + 1) from (Int.pow_succ a k).symm]
      clear hb2
      go_wp2_with fail
      go_roundw
      case rel => exact ⟨k + 1, by omega, by go_num, rfl, HB2⟩
      case measure => simp [intOf]; omega
    · have hkk : k = n := by omega
      have hSS : txt (a ^ k) = S := by rw [HS.out, hkk]
      subst hkk
      rw [hSS]
      clear hSS
      go_wp2_with fail
      go_returns
      exact ⟨rfl, hbw.out⟩

theorem isBits_le {n k : Nat} (h : k = 0 ∨ 2 ^ (k - 1) ≤ n) (hd : (T.digs n).length < 100000000) : k ≤ 400000001 := by
  rcases h with h | h
  · omega
  · have h1 := T.lt_pow_digs n
    have h2 : T.BB ^ (T.digs n).length ≤ 2 ^ (4 * (T.digs n).length) := by
      rw [Nat.pow_mul]
      exact Nat.pow_le_pow_left (by decide) _
    have h3 : 2 ^ (k - 1) < 2 ^ (4 * (T.digs n).length) := by omega
    have h4 := (Nat.pow_lt_pow_iff_right (by decide : 1 < 2)).1 h3
    omega

theorem rbits_walk (a : Int) (w : World) (ha : FewM a) :
    Calls Tryd.prog 43 #[.string (txt a)] w fun e w' => ∃ k : Nat, e = .returned (.int .i64 k) ∧ IsBits a.natAbs k ∧ Below w.heap.size w w' := by
  have HFA := Lib.hid ha
  clear ha
  go_enter Tryd.func43, Tryd.ntmps43
  go_wp2_with fail
  refine (rdigits_walk a _ HFA.out.few.lt).mono ?_
  rintro e w2 ⟨v1, rfl, hv1, hb1⟩
  have HV1 := Lib.hid hv1
  have HB1 := Lib.hid hb1
  clear hv1 hb1
  go_wp2_with fail
  refine (rtext_walk false _ _ _ HV1.out (T.dig_digs _) HFA.out.few.le).mono ?_
  rintro e w3 ⟨rfl, hb3⟩
  rw [txt_abs]
  have HB3 := Lib.hid (HB1.out.trans (hb3.mono HB1.out.size))
  clear hb3
  go_wp2_with fail
  go_loopg [3, 4] a.natAbs (fun g xv kv wr => ∃ x k : Nat, xv = .string (txt (x : Nat)) ∧ kv = .int .i64 (k : Nat) ∧ Hid (g = x) ∧ Hid (x = a.natAbs / 2 ^ k) ∧ Hid (k = 0 ∨ 2 ^ (k - 1) ≤ a.natAbs) ∧ ((k : Nat) : Int) ≤ 400000001 ∧ Hid (Below w.heap.size w wr))
  case atStart => exact ⟨a.natAbs, 0, rfl, rfl, Lib.hid rfl, Lib.hid (by simp), Lib.hid (.inl rfl), by omega, HB3⟩
  case round =>
    obtain ⟨x, k, rfl, rfl, hg, hx, hk, hk9, hbw⟩ := hrel
    by_cases hy : x = 0
    · have hfin : IsBits a.natAbs k := by
        have h1 := hx.out
        have h2 := hk.out
        unfold IsBits
        have h3 : a.natAbs < 2 ^ k := by
          rw [hy] at h1
          exact (Nat.div_eq_zero_iff_lt (Nat.two_pow_pos k)).1 h1.symm
        rcases Nat.eq_zero_or_pos k with h | h
        · subst h; left; exact ⟨by simp at h3; omega, rfl⟩
        · right; exact ⟨h, by rcases h2 with h2 | h2 <;> omega, h3⟩
      have HFIN := Lib.hid hfin
      subst hy
      have h48d : (txt (0 : Int)).toList = [48] := by rw [txt_zero, ByteArray.toList_eq]
      have h48c : ((txt (0 : Int)).toList == [48]) = true := by rw [h48d]; rfl
      clear hfin
      go_wp2_with fail
      go_returns
      exact ⟨k, rfl, HFIN.out, hbw.out⟩
    · have hyi : ((x : Nat) : Int) ≠ 0 := by omega
      have h48b := txt_ne0 hyi
      have h48 : ¬ (txt ((x : Nat) : Int)).toList = [48] := by rw [beq_eq_false_iff_ne] at h48b; exact h48b
      have hxf : FewM (x : Nat) := fewM_le HFA.out (by rw [hx.out]; exact Nat.div_le_self _ _)
      have hdm := fun W => rdivmod_walk x 2 W hxf (by unfold FewM; show (T.digs 2).length < _; rw [T.digs_pos (by omega), show 2 / T.BB = 0 from rfl, T.digs_zero]; decide) (by omega)
      have hdiv : Int.fdiv (x : Nat) 2 = ((x / 2 : Nat) : Int) := by rw [Int.fdiv_eq_ediv_of_nonneg _ (by omega)]; rfl
      rw [hdiv, txt_two] at hdm
      have HDM := Lib.hid hdm
      have hk1 : 2 ^ k ≤ a.natAbs := by
        have h1 := hx.out
        have h2 := Nat.div_mul_le_self a.natAbs (2 ^ k)
        rw [← h1] at h2
        exact Nat.le_trans (Nat.le_mul_of_pos_left _ (by omega)) h2
      have hk2 : k + 1 ≤ 400000001 := isBits_le (n := a.natAbs) (.inr (by simpa using hk1)) HFA.out
      have HK1 := Lib.hid hk1
      have HYI := Lib.hid hyi
      clear hyi hxf hdm hdiv hk1
      go_wp2_with fail
      refine (HDM.out _).mono ?_
      rintro e w6 ⟨rfl, hb6⟩
      have HB6 := Lib.hid (hbw.out.trans (hb6.mono hbw.out.size))
      clear hb6
      go_wp2_with fail
      go_roundg (x / 2)
      case measure => rw [hg.out]; have := HYI.out; omega
      case rel =>
        refine ⟨x / 2, k + 1, rfl, by go_num, Lib.hid rfl, Lib.hid ?_, Lib.hid (.inr (by simpa using HK1.out)), by omega, HB6⟩
        rw [hx.out, Nat.pow_succ, Nat.div_div_eq_div_mul]
end Go.Proofs.YtjeaemoiafamaaaDoor

/- dowelref01.Check: the error of a text. -/
namespace Go.Proofs.YtjeaemoiafamaaaDoor
open Go.RowKit

/-- The error of a text, of whatever length. -/
def chkS (s : ByteArray) : Nat := if 65536 < s.size then 5 else chk s.data.toList

theorem chk_empty {l : List UInt8} (h : body l = []) : chk l = 14 := by unfold chk; rw [if_pos h]
theorem chk_nodigit {l : List UInt8} (h : body l ≠ []) (h2 : (body l).all isDg = false) : chk l = 14 := by unfold chk; rw [if_neg h, if_pos h2]
theorem chk_form {l : List UInt8} (h : body l ≠ []) (h2 : (body l).all isDg = true) (h3 : (body l).head? = some 48) (h4 : 1 < (body l).length ∨ l.head? = some 45) : chk l = 3 := by
  unfold chk; rw [if_neg h, if_neg (by rw [h2]; simp), if_pos ⟨h3, h4⟩]
theorem chk_fine {l : List UInt8} (h : body l ≠ []) (h2 : (body l).all isDg = true) (h3 : ¬ ((body l).head? = some 48 ∧ (1 < (body l).length ∨ l.head? = some 45))) : chk l = 0 := by
  unfold chk; rw [if_neg h, if_neg (by rw [h2]; simp), if_neg h3]

theorem list_size (D : ByteArray) : D.data.toList.length = D.size := by rw [Array.length_toList]; rfl
theorem get_list (D : ByteArray) (k : Nat) (h : k < D.size) : D[k] = D.data.toList[k]'(by rw [list_size]; exact h) := by rw [Array.getElem_toList]; rfl

set_option maxHeartbeats 1600000 in
theorem rcheck_core (s D : ByteArray) (w : World) (hs : ((s.size : Nat) : Int) ≤ 65536) (hs0 : (0 : Int) < ((s.size : Nat) : Int))
    (hD : D.data.toList = body s.data.toList) (hcase : ((s[0]'(by omega)).toNat = 45 ∧ s.extract 1 s.size = D ∧ Hid (s.data.toList.head? = some 45)) ∨ ((((s[0]'(by omega)).toNat : Int) == 45) = false ∧ s = D ∧ Hid (s.data.toList.head? ≠ some 45))) :
    Calls Tryd.prog 22 #[.string s] w fun e w' => e = .returned (.int .i64 (chk s.data.toList : Nat)) ∧ w = w' := by
  obtain ⟨l, hl⟩ : ∃ l, l = s.data.toList := ⟨_, rfl⟩
  have hll : l.length = s.size := by rw [hl, list_size]
  have hDs : ((D.size : Nat) : Int) ≤ ((s.size : Nat) : Int) := by
    rw [← list_size D, ← list_size s, hD]
    unfold body
    split
    · rw [List.length_tail]; omega
    · omega
  rw [← hl] at hD hcase ⊢
  obtain ⟨r, hr⟩ : ∃ r, r = chk l := ⟨_, rfl⟩
  rw [← hr]
  have HR := Lib.hid hr
  have HD := Lib.hid hD
  have HL := Lib.hid hl
  have HLL := Lib.hid hll
  have hDsz := list_size D
  have HDZ := Lib.hid hDsz
  clear hr hD hl hll hDsz
  rcases hcase with ⟨h0, hex, hhd⟩ | ⟨h0, hex, hhd⟩
  · have hlt : D.size < s.size := by
      have h1 := HDZ.out
      rw [HD.out] at h1
      unfold body at h1
      rw [if_pos hhd.out, List.length_tail, HLL.out] at h1
      omega
    have HLT := Lib.hid hlt
    clear hlt
    by_cases hz : D.size = 0
    · have hr14 : r = 14 := by
        rw [HR.out]
        refine chk_empty ?_
        rw [← HD.out]
        exact List.eq_nil_of_length_eq_zero (by rw [HDZ.out]; exact hz)
      subst hr14
      have hz' : (((D.size : Nat) : Int) == 0) = true := by rw [hz]; rfl
      clear hz
      go_enter Tryd.func22, Tryd.ntmps22
      go_wp2_with fail
      go_returns
      exact ⟨rfl, rfl⟩
    · have hz' : (((D.size : Nat) : Int) == 0) = false := by rw [beq_eq_false_iff_ne]; omega
      have hp : (0 : Int) < ((D.size : Nat) : Int) := by omega
      have hne : body l ≠ [] := by
        intro e
        have h1 := HDZ.out
        rw [HD.out, e] at h1
        simp at h1; omega
      have HNE := Lib.hid hne
      clear hz hne
      go_enter Tryd.func22, Tryd.ntmps22
      go_wp2_with fail
      go_loop [4] (fun iv => ∃ k : Nat, ((k : Nat) : Int) ≤ ((D.size : Nat) : Int) ∧ iv = .int .i64 k ∧ Hid (∀ c ∈ D.data.toList.take k, isDg c = true)) (fun iv => D.size - (intOf iv).toNat)
      case atStart => exact ⟨0, by omega, rfl, Lib.hid (fun c hc => by simp at hc)⟩
      case round =>
        obtain ⟨k, hk, rfl, hall⟩ := hrel
        by_cases hkl : ((k : Nat) : Int) < ((D.size : Nat) : Int)
        · have hkn : k < D.size := by omega
          have hgk := get_list D k hkn
          obtain ⟨x, hx⟩ : ∃ x : Nat, D[k].toNat = x := ⟨_, rfl⟩
          have hiff := @isDg_iff D[k]
          rw [hx] at hiff
          have hsn : D.data.toList.take (k + 1) = D.data.toList.take k ++ [D[k]] := by
            rw [hgk]; exact List.take_succ_eq_append_getElem (by rw [HDZ.out]; exact hkn)
          have hmem : D[k] ∈ D.data.toList := by rw [hgk]; exact List.getElem_mem _
          have HSN := Lib.hid hsn
          have HMEM := Lib.hid hmem
          have HIFF := Lib.hid hiff
          clear hgk hsn hmem hiff
          have bad : (¬ (48 ≤ x ∧ x ≤ 57)) → r = 14 := fun hb => by
            rw [HR.out]
            refine chk_nodigit HNE.out ?_
            rw [← HD.out]
            have h2 : isDg D[k] = false := by
              rcases hq : isDg D[k] with _ | _
              · rfl
              · exact absurd (HIFF.out.1 hq) hb
            rw [← Bool.not_eq_true, List.all_eq_true]
            intro h3
            have := h3 _ HMEM.out
            rw [h2] at this
            exact absurd this (by simp)
          have BAD := Lib.hid bad
          clear bad
          by_cases h48 : ((x : Nat) : Int) < 48
          · have hr14 : r = 14 := BAD.out (by omega)
            subst hr14
            go_wp2_with fail
            go_returns
            exact ⟨rfl, rfl⟩
          · have h48' : (48 : Int) ≤ ((x : Nat) : Int) := by omega
            have h48d : decide (((x : Nat) : Int) < 48) = false := decide_eq_false h48
            clear h48
            by_cases h57 : (57 : Int) < ((x : Nat) : Int)
            · have hr14 : r = 14 := BAD.out (by omega)
              subst hr14
              go_wp2_with fail
              go_returns
              exact ⟨rfl, rfl⟩
            · have h57' : ((x : Nat) : Int) ≤ 57 := by omega
              have h57d : decide ((57 : Int) < ((x : Nat) : Int)) = false := decide_eq_false h57
              clear h57
              go_wp2_with fail
              go_round
              case rel =>
                refine ⟨k + 1, by omega, by go_num, Lib.hid ?_⟩
                intro c hc
                rw [HSN.out, List.mem_append, List.mem_singleton] at hc
                rcases hc with hc | hc
                · exact hall.out c hc
                · rw [hc]; exact HIFF.out.2 (by omega)
              case measure => simp [intOf]; omega
        · have hkk : k = D.size := by omega
          have hall' : (body l).all isDg = true := by
            rw [← HD.out, List.all_eq_true]
            have := hall.out
            rw [hkk, List.take_of_length_le (by rw [HDZ.out]; exact Nat.le_refl _)] at this
            exact this
          have hkd : decide (k < D.size) = false := decide_eq_false (by omega)
          have hp' : 0 < D.size := by omega
          have hg0 := get_list D 0 hp'
          obtain ⟨x, hx⟩ : ∃ x : Nat, D[0].toNat = x := ⟨_, rfl⟩
          have hhead : (body l).head? = some D[0] := by
            rw [← HD.out, hg0, List.head?_eq_getElem?, List.getElem?_eq_getElem (by rw [HDZ.out]; exact hp')]
          have h48i : D[0] = 48 ↔ x = 48 := by
            rw [← hx]
            exact ⟨fun h => by rw [h]; rfl, fun h => UInt8.toNat_inj.1 (by rw [h]; rfl)⟩
          have HALL := Lib.hid hall'
          have HHEAD := Lib.hid hhead
          have H48 := Lib.hid h48i
          have hbl : (body l).length = D.size := by rw [← HD.out]; exact HDZ.out
          have HBL := Lib.hid hbl
          clear hkk hall' hg0 hhead h48i hkl hbl
          by_cases hx48 : x = 48
          · have hr3 : r = 3 := by
              rw [HR.out]
              exact chk_form HNE.out HALL.out (by rw [HHEAD.out, H48.out.2 hx48]) (.inr hhd.out)
            subst hr3
            have hs1 : (1 : Int) < ((s.size : Nat) : Int) := by have := HLT.out; omega
            by_cases h1 : (1 : Int) < ((D.size : Nat) : Int)
            · have h1d : decide ((1 : Int) < ((D.size : Nat) : Int)) = true := decide_eq_true h1
              subst hx48
              go_wp2_with fail
              go_returns
              exact ⟨rfl, rfl⟩
            · have h1' : ((D.size : Nat) : Int) ≤ 1 := by omega
              have h1d : decide ((1 : Int) < ((D.size : Nat) : Int)) = false := decide_eq_false h1
              have h1e : decide (1 < D.size) = false := decide_eq_false (by omega)
              clear h1
              subst hx48
              go_wp2_with fail
              go_returns
              exact ⟨rfl, rfl⟩
          · have hr0 : r = 0 := by
              rw [HR.out]
              refine chk_fine HNE.out HALL.out (fun h => ?_)
              rw [HHEAD.out] at h
              exact hx48 (H48.out.1 (by simpa using h.1))
            subst hr0
            have hxe : (((x : Nat) : Int) == 48) = false := by rw [beq_eq_false_iff_ne]; omega
            clear hx48
            go_wp2_with fail
            go_returns
            exact ⟨rfl, rfl⟩
  · subst hex
    clear hDs
    by_cases hz : s.size = 0
    · have hr14 : r = 14 := by
        rw [HR.out]
        refine chk_empty ?_
        rw [← HD.out]
        exact List.eq_nil_of_length_eq_zero (by rw [HDZ.out]; exact hz)
      subst hr14
      have hz' : (((s.size : Nat) : Int) == 0) = true := by rw [hz]; rfl
      exfalso; omega

    · have hz' : (((s.size : Nat) : Int) == 0) = false := by rw [beq_eq_false_iff_ne]; omega
      have hp : (0 : Int) < ((s.size : Nat) : Int) := by omega
      have hne : body l ≠ [] := by
        intro e
        have h1 := HDZ.out
        rw [HD.out, e] at h1
        simp at h1; omega
      have HNE := Lib.hid hne
      clear hz hne
      go_enter Tryd.func22, Tryd.ntmps22
      go_wp2_with fail
      go_loop [4] (fun iv => ∃ k : Nat, ((k : Nat) : Int) ≤ ((s.size : Nat) : Int) ∧ iv = .int .i64 k ∧ Hid (∀ c ∈ s.data.toList.take k, isDg c = true)) (fun iv => s.size - (intOf iv).toNat)
      case atStart => exact ⟨0, by omega, rfl, Lib.hid (fun c hc => by simp at hc)⟩
      case round =>
        obtain ⟨k, hk, rfl, hall⟩ := hrel
        by_cases hkl : ((k : Nat) : Int) < ((s.size : Nat) : Int)
        · have hkn : k < s.size := by omega
          have hgk := get_list s k hkn
          obtain ⟨x, hx⟩ : ∃ x : Nat, s[k].toNat = x := ⟨_, rfl⟩
          have hiff := @isDg_iff s[k]
          rw [hx] at hiff
          have hsn : s.data.toList.take (k + 1) = s.data.toList.take k ++ [s[k]] := by
            rw [hgk]; exact List.take_succ_eq_append_getElem (by rw [HDZ.out]; exact hkn)
          have hmem : s[k] ∈ s.data.toList := by rw [hgk]; exact List.getElem_mem _
          have HSN := Lib.hid hsn
          have HMEM := Lib.hid hmem
          have HIFF := Lib.hid hiff
          clear hgk hsn hmem hiff
          have bad : (¬ (48 ≤ x ∧ x ≤ 57)) → r = 14 := fun hb => by
            rw [HR.out]
            refine chk_nodigit HNE.out ?_
            rw [← HD.out]
            have h2 : isDg s[k] = false := by
              rcases hq : isDg s[k] with _ | _
              · rfl
              · exact absurd (HIFF.out.1 hq) hb
            rw [← Bool.not_eq_true, List.all_eq_true]
            intro h3
            have := h3 _ HMEM.out
            rw [h2] at this
            exact absurd this (by simp)
          have BAD := Lib.hid bad
          clear bad
          by_cases h48 : ((x : Nat) : Int) < 48
          · have hr14 : r = 14 := BAD.out (by omega)
            subst hr14
            go_wp2_with fail
            go_returns
            exact ⟨rfl, rfl⟩
          · have h48' : (48 : Int) ≤ ((x : Nat) : Int) := by omega
            have h48d : decide (((x : Nat) : Int) < 48) = false := decide_eq_false h48
            clear h48
            by_cases h57 : (57 : Int) < ((x : Nat) : Int)
            · have hr14 : r = 14 := BAD.out (by omega)
              subst hr14
              go_wp2_with fail
              go_returns
              exact ⟨rfl, rfl⟩
            · have h57' : ((x : Nat) : Int) ≤ 57 := by omega
              have h57d : decide ((57 : Int) < ((x : Nat) : Int)) = false := decide_eq_false h57
              clear h57
              go_wp2_with fail
              go_round
              case rel =>
                refine ⟨k + 1, by omega, by go_num, Lib.hid ?_⟩
                intro c hc
                rw [HSN.out, List.mem_append, List.mem_singleton] at hc
                rcases hc with hc | hc
                · exact hall.out c hc
                · rw [hc]; exact HIFF.out.2 (by omega)
              case measure => simp [intOf]; omega
        · have hkk : k = s.size := by omega
          have hall' : (body l).all isDg = true := by
            rw [← HD.out, List.all_eq_true]
            have := hall.out
            rw [hkk, List.take_of_length_le (by rw [HDZ.out]; exact Nat.le_refl _)] at this
            exact this
          have hkd : decide (k < s.size) = false := decide_eq_false (by omega)
          have hp' : 0 < s.size := by omega
          have hg0 := get_list s 0 hp'
          obtain ⟨x, hx⟩ : ∃ x : Nat, s[0].toNat = x := ⟨_, rfl⟩
          have hhead : (body l).head? = some s[0] := by
            rw [← HD.out, hg0, List.head?_eq_getElem?, List.getElem?_eq_getElem (by rw [HDZ.out]; exact hp')]
          have h48i : s[0] = 48 ↔ x = 48 := by
            rw [← hx]
            exact ⟨fun h => by rw [h]; rfl, fun h => UInt8.toNat_inj.1 (by rw [h]; rfl)⟩
          have HALL := Lib.hid hall'
          have HHEAD := Lib.hid hhead
          have H48 := Lib.hid h48i
          have hbl : (body l).length = s.size := by rw [← HD.out]; exact HDZ.out
          have HBL := Lib.hid hbl
          clear hkk hall' hg0 hhead h48i hkl hbl
          by_cases hx48 : x = 48
          · by_cases h1 : (1 : Int) < ((s.size : Nat) : Int)
            · have hr3 : r = 3 := by
                rw [HR.out]
                exact chk_form HNE.out HALL.out (by rw [HHEAD.out, H48.out.2 hx48]) (.inl (by rw [HBL.out]; omega))
              subst hr3
              have h1d : decide ((1 : Int) < ((s.size : Nat) : Int)) = true := decide_eq_true h1
              subst hx48
              go_wp2_with fail
              go_returns
              exact ⟨rfl, rfl⟩
            · have hr0 : r = 0 := by
                rw [HR.out]
                refine chk_fine HNE.out HALL.out (fun h => ?_)
                rcases h.2 with h | h
                · rw [HBL.out] at h; omega
                · exact hhd.out h
              subst hr0
              have h1' : ((s.size : Nat) : Int) ≤ 1 := by omega
              have h1d : decide ((1 : Int) < ((s.size : Nat) : Int)) = false := decide_eq_false h1
              have h1e : decide (1 < s.size) = false := decide_eq_false (by omega)
              clear h1
              subst hx48
              go_wp2_with fail
              go_returns
              exact ⟨rfl, rfl⟩
          · have hr0 : r = 0 := by
              rw [HR.out]
              refine chk_fine HNE.out HALL.out (fun h => ?_)
              rw [HHEAD.out] at h
              exact hx48 (H48.out.1 (by simpa using h.1))
            subst hr0
            have hxe : (((x : Nat) : Int) == 48) = false := by rw [beq_eq_false_iff_ne]; omega
            clear hx48
            go_wp2_with fail
            go_returns
            exact ⟨rfl, rfl⟩

theorem rcheck_walk (s : ByteArray) (w : World) (hm : s.size ≤ 9223372036854775807) :
    Calls Tryd.prog 22 #[.string s] w fun e w' => e = .returned (.int .i64 (chkS s : Nat)) ∧ w = w' := by
  unfold chkS
  by_cases hl : 65536 < s.size
  · rw [if_pos hl]
    have hl' : (65536 : Int) < ((s.size : Nat) : Int) := by omega
    go_enter Tryd.func22, Tryd.ntmps22
    go_wp2_with fail
    go_returns
    exact ⟨rfl, rfl⟩
  · rw [if_neg hl]
    by_cases h0 : s.size = 0
    · have he : s = ⟨#[]⟩ := by
        apply ByteArray.ext
        exact Array.eq_empty_of_size_eq_zero h0
      subst he
      rw [show chk (⟨#[]⟩ : ByteArray).data.toList = 14 from rfl]
      go_enter Tryd.func22, Tryd.ntmps22
      go_wp2_with fail
      go_returns
      exact ⟨rfl, rfl⟩
    · have hp : 0 < s.size := by omega
      have hhead : s.data.toList.head? = some s[0] := by
        rw [get_list s 0 hp, List.head?_eq_getElem?, List.getElem?_eq_getElem (by rw [list_size]; exact hp)]
      by_cases h45 : s[0].toNat = 45
      · have h45' : s[0] = 45 := UInt8.toNat_inj.1 (by rw [h45]; rfl)
        have hh : s.data.toList.head? = some 45 := by rw [hhead, h45']
        refine rcheck_core s (s.extract 1 s.size) w (by omega) (by omega) ?_ (.inl ⟨h45, rfl, Lib.hid hh⟩)
        rw [extract_list, List.take_of_length_le (by rw [list_size]; exact Nat.le_refl _), List.drop_one]
        unfold body; rw [if_pos hh]
      · have hh : s.data.toList.head? ≠ some 45 := by
          rw [hhead]
          intro h
          simp only [Option.some.injEq] at h
          exact h45 (by rw [h]; rfl)
        refine rcheck_core s s w (by omega) (by omega) ?_ (.inr ⟨by rw [beq_eq_false_iff_ne]; omega, rfl, Lib.hid hh⟩)
        unfold body; rw [if_neg hh]
end Go.Proofs.YtjeaemoiafamaaaDoor
