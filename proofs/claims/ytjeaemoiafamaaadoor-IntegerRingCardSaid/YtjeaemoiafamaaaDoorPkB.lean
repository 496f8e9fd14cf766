/- Texts of this proof, laid together: Base Own Trim Signed Plus Minus Scale Short Order Raised Mul Add AddGe Small SubCmp From Floor. -/
import Derived.Test.YtjeaemoiafamaaaDoorProg
import Derived.Test.YtjeaemoiafamaaaDoorPkA
import Derived.WalkKit
import Derived.WalkLawsBesides
import Derived.WalkSpells
import Derived.Lib.Hide
import Derived.Handy
import Derived.BigQuiet
import Derived.Deep.QuietTactic
import Derived.Deep.RegionHeld3
import Derived.StillTailTactics
import Derived.Deep.RegionWith
import Derived.Deep.DeepCutAuto
import Derived.Deep.CutBlock
import Derived.Laws.OwnMore

/- Words for memory that all walks of this seat use: a run of cells, digits, a slice's length. -/
namespace Go.Proofs.YtjeaemoiafamaaaDoor
open Go.RowKit

/-- The length of a slice value. -/
def slen : Value → Nat
  | .slice _ n _ => n
  | _ => 0
theorem slen_slice (A : Option Addr) (n c : Nat) : slen (.slice A n c) = n := rfl

/-- A digit of type uint32 stands in a block of this element type. -/
def BT (w : World) (b : Nat) (v : Value) : Prop := ∃ cs e fr, w.heap[b]? = some (.cells cs e fr) ∧ ∀ z, v = .int .u32 z → e = 60
theorem BT.of_eq {w w' : World} {b : Nat} {v : Value} (h : BT w b v) (e : w'.heap[b]? = w.heap[b]?) : BT w' b v := by
  obtain ⟨cs, t, fr, h1, h2⟩ := h
  exact ⟨cs, t, fr, e.trans h1, h2⟩
/-- 'n' cells from the address on read as 'f'. -/
def Cells (w : World) (A : Option Addr) (n : Nat) (f : Nat → Value) : Prop :=
  n = 0 ∨ ∃ b off, A = some ⟨b, off, none⟩ ∧ (∀ j, j < n → w.cell? ⟨b, off + j, none⟩ = some (f j)) ∧ BT w b (f 0)

theorem Cells.at_ {w : World} {A : Option Addr} {n : Nat} {f : Nat → Value} (h : Cells w A n f) (hn : 0 < n) :
    ∃ b off, A = some ⟨b, off, none⟩ ∧ b < w.heap.size ∧ ∀ j, j < n → w.cell? ⟨b, off + j, none⟩ = some (f j) := by
  rcases h with h | ⟨b, off, hA, hc, _⟩
  · omega
  · exact ⟨b, off, hA, World.block_lt_of_cell? w _ (hc 0 hn), hc⟩

theorem Cells.below {w w' : World} {A : Option Addr} {n : Nat} {f : Nat → Value} (h : Cells w A n f) (hb : Below w.heap.size w w') : Cells w' A n f := by
  rcases h with h | ⟨b, off, hA, hc, ht⟩
  · exact .inl h
  · refine .inr ⟨b, off, hA, fun j hj => (hb.cell (World.block_lt_of_cell? w _ (hc j hj))).trans (hc j hj), ht.of_eq (hb.block b ?_)⟩
    obtain ⟨_, _, _, h1, _⟩ := ht
    exact (Array.getElem?_eq_some_iff.1 h1).1

theorem Cells.take {w : World} {A : Option Addr} {n m : Nat} {f : Nat → Value} (h : Cells w A n f) (hm : m ≤ n) : Cells w A m f := by
  rcases h with h | ⟨b, off, hA, hc, ht⟩
  · exact .inl (by omega)
  · exact .inr ⟨b, off, hA, fun j hj => hc j (by omega), ht⟩

theorem Cells.congr {w : World} {A : Option Addr} {n : Nat} {f g : Nat → Value} (h : Cells w A n f) (hfg : ∀ j, j < n → f j = g j) : Cells w A n g := by
  rcases h with h | ⟨b, off, hA, hc, ht⟩
  · exact .inl h
  · rcases Nat.eq_zero_or_pos n with h0 | h0
    · exact .inl h0
    · exact .inr ⟨b, off, hA, fun j hj => (hc j hj).trans (by rw [hfg j hj]), by rw [← hfg 0 h0]; exact ht⟩

/-- Digits in memory. -/
def U32 (w : World) (A : Option Addr) (l : List Nat) : Prop := Cells w A l.length (fun j => .int .u32 (dg l j : Nat))
/-- Numbers of type int in memory. -/
def I64 (w : World) (A : Option Addr) (l : List Int) : Prop := Cells w A l.length (fun j => .int .i64 (l.getD j 0))

theorem U32.trimmed {w : World} {A : Option Addr} {l : List Nat} (h : U32 w A l) (hd : Dig l) : U32 w A (digs (val l)) := by
  obtain ⟨h1, h2⟩ := digs_val_take hd
  refine (Cells.take h h1).congr fun j hj => ?_
  rw [← h2, dg_take, if_pos hj]
theorem U32.below {w w' : World} {A : Option Addr} {l : List Nat} (h : U32 w A l) (hb : Below w.heap.size w w') : U32 w' A l := Cells.below h hb

/-- A slice value that reads as digits. -/
def IsU32 (w : World) (v : Value) (l : List Nat) : Prop := ∃ A c, v = .slice A l.length c ∧ l.length ≤ c ∧ c ≤ maxLen ∧ U32 w A l ∧ Dig l
theorem IsU32.below {w w' : World} {v : Value} {l : List Nat} (h : IsU32 w v l) (hb : Below w.heap.size w w') : IsU32 w' v l := by
  obtain ⟨A, c, hv, hl, hc, hu, hd⟩ := h
  exact ⟨A, c, hv, hl, hc, Cells.below hu hb, hd⟩

/-- Block g is just these cells, of element type e, none frozen. -/
def Row (w : World) (g : Nat) (e : TypeId) (cs : List Value) : Prop := w.heap[g]? = some (.cells cs.toArray e (0, 0))
section
variable {w w' : World} {g : Nat} {e : TypeId} {cs : List Value}
theorem Row.lt (h : Row w g e cs) : g < w.heap.size := (Array.getElem?_eq_some_iff.1 h).1
theorem Row.cell (h : Row w g e cs) (j : Nat) : w.cell? ⟨g, j, none⟩ = cs[j]? := by
  rw [cell_of_row w g j _ _ (0, 0) h]; simp
theorem Row.free (h : Row w g e cs) (j : Nat) : w.frozen? ⟨g, j, none⟩ = false := frozen_of_row w g j _ _ h
theorem Row.set (h : Row w g e cs) (j : Nat) (v : Value) : Row (w.setCell ⟨g, j, none⟩ v) g e (cs.set j v) := by
  unfold Row
  rw [heap_setCell_same w g j _ _ _ h]
  simp
theorem Row.at_ (h : Row w g e cs) (j : Nat) {v : Value} (hv : cs[j]? = some v) : w.cell? ⟨g, j, none⟩ = some v := by rw [h.cell, hv]
theorem Row.below (h : Row w g e cs) {B : Nat} (hb : Below B w w') (hg : g < B) : Row w' g e cs := (hb.block g hg).trans h
theorem Row.made {base n : Nat} {z : Value} (h : w.ownsRow base e 1 (.slice (some ⟨g, 0, none⟩) n n) n (madeCells #[z] n).toList) : Row w g e (List.replicate n z) := by
  rcases h.2 with ⟨h', _⟩ | ⟨g', cap, cur, h', _, hg, _, _, hs, htake⟩
  · simp at h'
  · simp only [Value.slice.injEq, Option.some.injEq, Addr.mk.injEq, and_true, true_and] at h'
    obtain ⟨rfl, rfl⟩ := h'
    unfold Row
    rw [hg]
    have e1 : cur.toList = List.replicate n z := by
      rw [← toList_madeCells_one z n, ← htake, List.take_of_length_le]
      rw [Array.length_toList, hs]; omega
    rw [← e1]
end

theorem heap_new (w : World) (o : Obj) : (w.alloc o).heap[w.heap.size]? = some o := heap_alloc_new w o
theorem heap_old (w : World) (o o' : Obj) (k : Nat) (h : w.heap[k]? = some o') : (w.alloc o).heap[k]? = some o' := by
  rw [Below.heap_alloc w o k (Array.getElem?_eq_some_iff.1 h).1]; exact h
theorem size_alloc (w : World) (o : Obj) : (w.alloc o).heap.size = w.heap.size + 1 := by simp
/-- One, two, three new blocks. -/
theorem boxes1 (w : World) (o1 : Obj) : (w.alloc o1).heap[w.heap.size]? = some o1 ∧ (w.alloc o1).heap.size = w.heap.size + 1 ∧ Below w.heap.size w (w.alloc o1) :=
  ⟨heap_new _ _, size_alloc _ _, (Below.refl _ _).alloc (Nat.le_refl _) _⟩
theorem boxes2 (w : World) (o1 o2 : Obj) : ((w.alloc o1).alloc o2).heap[w.heap.size]? = some o1 ∧ ((w.alloc o1).alloc o2).heap[w.heap.size + 1]? = some o2 ∧ ((w.alloc o1).alloc o2).heap.size = w.heap.size + 2 ∧ Below w.heap.size w ((w.alloc o1).alloc o2) :=
  ⟨heap_old _ _ _ _ (heap_new _ _), by rw [← size_alloc w o1]; exact heap_new _ _, by rw [size_alloc, size_alloc], by go_grown⟩
theorem boxes3 (w : World) (o1 o2 o3 : Obj) : (((w.alloc o1).alloc o2).alloc o3).heap[w.heap.size]? = some o1 ∧ (((w.alloc o1).alloc o2).alloc o3).heap[w.heap.size + 1]? = some o2 ∧ (((w.alloc o1).alloc o2).alloc o3).heap[w.heap.size + 2]? = some o3 ∧
    (((w.alloc o1).alloc o2).alloc o3).heap.size = w.heap.size + 3 ∧ Below w.heap.size w (((w.alloc o1).alloc o2).alloc o3) :=
  ⟨heap_old _ _ _ _ (heap_old _ _ _ _ (heap_new _ _)), heap_old _ _ _ _ (by rw [← size_alloc w o1]; exact heap_new _ _), by rw [show w.heap.size + 2 = ((w.alloc o1).alloc o2).heap.size by rw [size_alloc, size_alloc]]; exact heap_new _ _,
   by rw [size_alloc, size_alloc, size_alloc], by go_grown⟩

/-- 'make([]T, n)', n a variable, one cell an element: a new block of n zeros. -/
theorem wpList_mk {P : Program} (w : World) {ops : Array Oper} {rest : List Oper} {o : Oper} {a : Act} {Q : Exit → Act → World → Prop}
    (hg : o.guard = none) (l c : Operand) (t : TypeId) (hop : o.op = Op.makeSlice t l c)
    (e : TypeId) (i : TypeInfo) (z : Value) (h1 : P.underlying t = some (.slice e)) (h2 : P.info? e = some i) (h3 : i.zero = some z) (h4 : i.size = 1) (hz : z.cells = #[z])
    (L C : Int) (n : Nat) (hl : a.eval l = .int .i64 L) (hc : a.eval c = .int .i64 C) (hL : L = (n : Int)) (hC : C = (n : Int)) (b2 : i.bytes * n ≤ 281474976710656)
    (b3 : n ≤ maxLen)
    (hK : ∀ w', Row w' w.heap.size e (List.replicate n z) → Below w.heap.size w w' → w.heap.size < w'.heap.size → wpList P ops Q rest (a.put o.dst (.slice (some ⟨w.heap.size, 0, none⟩) n n)) w') :
    wpList P ops Q (o :: rest) a w := by
  refine wpList_make_full w hg l c t hop w.heap.size e i z 1 h1 h2 h3 h4 .i64 .i64 L C n hl hc hL hC b2 b3 (Nat.le_refl _) ?_
  intro w' hown hgr
  rw [hz, Nat.mul_one] at hown
  have hr := Row.made hown
  exact hK w' hr ((Below.refl _ _).grown hgr (Nat.le_refl _) (by simp)) hr.lt

/-- Block g is just these digits, of type uint32. -/
def Row32 (w : World) (g : Nat) (l : List Nat) : Prop := Row w g 60 (l.map (fun d => Value.int .u32 (d : Nat)))
section
variable {w w' : World} {g : Nat} {l : List Nat}
theorem Row32.lt (h : Row32 w g l) : g < w.heap.size := Row.lt h
theorem Row32.cell (h : Row32 w g l) {j : Nat} (hj : j < l.length) : w.cell? ⟨g, j, none⟩ = some (.int .u32 (dg l j : Nat)) := by
  rw [Row.cell h, dg_lt hj]
  simp [hj]
theorem Row32.free (h : Row32 w g l) (j : Nat) : w.frozen? ⟨g, j, none⟩ = false := Row.free h j
theorem Row32.set (h : Row32 w g l) (j x : Nat) {v : Value} (hv : v = .int .u32 (x : Nat)) : Row32 (w.setCell ⟨g, j, none⟩ v) g (l.set j x) := by
  subst hv
  have := Row.set h j (.int .u32 (x : Nat))
  unfold Row32
  rwa [List.map_set]
theorem Row32.u32 (h : Row32 w g l) : U32 w (some ⟨g, 0, none⟩) l := by
  rcases Nat.eq_zero_or_pos l.length with h0 | h0
  · exact .inl h0
  · exact .inr ⟨g, 0, rfl, fun j hj => by rw [Nat.zero_add]; exact h.cell hj, _, _, _, h, fun _ _ => rfl⟩
theorem Row32.below (h : Row32 w g l) {B : Nat} (hb : Below B w w') (hg : g < B) : Row32 w' g l := Row.below h hb hg
theorem Row32.made {n : Nat} (h : Row w g 60 (List.replicate n (Value.int .u32 0))) : Row32 w g (List.replicate n 0) := by
  unfold Row32
  rwa [List.map_replicate]
end
theorem info32 : (Tryd.prog.info? 60).map (fun i => (i.zero, i.size, i.bytes)) = some (some (.int .u32 0), 1, 4) := by kernel_rfl

theorem bbelow {B : Nat} {w w' : World} (hb : Below B w w') : (∀ b o, b < B → w'.cell? ⟨b, o, none⟩ = w.cell? ⟨b, o, none⟩) ∧ (∀ b o, b < B → w'.frozen? ⟨b, o, none⟩ = w.frozen? ⟨b, o, none⟩) :=
  ⟨fun b o h => hb.cell (p := ⟨b, o, none⟩) h, fun b o h => hb.frozen (p := ⟨b, o, none⟩) h⟩

theorem nat_or_add (i a b : Nat) (ha : a % 2 ^ i = 0) (hb : b < 2 ^ i) : a ||| b = a + b := by
  have hq : a = 2 ^ i * (a / 2 ^ i) := by
    have := Nat.div_add_mod a (2 ^ i)
    omega
  rw [hq, ← Nat.two_pow_add_eq_or_of_lt hb (a / 2 ^ i)]
theorem or64 (i a b : Nat) (ha : a % 2 ^ i = 0) (hb : b < 2 ^ i) (hs : a + b < 18446744073709551616) : bits .or .u64 (a : Int) (b : Int) = ((a + b : Nat) : Int) := by
  rw [u64_or_nat a b (by omega) (by omega), nat_or_add i a b ha hb]
theorem or32 (i a b : Nat) (ha : a % 2 ^ i = 0) (hb : b < 2 ^ i) (hs : a + b < 4294967296) : bits .or .u32 (a : Int) (b : Int) = ((a + b : Nat) : Int) := by
  rw [u32_or_nat a b (by omega) (by omega), nat_or_add i a b ha hb]
theorem bits_or_comm (k : IntKind) (x y : Int) : bits .or k x y = bits .or k y x := by simp only [bits, BitVec.or_comm]
/-- 'x<<32 | y' for a number x and a digit y. -/
theorem or_shl32 (r d : Nat) (hr : r < 4294967296) (hd : d < 4294967296) : bits .or .u64 ((r : Int) * 4294967296) (d : Int) = ((r * 4294967296 + d : Nat) : Int) := by
  have := or64 32 (r * 4294967296) d (by omega) (by omega) (by omega)
  rw [← this]; simp

/-- A run of cells is kept while another block is written: one whose cells are of another make. -/
theorem Cells.kept {w w' : World} {A : Option Addr} {n g : Nat} {e : TypeId} {f : Nat → Value} {cs : List Value} (h : Cells w A n f) (hg : w.grownBy w' (some g)) (hr : Row w g e cs) (hno : ∀ j, ∀ v ∈ cs, f j ≠ v) : Cells w' A n f := by
  rcases h with h | ⟨b, off, hA, hc, ht⟩
  · exact .inl h
  · rcases Nat.eq_zero_or_pos n with h0 | h0
    · exact .inl h0
    have hb : b ≠ g := by
      intro hb
      subst hb
      have hcj := hc 0 h0
      rw [hr.cell] at hcj
      exact absurd rfl (hno 0 _ (List.mem_of_getElem? hcj))
    refine .inr ⟨b, off, hA, fun j hj => hg.cell (hc j hj) (by simp; exact hb), ht.of_eq (hg.block b ?_ (by simp; exact hb))⟩
    obtain ⟨_, _, _, h1, _⟩ := ht
    exact (Array.getElem?_eq_some_iff.1 h1).1
theorem Cells.grownBy' {w w' : World} {b off n g : Nat} {f : Nat → Value} (h : Cells w (some ⟨b, off, none⟩) n f) (hg : w.grownBy w' (some g)) (hne : b ≠ g) : Cells w' (some ⟨b, off, none⟩) n f := by
  rcases h with h | ⟨b', off', hA, hc, ht⟩
  · exact .inl h
  · simp only [Option.some.injEq, Addr.mk.injEq, and_true] at hA
    obtain ⟨rfl, rfl⟩ := hA
    refine .inr ⟨b, off, rfl, fun j hj => hg.cell (hc j hj) (by simp; exact hne), ht.of_eq (hg.block b ?_ (by simp; exact hne))⟩
    obtain ⟨_, _, _, h1, _⟩ := ht
    exact (Array.getElem?_eq_some_iff.1 h1).1
theorem U32.kept {w w' : World} {A : Option Addr} {l : List Nat} {g : Nat} {e : TypeId} {cs : List Value} (h : U32 w A l) (hg : w.grownBy w' (some g)) (hr : Row w g e cs) (hno : ∀ v ∈ cs, ∀ n : Int, v ≠ .int .u32 n) : U32 w' A l :=
  Cells.kept h hg hr (fun _ v hv he => hno v hv _ he.symm)
theorem grownBy_set (w : World) (g i : Nat) (v : Value) : w.grownBy (w.setCell ⟨g, i, none⟩ v) (some g) :=
  ⟨rfl, rfl, rfl, by simp, fun k _ hk => heap_setCell_other w ⟨g, i, none⟩ k v (fun e => hk (by simp [e]))⟩
theorem grownBy_trans {w w' w'' : World} {r : Option Nat} (h : w.grownBy w' r) (h' : w'.grownBy w'' r) : w.grownBy w'' r :=
  ⟨h'.os.trans h.os, h'.tape.trans h.tape, h'.output.trans h.output, Nat.le_trans h.size h'.size, fun k hk hr => (h'.block k (Nat.lt_of_lt_of_le hk h.size) hr).trans (h.block k hk hr)⟩
theorem grownBy_set2 (w : World) (g i j : Nat) (v u : Value) : w.grownBy ((w.setCell ⟨g, i, none⟩ v).setCell ⟨g, j, none⟩ u) (some g) := grownBy_trans (grownBy_set _ _ _ _) (grownBy_set _ _ _ _)

theorem cell_far (w : World) (g i b o : Nat) (v : Value) (h : b ≠ g) : (w.setCell ⟨g, i, none⟩ v).cell? ⟨b, o, none⟩ = w.cell? ⟨b, o, none⟩ :=
  World.cell?_setCell_other w ⟨g, i, none⟩ ⟨b, o, none⟩ v (fun e => h (congrArg Addr.block e).symm)
theorem cell_far2 (w : World) (g i j b o : Nat) (v u : Value) (h : b ≠ g) : ((w.setCell ⟨g, i, none⟩ v).setCell ⟨g, j, none⟩ u).cell? ⟨b, o, none⟩ = w.cell? ⟨b, o, none⟩ :=
  (cell_far _ g j b o u h).trans (cell_far w g i b o v h)

/-- Nothing but the count of draws has turned. -/
def Drew (w w' : World) : Prop := ∃ n, w' = w.drewN n
theorem Drew.refl (w : World) : Drew w w := ⟨0, rfl⟩
theorem Drew.mk (w : World) (n : Nat) : Drew w (w.drewN n) := ⟨n, rfl⟩
theorem below_drewN (B : Nat) (w : World) (n : Nat) : Below B w (w.drewN n) := ⟨rfl, rfl, rfl, Nat.le_refl _, fun _ _ => rfl⟩
theorem Drew.step {w w' : World} (h : Drew w w') (n : Nat) : Drew w (w'.drewN n) := by
  obtain ⟨m, rfl⟩ := h
  exact ⟨m + n, by simp [World.drewN]; try omega⟩
theorem Drew.below {w w' : World} (h : Drew w w') (B : Nat) : Below B w w' := by obtain ⟨n, rfl⟩ := h; exact below_drewN B w n

end Go.Proofs.YtjeaemoiafamaaaDoor

/- A slice of the call's own with spare room: what append and Clone make. -/
namespace Go.Proofs.YtjeaemoiafamaaaDoor
open Go.RowKit

/-- The slice at the head of block g, of capacity cap, owns the cells xs (one cell an element). -/
def Own (w : World) (base : Nat) (e : TypeId) (g cap : Nat) (xs : List Value) : Prop :=
  w.ownsRow base e 1 (.slice (some ⟨g, 0, none⟩) xs.length cap) xs.length xs
section
variable {w w' : World} {base g cap : Nat} {e : TypeId} {xs : List Value}
theorem Own.lt (h : Own w base e g cap xs) : base ≤ g ∧ g < w.heap.size := World.ownsRow.lt h g rfl
theorem Own.le (h : Own w base e g cap xs) : xs.length ≤ cap ∧ cap ≤ maxLen := by
  rcases h.2 with ⟨h', _⟩ | ⟨g', cap', cur, h', _, _, h1, h2, _⟩
  · simp at h'
  · simp only [Value.slice.injEq, Option.some.injEq, Addr.mk.injEq, and_true, true_and] at h'
    obtain ⟨rfl, rfl⟩ := h'
    exact ⟨h1, h2⟩
theorem Own.cell (h : Own w base e g cap xs) {j : Nat} (hj : j < xs.length) : w.cell? ⟨g, j, none⟩ = xs[j]? := World.ownsRow.cellAt h j (by omega)
theorem Own.free (h : Own w base e g cap xs) (j : Nat) : w.frozen? ⟨g, j, none⟩ = false := World.ownsRow.frozenAt h j
theorem Own.set (h : Own w base e g cap xs) (j : Nat) (v : Value) : Own (w.setCell ⟨g, j, none⟩ v) base e g cap (xs.set j v) := by
  have := (World.ownsRow.stored h j v).1
  unfold Own
  rwa [List.length_set]
theorem Own.below (h : Own w base e g cap xs) {B : Nat} (hb : Below B w w') (hg : g < B) : Own w' base e g cap xs := by
  rcases h.2 with ⟨h', _⟩ | ⟨g', cap', cur, h', hbg, hh, rest⟩
  · simp at h'
  · simp only [Value.slice.injEq, Option.some.injEq, Addr.mk.injEq, and_true, true_and] at h'
    obtain ⟨rfl, rfl⟩ := h'
    exact ⟨h.1, .inr ⟨g, cap, cur, rfl, hbg, (hb.block g hg).trans hh, rest⟩⟩
theorem Own.of_owns {v : Value} {n : Nat} (h : w.ownsRow base e 1 v n xs) (hn : v ≠ .slice none 0 0) : ∃ g cap, v = .slice (some ⟨g, 0, none⟩) n cap ∧ n = xs.length ∧ Own w base e g cap xs := by
  have hl : n = xs.length := by have := h.1; omega
  subst hl
  rcases h.2 with ⟨h', _⟩ | ⟨g, cap, cur, hv, _⟩
  · exact absurd h' hn
  · subst hv; exact ⟨g, cap, rfl, rfl, h⟩
end

/-- The same over digits. -/
def Own32 (w : World) (base g cap : Nat) (l : List Nat) : Prop := Own w base 60 g cap (l.map (fun d => Value.int .u32 (d : Nat)))
section
variable {w w' : World} {base g cap : Nat} {l : List Nat}
theorem Own32.lt (h : Own32 w base g cap l) : base ≤ g ∧ g < w.heap.size := Own.lt h
theorem Own32.le (h : Own32 w base g cap l) : l.length ≤ cap ∧ cap ≤ maxLen := by have := Own.le h; rwa [List.length_map] at this
theorem Own32.cell (h : Own32 w base g cap l) {j : Nat} (hj : j < l.length) : w.cell? ⟨g, j, none⟩ = some (.int .u32 (dg l j : Nat)) := by
  rw [Own.cell h (by rw [List.length_map]; exact hj), dg_lt hj]
  simp [hj]
theorem Own32.free (h : Own32 w base g cap l) (j : Nat) : w.frozen? ⟨g, j, none⟩ = false := Own.free h j
theorem Own32.set (h : Own32 w base g cap l) (j x : Nat) {v : Value} (hv : v = .int .u32 (x : Nat)) : Own32 (w.setCell ⟨g, j, none⟩ v) base g cap (l.set j x) := by
  subst hv
  have := Own.set h j (.int .u32 (x : Nat))
  unfold Own32
  rwa [List.map_set]
theorem Own.bt {e : TypeId} {xs : List Value} (h : Own w base e g cap xs) (v : Value) (hv : ∀ z, v = .int .u32 z → e = 60) : BT w g v := by
  rcases h.2 with ⟨h', _⟩ | ⟨g', cap', cur, h', _, hh, _⟩
  · simp at h'
  · simp only [Value.slice.injEq, Option.some.injEq, Addr.mk.injEq, and_true, true_and] at h'
    obtain ⟨rfl, rfl⟩ := h'
    exact ⟨_, _, _, hh, hv⟩
theorem Own32.u32 (h : Own32 w base g cap l) : U32 w (some ⟨g, 0, none⟩) l :=
  .inr ⟨g, 0, rfl, fun j hj => by rw [Nat.zero_add]; exact h.cell hj, Own.bt h _ fun _ _ => rfl⟩
theorem Own32.drew (h : Own32 w base g cap l) : Own32 w.drew base g cap l := h
end

end Go.Proofs.YtjeaemoiafamaaaDoor

/- integer.trim: a slice of digits without zeros at its end. -/
namespace Go.Proofs.YtjeaemoiafamaaaDoor
open Go.RowKit

theorem trim_walk (A : Option Addr) (n c : Nat) (l : List Nat) (w : World) (hn : n = l.length) (hc : n ≤ c) (hm : c ≤ maxLen) (h : U32 w A l) (hd : Dig l) :
    Calls Tryd.prog 67 #[.slice A n c] w fun e w' => e = .returned (.slice A (digs (val l)).length c) ∧ (digs (val l)).length ≤ l.length ∧ w = w' := by
  unfold maxLen at hm
  subst hn
  obtain ⟨fin, hfin⟩ : ∃ fin : Nat → Prop, ∀ k, fin k ↔ (k ≤ l.length ∧ (∀ j, k ≤ j → j < l.length → dg l j = 0) ∧ (0 < k → dg l (k - 1) ≠ 0)) := ⟨_, fun _ => Iff.rfl⟩
  have key : Calls Tryd.prog 67 #[.slice A l.length c] w fun e w' => (∃ k, fin k ∧ e = .returned (.slice A k c)) ∧ w = w' := by
    have HF := Lib.hid hfin
    clear hfin
    go_enter Tryd.func67, Tryd.ntmps67
    go_wp2
    go_loop [0] (fun v => ∃ k, k ≤ l.length ∧ v = .slice A k c ∧ (∀ j, k ≤ j → j < l.length → dg l j = 0)) (fun v => slen v)
    case atStart => exact ⟨l.length, Nat.le_refl _, rfl, fun j h1 h2 => absurd h1 (by omega)⟩
    case round =>
      obtain ⟨k, hk, rfl, hz⟩ := hrel
      have HZ := Lib.hid hz
      clear hz
      by_cases h0 : 0 < k
      · obtain ⟨b, off, rfl, hb, hcell⟩ := Cells.at_ h (by omega)
        have hc1 := hcell (k-1) (by omega)
        have H := Lib.hid h
        clear hcell h
        go_wp2
        · have h0' : (((dg l (k - 1) : Nat) : Int) == 0) = true := by assumption
          have h00 : dg l (k - 1) = 0 := by simpa using h0'
          go_round
          case rel =>
            refine ⟨k - 1, by omega, rfl, fun j h1 h2 => ?_⟩
            by_cases hj : j = k - 1
            · rw [hj]; exact h00
            · exact HZ.out j (by omega) h2
          case measure => simp only [slen_slice]; omega
        · have h0' : (((dg l (k - 1) : Nat) : Int) == 0) = false := by assumption
          go_ret
          exact ⟨⟨k, (HF.out k).2 ⟨hk, HZ.out, fun _ h => by rw [h] at h0'; simp at h0'⟩, rfl⟩, rfl⟩
      · obtain rfl : k = 0 := by omega
        go_wp2
        go_ret
        exact ⟨⟨0, (HF.out 0).2 ⟨hk, HZ.out, fun h => absurd h (by omega)⟩, rfl⟩, rfl⟩
  refine key.mono ?_
  rintro e w' ⟨⟨k, hk, he⟩, hw⟩
  obtain ⟨h1, h2, h3⟩ := (hfin k).1 hk
  have ht := take_can hd h1 h2 h3
  have hl : (digs (val l)).length = k := by rw [← ht, List.length_take]; omega
  exact ⟨by rw [hl]; exact he, by omega, hw⟩

end Go.Proofs.YtjeaemoiafamaaaDoor

/- integer.signed: the integer with a sign and digits. -/
namespace Go.Proofs.YtjeaemoiafamaaaDoor
open Go.RowKit

/-- A slice value that reads as the magnitude n. -/
def IsMag (w : World) (v : Value) (n : Nat) : Prop :=
  ∃ A c, v = .slice A (digs n).length c ∧ (digs n).length ≤ c ∧ c ≤ maxLen ∧ U32 w A (digs n)
/-- A value of type integer.Int that reads as the integer n. -/
def IsInt (w : World) (v : Value) (n : Int) : Prop :=
  ∃ A c, v = .agg #[.bool (decide (n < 0)), .slice A (digs n.natAbs).length c] ∧ (digs n.natAbs).length ≤ c ∧ c ≤ maxLen ∧ U32 w A (digs n.natAbs)

theorem IsMag.below {w w' : World} {v : Value} {n : Nat} (h : IsMag w v n) (hb : Below w.heap.size w w') : IsMag w' v n := by
  obtain ⟨A, c, hv, hl, hc, hu⟩ := h
  exact ⟨A, c, hv, hl, hc, Cells.below hu hb⟩
theorem IsInt.below {w w' : World} {v : Value} {n : Int} (h : IsInt w v n) (hb : Below w.heap.size w w') : IsInt w' v n := by
  obtain ⟨A, c, hv, hl, hc, hu⟩ := h
  exact ⟨A, c, hv, hl, hc, Cells.below hu hb⟩
theorem IsMag.isU32 {w : World} {v : Value} {n : Nat} (h : IsMag w v n) : IsU32 w v (digs n) := by
  obtain ⟨A, c, hv, hl, hc, hu⟩ := h
  exact ⟨A, c, hv, hl, hc, hu, dig_digs n⟩
theorem IsInt.shape {w : World} {v : Value} {n : Int} (h : IsInt w v n) : ∃ s A l c, v = .agg #[.bool s, .slice A l c] := by
  obtain ⟨A, c, hv, _⟩ := h
  exact ⟨_, _, _, _, hv⟩
/-- What stands behind the store of an integer into a result's block. -/
theorem res_store {w W w2 : World} {rb : Nat} {x y p q : Value} {n : Int} (hWB : Below w.heap.size w W) (r : Row w2 rb 25 [p, q]) (hp : ∀ n : Int, p ≠ .int .u32 n) (hq : ∀ n : Int, q ≠ .int .u32 n) (hrb : w.heap.size ≤ rb) (hb2 : Below W.heap.size W w2) (hi : IsInt w2 (.agg #[x, y]) n) :
    IsInt ((w2.setCell ⟨rb, 0, none⟩ x).setCell ⟨rb, 1, none⟩ y) (.agg #[x, y]) n ∧ Below w.heap.size w ((w2.setCell ⟨rb, 0, none⟩ x).setCell ⟨rb, 1, none⟩ y) := by
  obtain ⟨A, c, hv, h1, h2, h3⟩ := hi
  refine ⟨⟨A, c, hv, h1, h2, h3.kept (grownBy_set2 _ _ _ _ _ _) r ?_⟩, ?_⟩
  · intro v hv n
    simp only [List.mem_cons, List.not_mem_nil, or_false] at hv
    rcases hv with rfl | rfl
    · exact hp n
    · exact hq n
  · have hbW2 : Below w.heap.size w w2 := hWB.trans (hb2.mono hWB.size)
    exact (hbW2.setCell (p := ⟨rb, 0, none⟩) hrb _).setCell (p := ⟨rb, 1, none⟩) hrb _

/-- The integer with a sign and a magnitude. -/
def sgn (neg : Bool) (n : Nat) : Int := if neg then -(n : Int) else n
theorem sgn_natAbs (neg : Bool) (n : Nat) : (sgn neg n).natAbs = n := by unfold sgn; split <;> omega
theorem sgn_neg (neg : Bool) (n : Nat) : decide (sgn neg n < 0) = (neg && decide (0 < n)) := by
  unfold sgn; cases neg <;> simp <;> omega

theorem sgn_mul (x y : Int) : sgn (decide (x < 0) != decide (y < 0)) (x.natAbs * y.natAbs) = x * y := by
  obtain ⟨a, rfl | rfl⟩ := Int.eq_nat_or_neg x <;> obtain ⟨b, rfl | rfl⟩ := Int.eq_nat_or_neg y <;>
    rcases Nat.eq_zero_or_pos a with h | h <;> rcases Nat.eq_zero_or_pos b with h' | h' <;> simp [sgn, h, h', Int.natAbs_neg, Int.mul_neg, Int.neg_mul] <;> omega

theorem signed_walk (neg : Bool) (v : Value) (l : List Nat) (w : World) (h : IsU32 w v l) :
    Calls Tryd.prog 45 #[.bool neg, v] w fun e w' => ∃ v', e = .returned v' ∧ IsInt w' v' (sgn neg (val l)) ∧ Below w.heap.size w w' := by
  obtain ⟨A, c, rfl, hl, hc, hu, hd⟩ := h
  have HU := Lib.hid hu
  have h' := U32.below hu ((Below.refl _ w).alloc (Nat.le_refl _) (.cells #[.bool false, .slice none 0 0] 25))
  have H := Lib.hid h'
  have HD := Lib.hid hd
  clear hu h' hd
  have key : Calls Tryd.prog 45 #[.bool neg, .slice A l.length c] w fun e w' => e = .returned (.agg #[.bool (neg && decide (0 < (digs (val l)).length)), .slice A (digs (val l)).length c]) ∧
      w' = w.alloc (.cells #[.bool (neg && decide (0 < (digs (val l)).length)), .slice A (digs (val l)).length c] 25) := by
    cases neg
    all_goals
      go_enter Tryd.func45, Tryd.ntmps45
      go_wp2_with fail
      refine (trim_walk A _ c l _ rfl hl hc H.out HD.out).mono ?_
      rintro e w1 ⟨rfl, h1, rfl⟩
      go_wp2_with fail
      go_returns
      exact ⟨by simp, by simp⟩
  refine key.mono ?_
  rintro e w' ⟨rfl, rfl⟩
  refine ⟨_, rfl, ⟨A, c, ?_, ?_, hc, ?_⟩, by go_grown⟩
  · rw [sgn_natAbs, sgn_neg]; simp only [digs_len_pos]
  · rw [sgn_natAbs]; have := (digs_val_take HD.out).1; omega
  · rw [sgn_natAbs]; exact (HU.out.trimmed HD.out).below (by go_grown)

end Go.Proofs.YtjeaemoiafamaaaDoor

/- integer.plus: the sum of two magnitudes. -/
namespace Go.Proofs.YtjeaemoiafamaaaDoor
open Go.RowKit

theorem plus_walk (A B : Option Addr) (ca cb : Nat) (la lb : List Nat) (w : World) (ha : U32 w A la) (hb : U32 w B lb) (hda : Dig la) (hdb : Dig lb) (hla : la.length < 17592186044416) (hlb : lb.length < 17592186044416) :
    Calls Tryd.prog 63 #[.slice A la.length ca, .slice B lb.length cb] w fun e w' => ∃ g lr, e = .returned (.slice (some ⟨g, 0, none⟩) lr.length lr.length) ∧ Row32 w' g lr ∧ Dig lr ∧ val lr = val la + val lb ∧ lr.length = max la.length lb.length + 1 ∧ Below w.heap.size w w' ∧ w.heap.size ≤ g := by
  obtain ⟨i0, hi0, hz0, hz1, hz2⟩ := info_parts info32
  obtain ⟨X, cX, lx, Y, cY, ly, hx, hy, hdx, hdy, hlx, hle, hmax, hcase⟩ : ∃ X cX lx Y cY ly, U32 w X lx ∧ U32 w Y ly ∧ Dig lx ∧ Dig ly ∧ lx.length < 17592186044416 ∧ ly.length ≤ lx.length ∧ Hid (max la.length lb.length = lx.length) ∧
      ((la.length < lb.length ∧ Y = A ∧ X = B ∧ cY = ca ∧ cX = cb ∧ ly = la ∧ lx = lb) ∨ (¬ la.length < lb.length ∧ X = A ∧ Y = B ∧ cX = ca ∧ cY = cb ∧ lx = la ∧ ly = lb)) := by
    by_cases h : la.length < lb.length
    · exact ⟨B, cb, lb, A, ca, la, hb, ha, hdb, hda, hlb, by omega, by show max _ _ = _; omega, .inl ⟨h, rfl, rfl, rfl, rfl, rfl, rfl⟩⟩
    · exact ⟨A, ca, la, B, cb, lb, ha, hb, hda, hdb, hla, by omega, by show max _ _ = _; omega, .inr ⟨h, rfl, rfl, rfl, rfl, rfl, rfl⟩⟩
  clear ha hb hda hdb hla hlb
  rcases hcase with ⟨hlt, rfl, rfl, rfl, rfl, rfl, rfl⟩ | ⟨hlt, rfl, rfl, rfl, rfl, rfl, rfl⟩
  all_goals
    go_enter Tryd.func63, Tryd.ntmps63
    go_wp2_with (at_make; refine wpList_mk _ rfl (.tmp 18) (.tmp 18) 23 rfl 60 i0 (.int .u32 0) Tryd.underlying23 hi0 hz0 hz1 rfl _ _ _ rfl rfl rfl rfl ?_ ?_ ?_)
    · omega
    · unfold maxLen; omega
    intro w1 hrow hb1 hs1
    have hr := Row32.made hrow
    clear hrow
    have HR := Lib.hid hr
    clear hr
    go_wp2_with fail
    go_loopw [6, 22] (fun cv iv wr => ∃ (k c : Nat) (lo : List Nat), k ≤ lx.length ∧ cv = .int .u64 c ∧ iv = .int .i64 k ∧ Row32 wr w.heap.size lo ∧ lo.length = lx.length + 1 ∧ Dig lo ∧ c ≤ 1 ∧ Hid (val (lo.take k) + BB ^ k * c = val (lx.take k) + val (ly.take k)) ∧ Below w.heap.size w wr)
      (fun _ iv _ => lx.length - (intOf iv).toNat)
    case atStart => exact ⟨0, 0, _, Nat.zero_le _, rfl, rfl, HR.out, List.length_replicate, Dig.replicate _, by omega, by show _ = _; simp [val], hb1⟩
    case round =>
      obtain ⟨k, c, lo, hk, rfl, rfl, hrow, hlo, hdlo, hc1, hinv, hbw⟩ := hrel
      have HDLO := Lib.hid hdlo
      have HLO := Lib.hid hlo
      clear hdlo
      by_cases hkl : k < lx.length
      · obtain ⟨b, off, rfl, hb, hcell⟩ := Cells.at_ hx (by omega)
        have hcx := hcell k hkl
        have hbx : ((dg lx k : Nat) : Int) < 4294967296 := by have := hdx k; omega
        have hg := hrow.cell (j := k) (by omega)
        have hfr := hrow.free k
        have hcx' := ((bbelow hbw).1 b (off + k) hb).trans hcx
        have hbB : b < w.heap.size := hb
        clear hcell hcx
        by_cases hky : k < ly.length
        · obtain ⟨b2, off2, rfl, hb2, hcell2⟩ := Cells.at_ hy (by omega)
          have hcy' := ((bbelow hbw).1 b2 (off2 + k) hb2).trans (hcell2 k hky)
          have hby : ((dg ly k : Nat) : Int) < 4294967296 := by have := hdy k; omega
          clear hcell2
          go_wp2_with fail
          go_roundw
          case rel =>
            refine ⟨k + 1, (c + dg lx k + dg ly k) / 4294967296, lo.set k ((c + dg lx k + dg ly k) % 4294967296), by omega, by simp, by simp, hrow.set k _ (by simp), by rw [List.length_set]; exact hlo, HDLO.out.set _ _ (Nat.mod_lt _ (by omega)), by omega, plus_step (by omega) hinv rfl, hbw.setCell (Nat.le_refl _) _⟩
          case measure => simp [intOf]; omega
        · have hy0 : dg ly k = 0 := dg_ge (by omega)
          have HY0 := Lib.hid hy0
          clear hy0
          go_wp2_with fail
          go_roundw
          case rel =>
            refine ⟨k + 1, (c + dg lx k) / 4294967296, lo.set k ((c + dg lx k) % 4294967296), by omega, by simp, by simp, hrow.set k _ (by simp), by rw [List.length_set]; exact hlo, HDLO.out.set _ _ (Nat.mod_lt _ (by omega)), by omega, plus_step (by omega) hinv (by rw [HY0.out]; rfl), hbw.setCell (Nat.le_refl _) _⟩
          case measure => simp [intOf]; omega
      · obtain rfl : k = lx.length := by omega
        have hfr := hrow.free lx.length
        have hg := hrow.cell (j := lx.length) (by omega)
        go_wp2_with fail
        go_returns
        have hset := hrow.set lx.length c rfl
        have hlen : (lo.set lx.length c).length = lx.length + 1 := by rw [List.length_set]; exact hlo
        refine ⟨w.heap.size, lo.set lx.length c, by rw [hlen]; rfl, hset, HDLO.out.set _ _ (by omega), ?_, by rw [hlen, hmax.out], hbw.setCell (Nat.le_refl _) _, Nat.le_refl _⟩
        have h1 := val_set_take lo lx.length c (by omega)
        rw [← hlen, val_take_of_le (Nat.le_refl _), hinv.out, val_take_of_le (Nat.le_refl _), val_take_of_le hle] at h1
        omega

end Go.Proofs.YtjeaemoiafamaaaDoor

/- integer.minus: the difference of two magnitudes, of which the first one is not less. -/
namespace Go.Proofs.YtjeaemoiafamaaaDoor
open Go.RowKit

theorem minus_walk (A B : Option Addr) (ca cb : Nat) (la lb : List Nat) (w : World) (ha : U32 w A la) (hb : U32 w B lb) (hda : Dig la) (hdb : Dig lb) (hla : la.length < 17592186044416) (hlb : lb.length ≤ la.length) (hle : val lb ≤ val la) :
    Calls Tryd.prog 64 #[.slice A la.length ca, .slice B lb.length cb] w fun e w' => ∃ g lr, e = .returned (.slice (some ⟨g, 0, none⟩) lr.length lr.length) ∧ Row32 w' g lr ∧ Dig lr ∧ val lr = val la - val lb ∧ lr.length = la.length ∧ Below w.heap.size w w' ∧ w.heap.size ≤ g := by
  obtain ⟨i0, hi0, hz0, hz1, hz2⟩ := info_parts info32
  have HLE := Lib.hid hle
  clear hle
  go_enter Tryd.func64, Tryd.ntmps64
  go_wp2_with (at_make; refine wpList_mk _ rfl (.tmp 11) (.tmp 11) 23 rfl 60 i0 (.int .u32 0) Tryd.underlying23 hi0 hz0 hz1 rfl _ _ _ rfl rfl rfl rfl ?_ ?_ ?_)
  · first | omega | (rw [hz2]; omega)
  · unfold maxLen; omega
  intro w1 hrow hb1 hs1
  have hr := Row32.made hrow
  clear hrow
  have HR := Lib.hid hr
  clear hr
  go_wp2_with fail
  go_loopw [6, 15] (fun cv iv wr => ∃ (k c : Nat) (lo : List Nat), k ≤ la.length ∧ cv = .int .i64 c ∧ iv = .int .i64 k ∧ Row32 wr w.heap.size lo ∧ lo.length = la.length ∧ Dig lo ∧ c ≤ 1 ∧ Hid (val (la.take k) + BB ^ k * c = val (lo.take k) + val (lb.take k)) ∧ Below w.heap.size w wr)
    (fun _ iv _ => la.length - (intOf iv).toNat)
  case atStart => exact ⟨0, 0, _, Nat.zero_le _, rfl, rfl, HR.out, List.length_replicate, Dig.replicate _, by omega, by show _ = _; simp [val], hb1⟩
  case round =>
    obtain ⟨k, c, lo, hk, rfl, rfl, hrow, hlo, hdlo, hc1, hinv, hbw⟩ := hrel
    have HDLO := Lib.hid hdlo
    clear hdlo
    by_cases hkl : k < la.length
    · obtain ⟨b, off, rfl, hbb, hcell⟩ := Cells.at_ ha (by omega)
      have hcx := hcell k hkl
      have hbx : ((dg la k : Nat) : Int) < 4294967296 := by have := hda k; omega
      have hg := hrow.cell (j := k) (by omega)
      have hfr := hrow.free k
      have hcx' := ((bbelow hbw).1 b (off + k) hbb).trans hcx
      clear hcell hcx
      have hby : ((dg lb k : Nat) : Int) < 4294967296 := by have := hdb k; omega
      by_cases hky : k < lb.length
      · obtain ⟨b2, off2, rfl, hb2, hcell2⟩ := Cells.at_ hb (by omega)
        have hcy' := ((bbelow hbw).1 b2 (off2 + k) hb2).trans (hcell2 k hky)
        clear hcell2
        obtain ⟨n1, hn1⟩ : ∃ n : Int, ((dg la k : Nat) : Int) - (c : Nat) = n := ⟨_, rfl⟩
        obtain ⟨n2, hn2⟩ : ∃ n : Int, n1 - ((dg lb k : Nat) : Int) = n := ⟨_, rfl⟩
        have hb1' : -4294967297 < n2 := by omega
        have hb2' : n2 < 4294967297 := by omega
        by_cases hneg : n2 < 0
        all_goals
          go_wp2_with fail
          go_roundw
          case rel =>
            refine ⟨k + 1, if n2 < 0 then 1 else 0, lo.set k ((dg la k + 4294967296 - c - dg lb k) % 4294967296), by omega, ?_, by simp, hrow.set k _ ?_, by rw [List.length_set]; exact hlo, HDLO.out.set _ _ (Nat.mod_lt _ (by omega)), by split <;> omega, minus_step (by omega) hinv ?_, hbw.setCell (Nat.le_refl _) _⟩
            · simp [hneg]
            · refine congrArg (Value.int .u32) ?_; omega
            · split <;> omega
          case measure => simp [intOf]; omega
      · have hy0 : dg lb k = 0 := dg_ge (by omega)
        have HY0 := Lib.hid hy0
        clear hy0 hby
        obtain ⟨n1, hn1⟩ : ∃ n : Int, ((dg la k : Nat) : Int) - (c : Nat) = n := ⟨_, rfl⟩
        have hb1' : -4294967297 < n1 := by omega
        have hb2' : n1 < 4294967297 := by omega
        by_cases hneg : n1 < 0
        all_goals
          go_wp2_with fail
          go_roundw
          case rel =>
            refine ⟨k + 1, if n1 < 0 then 1 else 0, lo.set k ((dg la k + 4294967296 - c) % 4294967296), by omega, ?_, by simp, hrow.set k _ ?_, by rw [List.length_set]; exact hlo, HDLO.out.set _ _ (Nat.mod_lt _ (by omega)), by split <;> omega, minus_step (by omega) hinv ?_, hbw.setCell (Nat.le_refl _) _⟩
            · simp [hneg]
            · refine congrArg (Value.int .u32) ?_; omega
            · rw [HY0.out]; split <;> omega
          case measure => simp [intOf]; omega
    · obtain rfl : k = la.length := by omega
      go_wp2_with fail
      go_returns
      refine ⟨w.heap.size, lo, by rw [hlo]; rfl, hrow, HDLO.out, ?_, hlo, hbw, Nat.le_refl _⟩
      have h1 := hinv.out
      rw [val_take_of_le (Nat.le_refl _), val_take_of_le (by omega), val_take_of_le hlb] at h1
      rw [← hlo] at h1
      exact minus_end HDLO.out HLE.out hc1 h1

end Go.Proofs.YtjeaemoiafamaaaDoor

/- integer.scale: a magnitude times a number, plus another one. -/
namespace Go.Proofs.YtjeaemoiafamaaaDoor
open Go.RowKit

theorem scale_walk (A : Option Addr) (ca by_ plus : Nat) (l : List Nat) (w : World) (ha : U32 w A l) (hda : Dig l) (hla : l.length < 17592186044416) (hby : by_ < 4294967296) (hpl : plus < 4294967296) :
    Calls Tryd.prog 57 #[.slice A l.length ca, .int .u32 (by_ : Nat), .int .u32 (plus : Nat)] w fun e w' => ∃ v, e = .returned v ∧ IsMag w' v (by_ * val l + plus) ∧ Below w.heap.size w w' := by
  obtain ⟨i0, hi0, hz0, hz1, hz2⟩ := info_parts info32
  have hby' : ((by_ : Nat) : Int) < 4294967296 := by omega
  have hpl' : ((plus : Nat) : Int) < 4294967296 := by omega
  have HBY := Lib.hid hby
  clear hby hpl
  go_enter Tryd.func57, Tryd.ntmps57
  go_wp2_with (at_make; refine wpList_mk _ rfl (.tmp 13) (.tmp 13) 23 rfl 60 i0 (.int .u32 0) Tryd.underlying23 hi0 hz0 hz1 rfl _ _ _ rfl rfl rfl rfl ?_ ?_ ?_)
  · first | omega | (rw [hz2]; omega)
  · unfold maxLen; omega
  intro w1 hrow hb1 hs1
  have hr := Row32.made hrow
  clear hrow
  have HR := Lib.hid hr
  clear hr
  go_wp2_with fail
  go_loopw [8, 19] (fun cv iv wr => ∃ (k c : Nat) (lo : List Nat), k ≤ l.length ∧ cv = .int .u64 c ∧ iv = .int .i64 k ∧ Row32 wr w.heap.size lo ∧ lo.length = l.length + 1 ∧ Dig lo ∧ ((c : Nat) : Int) < 4294967296 ∧ Hid (val (lo.take k) + BB ^ k * c = by_ * val (l.take k) + plus) ∧ Below w.heap.size w wr)
    (fun _ iv _ => l.length - (intOf iv).toNat)
  case atStart => exact ⟨0, plus, _, Nat.zero_le _, rfl, rfl, HR.out, List.length_replicate, Dig.replicate _, hpl', by show _ = _; simp [val], hb1⟩
  case round =>
    obtain ⟨k, c, lo, hk, rfl, rfl, hrow, hlo, hdlo, hc1, hinv, hbw⟩ := hrel
    have HDLO := Lib.hid hdlo
    clear hdlo
    by_cases hkl : k < l.length
    · obtain ⟨b, off, rfl, hbb, hcell⟩ := Cells.at_ ha (by omega)
      have hcx := hcell k hkl
      have hbx : ((dg l k : Nat) : Int) < 4294967296 := by have := hda k; omega
      have hmul : ((dg l k * by_ : Nat) : Int) ≤ 18446744065119617025 := by
        have := Nat.mul_le_mul (show dg l k ≤ 4294967295 by omega) (show by_ ≤ 4294967295 by omega)
        omega
      have hm2 : ((dg l k : Nat) : Int) * (by_ : Nat) ≤ 18446744065119617025 := by rw [← Int.natCast_mul]; exact hmul
      have hm1 : 0 ≤ ((dg l k : Nat) : Int) * (by_ : Nat) := by rw [← Int.natCast_mul]; omega
      have hg := hrow.cell (j := k) (by omega)
      have hfr := hrow.free k
      have hcx' := ((bbelow hbw).1 b (off + k) hbb).trans hcx
      have HM := Lib.hid hmul
      clear hcell hcx hmul
      go_wp2_with fail
      go_roundw
      case rel =>
        refine ⟨k + 1, (c + dg l k * by_) / 4294967296, lo.set k ((c + dg l k * by_) % 4294967296), by omega, by simp, by simp, hrow.set k _ (by simp), by rw [List.length_set]; exact hlo, HDLO.out.set _ _ (Nat.mod_lt _ (by omega)), ?_, scale_step (by omega) hinv rfl, hbw.setCell (Nat.le_refl _) _⟩
        have := HM.out
        omega
      case measure => simp [intOf]; omega
    · obtain rfl : k = l.length := by omega
      have hfr := hrow.free l.length
      have hg := hrow.cell (j := l.length) (by omega)
      go_wp2_with fail
      have hset := hrow.set l.length c rfl
      have hlen : (lo.set l.length c).length = l.length + 1 := by rw [List.length_set]; exact hlo
      have hds : Dig (lo.set l.length c) := HDLO.out.set _ _ (by omega)
      have h1 := val_set_take lo l.length c (by omega)
      rw [← hlen, val_take_of_le (Nat.le_refl _), hinv.out, val_take_of_le (Nat.le_refl _)] at h1
      have hbs := hbw.setCell (p := ⟨w.heap.size, l.length, none⟩) (Nat.le_refl _) (Value.int .u32 (c : Nat))
      refine (trim_walk _ _ _ _ _ hlen.symm (Nat.le_refl _) (show l.length + 1 ≤ maxLen by unfold maxLen; omega) hset.u32 hds).mono ?_
      rintro e w2 ⟨rfl, hle2, rfl⟩
      have HH := Lib.hid h1
      have HT := Lib.hid (hset.u32.trimmed hds)
      have HB := Lib.hid hbs
      clear h1 hset hds hlen hbs
      go_wp2_with fail
      go_returns
      refine ⟨_, rfl, ⟨_, l.length + 1, by rw [← HH.out]; rfl, ?_, by unfold maxLen; omega, ?_⟩, HB.out⟩
      · rw [← HH.out]; rw [List.length_set, hlo] at hle2; exact hle2
      · rw [← HH.out]; exact HT.out

end Go.Proofs.YtjeaemoiafamaaaDoor

/- integer.short: the quotient and the rest of a magnitude by a digit. -/
namespace Go.Proofs.YtjeaemoiafamaaaDoor
open Go.RowKit

theorem short_walk0 (A : Option Addr) (ca b : Nat) (l : List Nat) (w : World) (ha : U32 w A l) (hda : Dig l) (hla : l.length < 17592186044416) (hb : b < 4294967296) (hb0 : 0 < b) :
    Calls Tryd.prog 46 #[.slice A l.length ca, .int .u32 (b : Nat)] w fun e w' => ∃ v, e = .returned (.tuple #[v, .int .u32 (val l % b : Nat)]) ∧ (IsMag w' v (val l / b) ∧ ∃ g n c, v = .slice (some ⟨g, 0, none⟩) n c) ∧ Below w.heap.size w w' := by
  obtain ⟨i0, hi0, hz0, hz1, hz2⟩ := info_parts info32
  have hbl : ((b : Nat) : Int) < 4294967296 := by omega
  have hb0' : 0 < ((b : Nat) : Int) := by omega
  have HB := Lib.hid hb
  have HB0 := Lib.hid hb0
  clear hb hb0
  go_enter Tryd.func46, Tryd.ntmps46
  go_wp2_with (at_make; refine wpList_mk _ rfl (.tmp 10) (.tmp 10) 23 rfl 60 i0 (.int .u32 0) Tryd.underlying23 hi0 hz0 hz1 rfl _ _ _ rfl rfl rfl rfl ?_ ?_ ?_)
  · first | omega | (rw [hz2]; omega)
  · unfold maxLen; omega
  intro w1 hrow hb1 hs1
  have hr := Row32.made hrow
  clear hrow
  have HR := Lib.hid hr
  clear hr
  go_wp2_with fail
  go_loopw [7, 8] (fun rv iv wr => ∃ (k r : Nat) (lo : List Nat), k ≤ l.length ∧ rv = .int .u64 r ∧ iv = .int .i64 ((k : Int) - 1) ∧ Row32 wr w.heap.size lo ∧ lo.length = l.length ∧ Dig lo ∧ ((r : Nat) : Int) < (b : Nat) ∧ Hid (val (l.drop k) = b * val (lo.drop k) + r) ∧ Below w.heap.size w wr)
    (fun _ iv _ => (intOf iv + 1).toNat)
  case atStart => exact ⟨l.length, 0, _, Nat.le_refl _, rfl, rfl, HR.out, List.length_replicate, Dig.replicate _, hb0', by show _ = _; rw [List.drop_eq_nil_of_le (Nat.le_refl _), List.drop_eq_nil_of_le (by rw [List.length_replicate]; exact Nat.le_refl _)]; rfl, hb1⟩
  case round =>
    obtain ⟨k, r, lo, hk, rfl, rfl, hrow, hlo, hdlo, hr1, hinv, hbw⟩ := hrel
    have HDLO := Lib.hid hdlo
    clear hdlo
    rcases k with _ | k
    · go_wp2_with fail
      refine (trim_walk _ _ _ lo _ hlo.symm (Nat.le_refl _) (by unfold maxLen; omega) hrow.u32 HDLO.out).mono ?_
      rintro e w2 ⟨rfl, hle2, rfl⟩
      have h1 := hinv.out
      rw [List.drop_zero, List.drop_zero] at h1
      have hq : val l / b = val lo := by rw [h1, Nat.mul_add_div HB0.out, Nat.div_eq_of_lt (by omega), Nat.add_zero]
      have hm : val l % b = r := by rw [h1, Nat.mul_add_mod, Nat.mod_eq_of_lt (by omega)]
      have HQ := Lib.hid hq
      have HM := Lib.hid hm
      clear h1 hq hm
      go_wp2_with fail
      go_returns
      refine ⟨_, by rw [HM.out]; rfl, ⟨⟨_, l.length, by first | (rw [HQ.out]; done) | (rw [HQ.out]; rfl), ?_, by unfold maxLen; omega, ?_⟩, _, _, _, rfl⟩, hbw⟩
      · rw [HQ.out]; omega
      · rw [HQ.out]; exact hrow.u32.trimmed HDLO.out
    · obtain ⟨b1, off, rfl, hbb, hcell⟩ := Cells.at_ ha (by omega)
      have hcx := hcell k (by omega)
      have hbx : ((dg l k : Nat) : Int) < 4294967296 := by have := hda k; omega
      have hg := hrow.cell (j := k) (by omega)
      have hfr := hrow.free k
      have hcx' := ((bbelow hbw).1 b1 (off + k) hbb).trans hcx
      have h1 : ((k : Nat) : Int) < (l.length : Nat) := by omega
      clear hcell hcx
      obtain ⟨s, hs⟩ : ∃ s : Nat, s = r * 4294967296 + dg l k := ⟨_, rfl⟩
      have hsb : ((s : Nat) : Int) ≤ 18446744073709551615 := by omega
      have hor : bits .or .u64 (((r : Nat) : Int) * 4294967296) ((dg l k : Nat) : Int) = ((s : Nat) : Int) := by
        rw [or_shl32 r (dg l k) (by omega) (by omega), hs]
      have hq := short_lt (r := r) (b := b) (d := dg l k) (by omega) (by omega)
      rw [← hs] at hq
      have hq1 : ((s / b : Nat) : Int) < 4294967296 := by omega
      have hq0 : 0 ≤ ((s / b : Nat) : Int) := Int.natCast_nonneg _
      have HQ := Lib.hid hq
      have HS := Lib.hid hs
      clear hs hq
      go_wp2_with fail
      go_roundw
      case rel =>
        refine ⟨k, s % b, lo.set k (s / b), by omega, by simp, rfl, hrow.set k _ ?_, by rw [List.length_set]; exact hlo, HDLO.out.set _ _ HQ.out, ?_, ?_, hbw.setCell (Nat.le_refl _) _⟩
        · first | rfl | (refine congrArg (Value.int .u32) ?_; omega)
        · have := Nat.mod_lt s HB0.out; omega
        · have := short_step (r := r) (b := b) (by omega) (by omega) hinv.out
          rw [← HS.out] at this
          exact this
      case measure => first | (simp [intOf]; done) | (simp [intOf]; omega)

theorem short_walk (A : Option Addr) (ca b : Nat) (l : List Nat) (w : World) (ha : U32 w A l) (hda : Dig l) (hla : l.length < 17592186044416) (hb : b < 4294967296) (hb0 : 0 < b) :
    Calls Tryd.prog 46 #[.slice A l.length ca, .int .u32 (b : Nat)] w fun e w' => ∃ v, e = .returned (.tuple #[v, .int .u32 (val l % b : Nat)]) ∧ IsMag w' v (val l / b) ∧ Below w.heap.size w w' :=
  (short_walk0 A ca b l w ha hda hla hb hb0).mono fun _ _ ⟨v, h1, h2, h3⟩ => ⟨v, h1, h2.1, h3⟩

end Go.Proofs.YtjeaemoiafamaaaDoor

/- integer.order: compares two magnitudes. -/
namespace Go.Proofs.YtjeaemoiafamaaaDoor
open Go.RowKit

theorem U32.drewN {w : World} {A : Option Addr} {l : List Nat} (h : U32 w A l) (n : Nat) : U32 (w.drewN n) A l := h
theorem IsMag.drewN {w : World} {v : Value} {l : Nat} (h : IsMag w v l) (n : Nat) : IsMag (w.drewN n) v l := h
theorem IsInt.drewN {w : World} {v : Value} {l : Int} (h : IsInt w v l) (n : Nat) : IsInt (w.drewN n) v l := h

theorem order_walk (A B : Option Addr) (ca cb a b : Nat) (w : World) (ha : U32 w A (digs a)) (hb : U32 w B (digs b)) (hla : (digs a).length < 17592186044416) (_hlb : (digs b).length < 17592186044416) :
    Calls Tryd.prog 52 #[.slice A (digs a).length ca, .slice B (digs b).length cb] w fun e w' => e = .returned (.int .i64 (ordN a b)) ∧ Drew w w' := by
  have hva := val_digs a
  have hvb := val_digs b
  have hca := can_digs a
  have hcb := can_digs b
  generalize digs a = la at *
  generalize digs b = lb at *
  subst hva hvb
  have HCA := Lib.hid hca
  have HCB := Lib.hid hcb
  clear hca hcb
  obtain ⟨fin, hfin⟩ : ∃ fin, fin = ordN (val la) (val lb) := ⟨_, rfl⟩
  rw [← hfin]
  have HF := Lib.hid hfin
  clear hfin
  by_cases hne : la.length = lb.length
  · have hne' : (((la.length : Nat) : Int) != (lb.length : Nat)) = false := by rw [hne]; simp
    have HNE := Lib.hid hne
    clear hne
    go_enter Tryd.func52, Tryd.ntmps52
    go_wp2_with fail
    go_loopw [5] (fun v wr => ∃ k : Nat, k ≤ la.length ∧ v = .int .i64 ((k : Int) - 1) ∧ Hid (∀ j, k ≤ j → j < la.length → dg la j = dg lb j) ∧ Drew w wr) (fun v _ => (intOf v + 1).toNat)
    case atStart => exact ⟨la.length, Nat.le_refl _, rfl, fun j h1 h2 => absurd h1 (by omega), Drew.refl _⟩
    case round =>
      obtain ⟨k, hk, rfl, hz, hw⟩ := hrel
      obtain ⟨m, rfl⟩ := hw
      rcases k with _ | k
      · go_wp2_with fail
        go_returns
        refine ⟨?_, Drew.mk _ _⟩
        have : val la = val lb := val_eq_of_dg HNE.out (fun j hj => hz.out j (Nat.zero_le _) hj)
        rw [HF.out, ordN, if_neg (by omega), if_pos this]; rfl
      · obtain ⟨b1, off1, rfl, hb1, hcell1⟩ := Cells.at_ ha (by omega)
        obtain ⟨b2, off2, rfl, hb2, hcell2⟩ := Cells.at_ hb (by have := HNE.out; omega)
        have hc1 := hcell1 k (by omega)
        have hc2 := hcell2 k (by have := HNE.out; omega)
        have h1 : ((k : Nat) : Int) < (la.length : Nat) := by omega
        have h2 : ((k : Nat) : Int) < (lb.length : Nat) := by have := HNE.out; omega
        clear hcell1 hcell2 hne'
        by_cases hd : dg la k = dg lb k
        · have hd' : (((dg la k : Nat) : Int) != (dg lb k : Nat)) = false := by rw [hd]; simp
          have HD := Lib.hid hd
          clear hd
          go_wp2_with fail
          go_quiet (fail)
          go_wp2_with fail
          go_roundw
          case rel =>
            refine ⟨k, by omega, rfl, fun j h3 h4 => ?_, Drew.mk _ _⟩
            by_cases hj : j = k
            · rw [hj]; exact HD.out
            · exact hz.out j (by omega) h4
          case measure => first | (simp [intOf]; done) | (simp [intOf]; omega)
        · have hd' : (((dg la k : Nat) : Int) != (dg lb k : Nat)) = true := by simp; omega
          have HD := Lib.hid hd
          clear hd
          by_cases hlt : dg la k < dg lb k
          · have HL := Lib.hid hlt
            go_wp2_with fail
            go_quiet (fail)
            go_wp2_with fail
            go_quiet (fail)
            go_wp2_with fail
            go_returns
            refine ⟨?_, ((Drew.mk _ _).step _).step _⟩
            have := val_lt_of_dg HCA.out.1 HNE.out (by omega) (fun j h3 h4 => hz.out j (by omega) h4) HL.out
            rw [HF.out, ordN, if_pos this]; rfl
          · have HL := Lib.hid hlt
            go_wp2_with fail
            go_quiet (fail)
            go_wp2_with fail
            go_quiet (fail)
            go_wp2_with fail
            go_returns
            refine ⟨?_, ((Drew.mk _ _).step _).step _⟩
            have h5 := HD.out
            have h6 := HL.out
            have h7 := HNE.out
            have := val_lt_of_dg (k := k) HCB.out.1 HNE.out.symm (by omega) (fun j h3 h4 => (hz.out j (by omega) (by omega)).symm) (by omega)
            rw [HF.out, ordN, if_neg (by omega), if_neg (by omega)]; rfl
  · have HNE := Lib.hid hne
    have hne' : (((la.length : Nat) : Int) != (lb.length : Nat)) = true := by simp; omega
    clear hne
    by_cases hlt : la.length < lb.length
    · go_enter Tryd.func52, Tryd.ntmps52
      go_wp2_with fail
      go_returns
      refine ⟨?_, Drew.refl _⟩
      have := val_lt_of_len HCA.out.1 HCB.out hlt
      rw [HF.out, ordN, if_pos this]; rfl
    · go_enter Tryd.func52, Tryd.ntmps52
      go_wp2_with fail
      go_returns
      refine ⟨?_, Drew.refl _⟩
      have h2 := HNE.out
      have := val_lt_of_len HCB.out.1 HCA.out (by omega)
      rw [HF.out, ordN, if_neg (by omega), if_neg (by omega)]; rfl

theorem order_walk' (A B : Option Addr) (ca cb a b : Nat) (la lb : List Nat) (w : World) (hx : Hid (la = digs a)) (hy : Hid (lb = digs b)) (ha : U32 w A la) (hb : U32 w B lb) (hla : la.length < 17592186044416) (hlb : lb.length < 17592186044416) :
    Calls Tryd.prog 52 #[.slice A la.length ca, .slice B lb.length cb] w fun e w' => e = .returned (.int .i64 (ordN a b)) ∧ Drew w w' := by
  have hx := hx.out
  have hy := hy.out
  subst hx hy
  exact order_walk A B ca cb a b w ha hb hla hlb

end Go.Proofs.YtjeaemoiafamaaaDoor

/- integer.raised: a magnitude times a power of 2, with one digit more. -/
namespace Go.Proofs.YtjeaemoiafamaaaDoor
open Go.RowKit

theorem raised_walk (A : Option Addr) (ca y : Nat) (l : List Nat) (w : World) (ha : U32 w A l) (hda : Dig l) (hla : l.length < 17592186044416) (hy : y < 32) :
    Calls Tryd.prog 80 #[.slice A l.length ca, .int .i64 (y : Nat)] w fun e w' => ∃ g lr, e = .returned (.slice (some ⟨g, 0, none⟩) lr.length lr.length) ∧ Row32 w' g lr ∧ Dig lr ∧ val lr = 2 ^ y * val l ∧ lr.length = l.length + 1 ∧ Below w.heap.size w w' ∧ w.heap.size ≤ g := by
  obtain ⟨i0, hi0, hz0, hz1, hz2⟩ := info_parts info32
  go_enter Tryd.func80, Tryd.ntmps80
  go_wp2_with (at_make; refine wpList_mk _ rfl (.tmp 10) (.tmp 10) 23 rfl 60 i0 (.int .u32 0) Tryd.underlying23 hi0 hz0 hz1 rfl _ _ _ rfl rfl rfl rfl ?_ ?_ ?_)
  · first | omega | (rw [hz2]; omega)
  · unfold maxLen; omega
  intro w1 hrow hb1 hs1
  have hr := Row32.made hrow
  clear hrow
  have HR := Lib.hid hr
  clear hr
  go_wp2_with fail
  go_loopw [14] (fun iv wr => ∃ (k : Nat) (lo : List Nat), k ≤ l.length ∧ iv = .int .i64 k ∧ Row32 wr w.heap.size lo ∧ lo.length = l.length + 1 ∧ Dig lo ∧ Hid (dg lo k < 2 ^ y) ∧ Hid (val (lo.take k) + BB ^ k * dg lo k = 2 ^ y * val (l.take k)) ∧ Below w.heap.size w wr)
    (fun iv _ => l.length - (intOf iv).toNat)
  case atStart => exact ⟨0, _, Nat.zero_le _, rfl, HR.out, List.length_replicate, Dig.replicate _, by show _ < _; rw [dg_replicate]; split <;> exact Nat.two_pow_pos y, by show _ = _; simp [val, dg_replicate], hb1⟩
  case round =>
    obtain ⟨k, lo, hk, rfl, hrow, hlo, hdlo, hdk, hinv, hbw⟩ := hrel
    have HDLO := Lib.hid hdlo
    clear hdlo
    by_cases hkl : k < l.length
    · obtain ⟨b1, off, rfl, hbb, hcell⟩ := Cells.at_ ha (by omega)
      have hcx := hcell k hkl
      have hbx : ((dg l k : Nat) : Int) < 4294967296 := by have := hda k; omega
      have hg := hrow.cell (j := k) (by omega)
      have hfr := hrow.free k
      have hg2 := hrow.cell (j := k + 1) (by omega)
      have hfr2 := hrow.free (k + 1)
      have hcx' := ((bbelow hbw).1 b1 (off + k) hbb).trans hcx
      have h1 : ((k : Nat) : Int) < (l.length : Nat) + 1 := by omega
      have h2 : ((k : Nat) : Int) + 1 < (l.length : Nat) + 1 := by omega
      clear hcell hcx
      have hdk' := hdk.out
      obtain ⟨P, hP⟩ : ∃ P : Nat, P = 2 ^ y := ⟨_, rfl⟩
      have hP1 : (2 : Int) ^ y = (P : Nat) := by rw [hP]; simp
      have hP2 : P ≤ 2147483648 := by rw [hP]; exact Nat.pow_le_pow_right (n := 2) (by omega) (show y ≤ 31 by omega)
      obtain ⟨s, hs⟩ : ∃ s : Nat, s = dg l k * P := ⟨_, rfl⟩
      have hs1 : ((dg l k : Nat) : Int) * (P : Nat) = (s : Nat) := by rw [hs]; simp
      have hs2 : s ≤ 4294967295 * 2147483648 := by rw [hs]; exact Nat.mul_le_mul (by omega) hP2
      have hs3 : ((s : Nat) : Int) ≤ 9223372034707292160 := by omega
      have hroom := pow_mod_room (d := dg l k) hy
      rw [← hP, ← hs] at hroom
      rw [← hP] at hdk'
      have hor : bits .or .u32 ((dg lo k : Nat) : Int) (((s : Nat) : Int) % 4294967296) = ((dg lo k + s % 4294967296 : Nat) : Int) := by
        rw [show (((s : Nat) : Int) % 4294967296) = ((s % 4294967296 : Nat) : Int) by omega, bits_or_comm]
        rw [or32 y _ _ (by rw [← hP]; exact hroom.1) (by rw [← hP]; exact hdk') (by omega), Nat.add_comm]
      have HP := Lib.hid hP
      have HS := Lib.hid hs
      have HS2 := Lib.hid hs2
      have HROOM := Lib.hid hroom
      have HDK := Lib.hid hdk'
      clear hP hP2 hs hs2 hroom hdk'
      go_wp2_with fail
      go_region
      go_wp2_with fail
      go_roundw
      case rel =>
        have hs32 : s / 4294967296 < 2 ^ y := by
          rw [HS.out, HP.out]
          refine Nat.div_lt_of_lt_mul ?_
          rw [Nat.mul_comm 4294967296]
          rw [Nat.mul_comm (dg l k)]
          exact Nat.mul_lt_mul_of_pos_left (by omega) (Nat.two_pow_pos y)
        rw [← HP.out] at hs32
        have hP3 := HP.out
        have hr := HROOM.out
        have hdk3 := HDK.out
        refine ⟨k + 1, (lo.set k (dg lo k + s % 4294967296)).set (k + 1) (s / 4294967296), by omega, by simp, ?_, by rw [List.length_set, List.length_set]; exact hlo, (HDLO.out.set _ _ (by omega)).set _ _ (by omega), ?_, ?_, ?_⟩
        · exact Row32.set (hrow.set k (dg lo k + s % 4294967296) (by simp)) (k + 1) (s / 4294967296) (by simp)
        · show _ < _
          rw [dg_set, if_pos ⟨rfl, by rw [List.length_set]; omega⟩, ← hP3]
          exact hs32
        · exact raised_step (by omega) (by rw [HS.out, HP.out]) hinv
        · exact ((hbw.setCell (p := ⟨w.heap.size, k, none⟩) (Nat.le_refl _) _).drew).setCell (p := ⟨w.heap.size, k + 1, none⟩) (Nat.le_refl _) _
      case measure => first | (simp [intOf]; done) | (simp [intOf]; omega)
    · obtain rfl : k = l.length := by omega
      go_wp2_with fail
      go_returns
      have h1 := hinv.out
      rw [← val_take_succ, val_take_of_le (by omega), val_take_of_le (Nat.le_refl _)] at h1
      exact ⟨w.heap.size, lo, by rw [hlo]; rfl, hrow, HDLO.out, h1, hlo, hbw, Nat.le_refl _⟩

end Go.Proofs.YtjeaemoiafamaaaDoor

/- integer.Mul: the product of two integers. -/
namespace Go.Proofs.YtjeaemoiafamaaaDoor
open Go.RowKit

theorem mul_walk (va vb : Value) (a b : Int) (w : World) (ha : IsInt w va a) (hb : IsInt w vb b) (hla : (digs a.natAbs).length < 8796093022208) (hlb : (digs b.natAbs).length < 8796093022208) :
    Calls Tryd.prog 25 #[va, vb] w fun e w' => ∃ v, e = .returned v ∧ IsInt w' v (a * b) ∧ Below w.heap.size w w' := by
  obtain ⟨A, ca, rfl, hca, hmca, hua⟩ := ha
  obtain ⟨B, cb, rfl, hcb, hmcb, hub⟩ := hb
  have hda := dig_digs a.natAbs
  have hdb := dig_digs b.natAbs
  have hsg := sgn_mul a b
  have hva := val_digs a.natAbs
  have hvb := val_digs b.natAbs
  generalize digs a.natAbs = la at *
  generalize digs b.natAbs = lb at *
  rw [← hva, ← hvb] at hsg
  obtain ⟨na, hna⟩ : ∃ x, x = decide (a < 0) := ⟨_, rfl⟩
  obtain ⟨nb, hnb⟩ : ∃ x, x = decide (b < 0) := ⟨_, rfl⟩
  rw [← hna, ← hnb] at hsg ⊢
  have HSG := Lib.hid hsg
  clear hna hnb hva hvb hsg hca hmca hcb hmcb
  obtain ⟨i0, hi0, hz0, hz1, hz2⟩ := info_parts info32
  go_enter Tryd.func25, Tryd.ntmps25
  go_wp2_with (at_make; refine wpList_mk _ rfl (.tmp 17) (.tmp 17) 23 rfl 60 i0 (.int .u32 0) Tryd.underlying23 hi0 hz0 hz1 rfl _ _ _ rfl rfl rfl rfl ?_ ?_ ?_)
  · first | omega | (rw [hz2]; omega)
  · unfold maxLen; omega
  obtain ⟨W, hW⟩ : ∃ W, W = ((w.alloc (.cells #[.bool na, .slice A la.length ca] 25)).alloc (.cells #[.bool nb, .slice B lb.length cb] 25)).alloc (.cells #[.bool false, .slice none 0 0] 25) := ⟨_, rfl⟩
  rw [← hW]
  obtain ⟨r1, r2, r3, hWs, hWB⟩ := boxes3 w (.cells #[.bool na, .slice A la.length ca] 25) (.cells #[.bool nb, .slice B lb.length cb] 25) (.cells #[.bool false, .slice none 0 0] 25)
  rw [← hW] at r1 r2 r3 hWs hWB
  have r1 : Row W w.heap.size 25 [.bool na, .slice A la.length ca] := r1
  have r2 : Row W (w.heap.size + 1) 25 [.bool nb, .slice B lb.length cb] := r2
  have r3 : Row W (w.heap.size + 2) 25 [.bool false, .slice none 0 0] := r3
  have f1 := r1.at_ 1 rfl
  have f2 := r2.at_ 1 rfl
  clear hW
  intro w1 hrow hb1 hs1
  have hr := Row32.made hrow
  clear hrow
  have HR := Lib.hid hr
  have HWB := Lib.hid hWB
  have HWS := Lib.hid hWs
  clear hr hWB hWs
  have g1 := ((bbelow hb1).1 w.heap.size 1 (by omega)).trans f1
  have g2 := ((bbelow hb1).1 (w.heap.size + 1) 1 (by omega)).trans f2
  go_wp2_with fail
  go_loopw [22] (fun iv wr => ∃ (k : Nat) (lo : List Nat), k ≤ la.length ∧ iv = .int .i64 k ∧ Row32 wr (w.heap.size + 1 + 1 + 1) lo ∧ lo.length = la.length + lb.length ∧ Dig lo ∧ Hid (val lo = val (la.take k) * val lb) ∧ Hid (∀ j, k + lb.length ≤ j → dg lo j = 0) ∧ Below (w.heap.size + 1 + 1 + 1) W wr)
    (fun iv _ => la.length - (intOf iv).toNat)
  case atStart => exact ⟨0, _, Nat.zero_le _, rfl, HR.out, List.length_replicate, Dig.replicate _, by show _ = _; rw [val_replicate]; simp [val], fun j _ => by rw [dg_replicate]; split <;> rfl, hb1⟩
  case round =>
    obtain ⟨k, lo, hk, rfl, hrow, hlo, hdlo, hinv, hz, hbw⟩ := hrel
    have HDLO := Lib.hid hdlo
    clear hdlo g1 g2
    have g1 := ((bbelow hbw).1 w.heap.size 1 (by omega)).trans f1
    have g2 := ((bbelow hbw).1 (w.heap.size + 1) 1 (by omega)).trans f2
    by_cases hkl : k < la.length
    · obtain ⟨b1, off, rfl, hbb, hcell⟩ := Cells.at_ hua (by omega)
      have hcx := hcell k hkl
      have hbx : ((dg la k : Nat) : Int) < 4294967296 := by have := hda k; omega
      have hcx' := ((bbelow hbw).1 b1 (off + k) (by omega)).trans (((bbelow HWB.out).1 b1 (off + k) (by omega)).trans hcx)
      clear hcell hcx
      go_wp2_with fail
      obtain ⟨wo, hwo⟩ : ∃ wo : World, wo = wr := ⟨_, rfl⟩
      rw [← hwo]
      rw [← hwo] at hrow hbw g1 g2 hcx'
      clear hwo wr
      go_loopw [8, 30] (fun cv jv wr => ∃ (j c : Nat) (lo' : List Nat), j ≤ lb.length ∧ cv = .int .u64 c ∧ jv = .int .i64 j ∧ Row32 wr (w.heap.size + 1 + 1 + 1) lo' ∧ lo'.length = la.length + lb.length ∧ Dig lo' ∧ ((c : Nat) : Int) < 4294967296 ∧
          Hid (val lo' + BB ^ (k + j) * c = val lo + BB ^ k * (dg la k * val (lb.take j))) ∧ Hid (∀ i, k + lb.length ≤ i → dg lo' i = 0) ∧ Below (w.heap.size + 1 + 1 + 1) W wr)
        (fun _ jv _ => lb.length - (intOf jv).toNat)
      case atStart => exact ⟨0, 0, lo, Nat.zero_le _, rfl, rfl, hrow, hlo, HDLO.out, by omega, by show _ = _; simp [val], hz, hbw⟩
      case round =>
        obtain ⟨j, c, lo', hj, rfl, rfl, hrow', hlo', hdlo', hc, hinv', hz', hbw'⟩ := hrel
        have HDLO' := Lib.hid hdlo'
        clear hdlo'
        have g1' := ((bbelow hbw').1 w.heap.size 1 (by omega)).trans f1
        have g2' := ((bbelow hbw').1 (w.heap.size + 1) 1 (by omega)).trans f2
        clear g1 g2 hcx'
        by_cases hjl : j < lb.length
        · obtain ⟨b2, off2, rfl, hbb2, hcell2⟩ := Cells.at_ hub (by omega)
          have hcy := ((bbelow hbw').1 b2 (off2 + j) (by omega)).trans (((bbelow HWB.out).1 b2 (off2 + j) (by omega)).trans (hcell2 j hjl))
          have hby : ((dg lb j : Nat) : Int) < 4294967296 := by have := hdb j; omega
          have hgo := hrow'.cell (j := k + j) (by omega)
          have hfo := hrow'.free (k + j)
          have hgb : ((dg lo' (k + j) : Nat) : Int) < 4294967296 := by have := HDLO'.out (k + j); omega
          have hi : ((k : Nat) : Int) + (j : Nat) < (la.length : Nat) + (lb.length : Nat) := by omega
          obtain ⟨p, hp⟩ : ∃ p : Nat, p = dg la k * dg lb j := ⟨_, rfl⟩
          have hp1 : ((dg la k : Nat) : Int) * ((dg lb j : Nat) : Int) = (p : Nat) := by rw [hp]; simp
          have hp2 : ((p : Nat) : Int) ≤ 18446744065119617025 := by
            have := Nat.mul_le_mul (show dg la k ≤ 4294967295 by omega) (show dg lb j ≤ 4294967295 by omega)
            omega
          have HP := Lib.hid hp
          clear hp hcell2
          go_wp2_with fail
          go_roundw
          case rel =>
            have hst := mul_step (lo := lo') (lb := lb) (i := k) (j := j) (c := c) (x := dg la k) (s := c + (p + dg lo' (k + j))) (V := val lo) (by omega) hinv' (by rw [HP.out])
            refine ⟨j + 1, (c + (p + dg lo' (k + j))) / 4294967296, lo'.set (k + j) ((c + (p + dg lo' (k + j))) % 4294967296), by omega, by simp, by simp, hrow'.set (k + j) _ (by simp), by rw [List.length_set]; exact hlo', HDLO'.out.set _ _ (Nat.mod_lt _ (by omega)), by omega, hst, ?_, hbw'.setCell (Nat.le_refl _) _⟩
            intro i hi'
            rw [dg_set, if_neg (by omega)]
            exact hz'.out i hi'
          case measure => first | (simp [intOf]; done) | (simp [intOf]; omega)
        · obtain rfl : j = lb.length := by omega
          have hgo := hrow'.cell (j := k + lb.length) (by omega)
          have hfo := hrow'.free (k + lb.length)
          have hi : ((k : Nat) : Int) + (lb.length : Nat) < (la.length : Nat) + (lb.length : Nat) := by omega
          go_wp2_with fail
          go_roundw
          case rel =>
            refine ⟨k + 1, lo'.set (k + lb.length) c, by omega, by simp, hrow'.set (k + lb.length) c (by simp), by rw [List.length_set]; exact hlo', HDLO'.out.set _ _ (by omega), mul_row (by omega) (hz'.out _ (by omega)) hinv' hinv, ?_, hbw'.setCell (Nat.le_refl _) _⟩
            intro i hi'
            rw [dg_set, if_neg (by omega)]
            exact hz'.out i (by omega)
          case measure => first | (simp [intOf]; done) | (simp [intOf]; omega)
    · obtain rfl : k = la.length := by omega
      have g3 := ((bbelow hbw).1 w.heap.size 0 (by omega)).trans (r1.at_ 0 rfl)
      have g4 := ((bbelow hbw).1 (w.heap.size + 1) 0 (by omega)).trans (r2.at_ 0 rfl)
      go_wp2_with fail
      refine (signed_walk _ _ lo _ ⟨_, _, by rw [hlo], by rw [hlo]; exact Nat.le_refl _, by unfold maxLen; omega, hrow.u32, HDLO.out⟩).mono ?_
      rintro e w2 ⟨v, rfl, hint, hb2⟩
      have hsz := hrow.lt
      have r3' : Row w2 (w.heap.size + 1 + 1) 25 [.bool false, .slice none 0 0] := Row.below (Row.below r3 hbw (by omega)) hb2 (by omega)
      have k1 := r3'.at_ 0 rfl
      have k2 := r3'.at_ 1 rfl
      have k3 := r3'.free 0
      have k4 := r3'.free 1
      have hbW2 : Below w.heap.size w w2 := (HWB.out.trans (hbw.mono (by omega))).trans (hb2.mono (by omega))
      have hval : sgn (!(na == nb)) (val lo) = a * b := by
        rw [hinv.out, val_take_of_le (Nat.le_refl _), ← HSG.out]; rfl
      rw [hval] at hint
      obtain ⟨A', c', rfl, h1, h2, h3⟩ := hint
      have H3 := Lib.hid h3
      have HB2 := Lib.hid hb2
      clear h3 hb2
      go_wp2_with fail
      refine bodyPost_ret (v := .agg #[.bool (decide (a * b < 0)), .slice A' (digs (a * b).natAbs).length c']) (by simp [results, Tryd.results25, go_sem, k1, k2]) rfl ?_
      refine ⟨_, rfl, ⟨A', c', rfl, h1, h2, ?_⟩, ?_⟩
      · exact H3.out.kept (grownBy_set2 _ _ _ _ _ _) r3' (by simp)
      · exact (hbW2.setCell (p := ⟨w.heap.size + 1 + 1, 0, none⟩) (by simp; omega) _).setCell (p := ⟨w.heap.size + 1 + 1, 1, none⟩) (by simp; omega) _

end Go.Proofs.YtjeaemoiafamaaaDoor

/- integer.Add: the sum of two integers. -/
namespace Go.Proofs.YtjeaemoiafamaaaDoor
open Go.RowKit

theorem add_same (A B : Option Addr) (ca cb : Nat) (s : Bool) (la lb : List Nat) (n : Int) (w : World) (hua : U32 w A la) (hub : U32 w B lb) (hda : Dig la) (hdb : Dig lb) (hla : la.length < 8796093022208) (hlb : lb.length < 8796093022208)
    (hn : sgn s (val la + val lb) = n) :
    Calls Tryd.prog 35 #[.agg #[.bool s, .slice A la.length ca], .agg #[.bool s, .slice B lb.length cb]] w fun e w' => ∃ v, e = .returned v ∧ IsInt w' v n ∧ Below w.heap.size w w' := by
  have HN := Lib.hid hn
  clear hn
  obtain ⟨W, hW⟩ : ∃ W, W = ((w.alloc (.cells #[.bool s, .slice A la.length ca] 25)).alloc (.cells #[.bool s, .slice B lb.length cb] 25)).alloc (.cells #[.bool false, .slice none 0 0] 25) := ⟨_, rfl⟩
  obtain ⟨r1, r2, r3, hWs, hWB⟩ := boxes3 w (.cells #[.bool s, .slice A la.length ca] 25) (.cells #[.bool s, .slice B lb.length cb] 25) (.cells #[.bool false, .slice none 0 0] 25)
  rw [← hW] at r1 r2 r3 hWs hWB
  have r1 : Row W w.heap.size 25 [.bool s, .slice A la.length ca] := r1
  have r2 : Row W (w.heap.size + 1) 25 [.bool s, .slice B lb.length cb] := r2
  have r3 : Row W (w.heap.size + 1 + 1) 25 [.bool false, .slice none 0 0] := r3
  have HA := Lib.hid (U32.below hua hWB)
  have HB := Lib.hid (U32.below hub hWB)
  have HWB := Lib.hid hWB
  have HWS := Lib.hid hWs
  clear hua hub hWB hWs
  go_enter Tryd.func35, Tryd.ntmps35
  go_wp2_with fail
  rw [← hW]
  have HW := Lib.hid hW
  clear hW
  have f1 := r1.at_ 0 rfl
  have f2 := r1.at_ 1 rfl
  have f3 := r2.at_ 1 rfl
  go_region_held3 (fun w' => w'.cell? ⟨w.heap.size, 0, none⟩ = some (.bool s) ∧ w'.cell? ⟨w.heap.size, 1, none⟩ = some (.slice A la.length ca) ∧ w'.cell? ⟨w.heap.size + 1, 1, none⟩ = some (.slice B lb.length cb))
    (first | exact ⟨f1, f2, f3⟩ | exact ⟨f1', f2', f3'⟩ | exact ⟨f1'', f2'', f3''⟩ | exact ⟨(cell_far2 _ _ _ _ _ _ _ _ (by omega)).trans f1'', (cell_far2 _ _ _ _ _ _ _ _ (by omega)).trans f2'', (cell_far2 _ _ _ _ _ _ _ _ (by omega)).trans f3''⟩ | go_keep)
    (first
      | (go_at_call 63
         refine (plus_walk A B ca cb la lb _ (by exact HA.out) (by exact HB.out) hda hdb (by omega) (by omega)).mono ?_
         rintro e w1 ⟨g, lr, rfl, hrow, hdr, hval, hlr, hb1, hg⟩
         have hb1 : Below W.heap.size W w1 := (Below.refl _ W).drew.trans hb1
         have hg : W.heap.size ≤ g := hg
         have HS := HWS.out
         have f1' := ((bbelow hb1).1 w.heap.size 0 (by omega)).trans f1
         have f2' := ((bbelow hb1).1 w.heap.size 1 (by omega)).trans f2
         have f3' := ((bbelow hb1).1 (w.heap.size + 1) 1 (by omega)).trans f3
         have HLR := Lib.hid hlr
         have HVAL := Lib.hid hval
         clear hlr HS hval)
      | (go_at_call 45
         refine (signed_walk s _ lr _ (by exact ⟨_, _, rfl, Nat.le_refl _, by have := HLR.out; unfold maxLen; omega, hrow.u32, hdr⟩)).mono ?_
         rintro e w2 ⟨v, rfl, hint, hb2⟩
         have hb2 : Below w1.heap.size w1 w2 := hb2
         have hz := hrow.lt
         have HS := HWS.out
         have f1'' := ((bbelow hb2).1 w.heap.size 0 (by omega)).trans f1'
         have f2'' := ((bbelow hb2).1 w.heap.size 1 (by omega)).trans f2'
         have f3'' := ((bbelow hb2).1 (w.heap.size + 1) 1 (by omega)).trans f3'
         have r3' : Row w2 (w.heap.size + 1 + 1) 25 [.bool false, .slice none 0 0] := Row.below (Row.below r3 hb1 (by omega)) hb2 (by omega)
         have k1 := r3'.at_ 0 rfl
         have k2 := r3'.at_ 1 rfl
         have k3 := r3'.free 0
         have k4 := r3'.free 1
         obtain ⟨A', c', rfl, h1, h2, h3⟩ := hint
         have H3 := Lib.hid h3
         have HS' := Lib.hid HS
         clear h3 HS))
  go_wp2_with fail
  refine bodyPost_ret (v := .agg #[.bool (decide (sgn s (val lr) < 0)), .slice A' (digs (sgn s (val lr)).natAbs).length c']) (by simp [results, Tryd.results35, go_sem, k1, k2]) rfl ?_
  have HV := HVAL.out
  rw [← HN.out, ← HV]
  refine ⟨_, rfl, ⟨A', c', rfl, h1, h2, ?_⟩, ?_⟩
  · exact H3.out.kept (grownBy_set2 _ _ _ _ _ _) r3' (by simp)
  · have hbW2 : Below w.heap.size w w2 := (HWB.out.trans (hb1.mono (by have := HWS.out; omega))).trans (hb2.mono (by have := HWS.out; omega))
    exact (hbW2.setCell (p := ⟨w.heap.size + 1 + 1, 0, none⟩) (by simp; omega) _).setCell (p := ⟨w.heap.size + 1 + 1, 1, none⟩) (by simp; omega) _

end Go.Proofs.YtjeaemoiafamaaaDoor

/- integer.Add: the sum of two integers of other signs. -/
namespace Go.Proofs.YtjeaemoiafamaaaDoor
open Go.RowKit

theorem add_ge (A B : Option Addr) (ca cb : Nat) (s : Bool) (x y : Nat) (la lb : List Nat) (hlax : la = digs x) (hlby : lb = digs y) (n : Int) (w : World) (hua : U32 w A la) (hub : U32 w B lb) (hda : Dig la) (hdb : Dig lb) (hla : la.length < 8796093022208) (hlb : lb.length < 8796093022208)
    (hle : y ≤ x) (hn : sgn (s) (val la - val lb) = n) :
    Calls Tryd.prog 35 #[.agg #[.bool s, .slice A la.length ca], .agg #[.bool (!s), .slice B lb.length cb]] w fun e w' => ∃ v, e = .returned v ∧ IsInt w' v n ∧ Below w.heap.size w w' := by
  have HN := Lib.hid hn
  have ho : 0 ≤ ordN x y := by unfold ordN; split <;> (try split) <;> omega
  have HLX := Lib.hid hlax
  have HLY := Lib.hid hlby
  have hvle : val lb ≤ val la := by rw [hlax, hlby, val_digs, val_digs]; omega
  have hlle : lb.length ≤ la.length := by rw [hlax, hlby]; exact digs_len_mono hle
  have HVLE := Lib.hid hvle
  clear hn hlax hlby hle hvle
  obtain ⟨W, hW⟩ : ∃ W, W = ((w.alloc (.cells #[.bool s, .slice A la.length ca] 25)).alloc (.cells #[.bool (!s), .slice B lb.length cb] 25)).alloc (.cells #[.bool false, .slice none 0 0] 25) := ⟨_, rfl⟩
  obtain ⟨r1, r2, r3, hWs, hWB⟩ := boxes3 w (.cells #[.bool s, .slice A la.length ca] 25) (.cells #[.bool (!s), .slice B lb.length cb] 25) (.cells #[.bool false, .slice none 0 0] 25)
  rw [← hW] at r1 r2 r3 hWs hWB
  have r1 : Row W w.heap.size 25 [.bool s, .slice A la.length ca] := r1
  have r2 : Row W (w.heap.size + 1) 25 [.bool (!s), .slice B lb.length cb] := r2
  have r3 : Row W (w.heap.size + 1 + 1) 25 [.bool false, .slice none 0 0] := r3
  have HA := Lib.hid (U32.below hua hWB)
  have HB := Lib.hid (U32.below hub hWB)
  have HWB := Lib.hid hWB
  have HWS := Lib.hid hWs
  clear hua hub hWB hWs
  go_enter Tryd.func35, Tryd.ntmps35
  go_wp2_with fail
  rw [← hW]
  have HW := Lib.hid hW
  clear hW
  have e1 := r1.at_ 1 rfl
  have e2 := r2.at_ 1 rfl
  have f1 := r1.at_ 0 rfl
  go_wp2_with fail
  refine (order_walk' A B ca cb x y la lb W HLX HLY HA.out HB.out (by omega) (by omega)).mono ?_
  rintro e wd ⟨rfl, hdr0⟩
  obtain ⟨nd, rfl⟩ := hdr0
  go_wp2_with fail
  have hsz : (W.drewN nd).heap.size = W.heap.size := rfl
  go_region_held3 (fun w' => w'.cell? ⟨w.heap.size, 0, none⟩ = some (.bool (s)) ∧ w'.cell? ⟨w.heap.size, 1, none⟩ = some (.slice A la.length ca) ∧ w'.cell? ⟨w.heap.size + 1, 1, none⟩ = some (.slice B lb.length cb))
    (first | exact ⟨f1, e1, e2⟩ | exact ⟨f1', e1', e2'⟩ | exact ⟨f1'', e1'', e2''⟩ | exact ⟨(cell_far2 _ _ _ _ _ _ _ _ (by omega)).trans f1'', (cell_far2 _ _ _ _ _ _ _ _ (by omega)).trans e1'', (cell_far2 _ _ _ _ _ _ _ _ (by omega)).trans e2''⟩ | go_keep)
    (first
      | (go_at_call 64
         refine (minus_walk A B ca cb la lb _ (by exact HA.out) (by exact HB.out) hda hdb (by omega) hlle HVLE.out).mono ?_
         rintro e w1 ⟨g, lr, rfl, hrow, hdr, hval, hlr, hb1, hg⟩
         have hb1 : Below W.heap.size W w1 := (below_drewN _ W nd).trans ((Below.refl _ (W.drewN nd)).drew.trans hb1)
         have hg : W.heap.size ≤ g := hg
         have HS := HWS.out
         have f1' := ((bbelow hb1).1 (w.heap.size) 0 (by omega)).trans f1
         have e1' := ((bbelow hb1).1 w.heap.size 1 (by omega)).trans e1
         have e2' := ((bbelow hb1).1 (w.heap.size + 1) 1 (by omega)).trans e2
         have HLR := Lib.hid hlr
         have HVAL := Lib.hid hval
         clear hlr HS hval)
      | (go_at_call 45
         refine (signed_walk (s) _ lr _ (by exact ⟨_, _, rfl, Nat.le_refl _, by have := HLR.out; unfold maxLen; omega, hrow.u32, hdr⟩)).mono ?_
         rintro e w2 ⟨v, rfl, hint, hb2⟩
         have hb2 : Below w1.heap.size w1 w2 := hb2
         have hz := hrow.lt
         have HS := HWS.out
         have f1'' := ((bbelow hb2).1 (w.heap.size) 0 (by omega)).trans f1'
         have e1'' := ((bbelow hb2).1 w.heap.size 1 (by omega)).trans e1'
         have e2'' := ((bbelow hb2).1 (w.heap.size + 1) 1 (by omega)).trans e2'
         have r3' : Row w2 (w.heap.size + 1 + 1) 25 [.bool false, .slice none 0 0] := Row.below (Row.below r3 hb1 (by omega)) hb2 (by omega)
         have k1 := r3'.at_ 0 rfl
         have k2 := r3'.at_ 1 rfl
         have k3 := r3'.free 0
         have k4 := r3'.free 1
         obtain ⟨A', c', rfl, h1, h2, h3⟩ := hint
         have H3 := Lib.hid h3
         have HS' := Lib.hid HS
         clear h3 HS))
  go_wp2_with fail
  refine bodyPost_ret (v := .agg #[.bool (decide (sgn (s) (val lr) < 0)), .slice A' (digs (sgn (s) (val lr)).natAbs).length c']) (by simp [results, Tryd.results35, go_sem, k1, k2]) rfl ?_
  have HV := HVAL.out
  rw [← HN.out, ← HV]
  refine ⟨_, rfl, ⟨A', c', rfl, h1, h2, ?_⟩, ?_⟩
  · exact H3.out.kept (grownBy_set2 _ _ _ _ _ _) r3' (by simp)
  · have hbW2 : Below w.heap.size w w2 := (HWB.out.trans (hb1.mono (by have := HWS.out; omega))).trans (hb2.mono (by have := HWS.out; omega))
    exact (hbW2.setCell (p := ⟨w.heap.size + 1 + 1, 0, none⟩) (by simp; omega) _).setCell (p := ⟨w.heap.size + 1 + 1, 1, none⟩) (by simp; omega) _

theorem add_lt (A B : Option Addr) (ca cb : Nat) (s : Bool) (x y : Nat) (la lb : List Nat) (hlax : la = digs x) (hlby : lb = digs y) (n : Int) (w : World) (hua : U32 w A la) (hub : U32 w B lb) (hda : Dig la) (hdb : Dig lb) (hla : la.length < 8796093022208) (hlb : lb.length < 8796093022208)
    (hle : x < y) (hn : sgn (!s) (val lb - val la) = n) :
    Calls Tryd.prog 35 #[.agg #[.bool s, .slice A la.length ca], .agg #[.bool (!s), .slice B lb.length cb]] w fun e w' => ∃ v, e = .returned v ∧ IsInt w' v n ∧ Below w.heap.size w w' := by
  have HN := Lib.hid hn
  have ho : ¬ 0 ≤ ordN x y := by unfold ordN; split <;> (try split) <;> omega
  have HLX := Lib.hid hlax
  have HLY := Lib.hid hlby
  have hvle : val la ≤ val lb := by rw [hlax, hlby, val_digs, val_digs]; omega
  have hlle : la.length ≤ lb.length := by rw [hlax, hlby]; exact digs_len_mono (Nat.le_of_lt hle)
  have HVLE := Lib.hid hvle
  clear hn hlax hlby hle hvle
  obtain ⟨W, hW⟩ : ∃ W, W = ((w.alloc (.cells #[.bool s, .slice A la.length ca] 25)).alloc (.cells #[.bool (!s), .slice B lb.length cb] 25)).alloc (.cells #[.bool false, .slice none 0 0] 25) := ⟨_, rfl⟩
  obtain ⟨r1, r2, r3, hWs, hWB⟩ := boxes3 w (.cells #[.bool s, .slice A la.length ca] 25) (.cells #[.bool (!s), .slice B lb.length cb] 25) (.cells #[.bool false, .slice none 0 0] 25)
  rw [← hW] at r1 r2 r3 hWs hWB
  have r1 : Row W w.heap.size 25 [.bool s, .slice A la.length ca] := r1
  have r2 : Row W (w.heap.size + 1) 25 [.bool (!s), .slice B lb.length cb] := r2
  have r3 : Row W (w.heap.size + 1 + 1) 25 [.bool false, .slice none 0 0] := r3
  have HA := Lib.hid (U32.below hua hWB)
  have HB := Lib.hid (U32.below hub hWB)
  have HWB := Lib.hid hWB
  have HWS := Lib.hid hWs
  clear hua hub hWB hWs
  go_enter Tryd.func35, Tryd.ntmps35
  go_wp2_with fail
  rw [← hW]
  have HW := Lib.hid hW
  clear hW
  have e1 := r1.at_ 1 rfl
  have e2 := r2.at_ 1 rfl
  have f1 := r2.at_ 0 rfl
  go_wp2_with fail
  refine (order_walk' A B ca cb x y la lb W HLX HLY HA.out HB.out (by omega) (by omega)).mono ?_
  rintro e wd ⟨rfl, hdr0⟩
  obtain ⟨nd, rfl⟩ := hdr0
  go_wp2_with fail
  have hsz : (W.drewN nd).heap.size = W.heap.size := rfl
  go_region_held3 (fun w' => w'.cell? ⟨w.heap.size + 1, 0, none⟩ = some (.bool (!s)) ∧ w'.cell? ⟨w.heap.size, 1, none⟩ = some (.slice A la.length ca) ∧ w'.cell? ⟨w.heap.size + 1, 1, none⟩ = some (.slice B lb.length cb))
    (first | exact ⟨f1, e1, e2⟩ | exact ⟨f1', e1', e2'⟩ | exact ⟨f1'', e1'', e2''⟩ | exact ⟨(cell_far2 _ _ _ _ _ _ _ _ (by omega)).trans f1'', (cell_far2 _ _ _ _ _ _ _ _ (by omega)).trans e1'', (cell_far2 _ _ _ _ _ _ _ _ (by omega)).trans e2''⟩ | go_keep)
    (first
      | (go_at_call 64
         refine (minus_walk B A cb ca lb la _ (by exact HB.out) (by exact HA.out) hdb hda (by omega) hlle HVLE.out).mono ?_
         rintro e w1 ⟨g, lr, rfl, hrow, hdr, hval, hlr, hb1, hg⟩
         have hb1 : Below W.heap.size W w1 := (below_drewN _ W nd).trans ((Below.refl _ (W.drewN nd)).drew.trans hb1)
         have hg : W.heap.size ≤ g := hg
         have HS := HWS.out
         have f1' := ((bbelow hb1).1 (w.heap.size + 1) 0 (by omega)).trans f1
         have e1' := ((bbelow hb1).1 w.heap.size 1 (by omega)).trans e1
         have e2' := ((bbelow hb1).1 (w.heap.size + 1) 1 (by omega)).trans e2
         have HLR := Lib.hid hlr
         have HVAL := Lib.hid hval
         clear hlr HS hval)
      | (go_at_call 45
         refine (signed_walk (!s) _ lr _ (by exact ⟨_, _, rfl, Nat.le_refl _, by have := HLR.out; unfold maxLen; omega, hrow.u32, hdr⟩)).mono ?_
         rintro e w2 ⟨v, rfl, hint, hb2⟩
         have hb2 : Below w1.heap.size w1 w2 := hb2
         have hz := hrow.lt
         have HS := HWS.out
         have f1'' := ((bbelow hb2).1 (w.heap.size + 1) 0 (by omega)).trans f1'
         have e1'' := ((bbelow hb2).1 w.heap.size 1 (by omega)).trans e1'
         have e2'' := ((bbelow hb2).1 (w.heap.size + 1) 1 (by omega)).trans e2'
         have r3' : Row w2 (w.heap.size + 1 + 1) 25 [.bool false, .slice none 0 0] := Row.below (Row.below r3 hb1 (by omega)) hb2 (by omega)
         have k1 := r3'.at_ 0 rfl
         have k2 := r3'.at_ 1 rfl
         have k3 := r3'.free 0
         have k4 := r3'.free 1
         obtain ⟨A', c', rfl, h1, h2, h3⟩ := hint
         have H3 := Lib.hid h3
         have HS' := Lib.hid HS
         clear h3 HS))
  go_wp2_with fail
  refine bodyPost_ret (v := .agg #[.bool (decide (sgn (!s) (val lr) < 0)), .slice A' (digs (sgn (!s) (val lr)).natAbs).length c']) (by simp [results, Tryd.results35, go_sem, k1, k2]) rfl ?_
  have HV := HVAL.out
  rw [← HN.out, ← HV]
  refine ⟨_, rfl, ⟨A', c', rfl, h1, h2, ?_⟩, ?_⟩
  · exact H3.out.kept (grownBy_set2 _ _ _ _ _ _) r3' (by simp)
  · have hbW2 : Below w.heap.size w w2 := (HWB.out.trans (hb1.mono (by have := HWS.out; omega))).trans (hb2.mono (by have := HWS.out; omega))
    exact (hbW2.setCell (p := ⟨w.heap.size + 1 + 1, 0, none⟩) (by simp; omega) _).setCell (p := ⟨w.heap.size + 1 + 1, 1, none⟩) (by simp; omega) _

end Go.Proofs.YtjeaemoiafamaaaDoor

/- integer.Add, Neg, Abs, Sign, Sub, Compare over integers. -/
namespace Go.Proofs.YtjeaemoiafamaaaDoor
open Go.RowKit

theorem natAbs_of_neg {a : Int} (h : a < 0) : a = -(a.natAbs : Int) := by omega
theorem natAbs_of_nonneg {a : Int} (h : ¬ a < 0) : a = (a.natAbs : Int) := by omega

theorem add_walk (va vb : Value) (a b : Int) (w : World) (ha : IsInt w va a) (hb : IsInt w vb b) (hla : (digs a.natAbs).length < 8796093022208) (hlb : (digs b.natAbs).length < 8796093022208) :
    Calls Tryd.prog 35 #[va, vb] w fun e w' => ∃ v, e = .returned v ∧ IsInt w' v (a + b) ∧ Below w.heap.size w w' := by
  obtain ⟨A, ca, rfl, hca, hmca, hua⟩ := ha
  obtain ⟨B, cb, rfl, hcb, hmcb, hub⟩ := hb
  by_cases h1 : a < 0 <;> by_cases h2 : b < 0
  · rw [decide_eq_true h1, decide_eq_true h2]
    exact add_same A B ca cb true _ _ (a + b) w hua hub (dig_digs _) (dig_digs _) hla hlb (by rw [val_digs, val_digs]; simp [sgn]; omega)
  · rw [decide_eq_true h1, decide_eq_false h2]
    rcases Nat.lt_or_ge a.natAbs b.natAbs with h | h
    · exact add_lt A B ca cb true a.natAbs b.natAbs _ _ rfl rfl (a + b) w hua hub (dig_digs _) (dig_digs _) hla hlb h (by rw [val_digs, val_digs]; simp [sgn]; omega)
    · exact add_ge A B ca cb true a.natAbs b.natAbs _ _ rfl rfl (a + b) w hua hub (dig_digs _) (dig_digs _) hla hlb h (by rw [val_digs, val_digs]; simp [sgn]; omega)
  · rw [decide_eq_false h1, decide_eq_true h2]
    rcases Nat.lt_or_ge a.natAbs b.natAbs with h | h
    · exact add_lt A B ca cb false a.natAbs b.natAbs _ _ rfl rfl (a + b) w hua hub (dig_digs _) (dig_digs _) hla hlb h (by rw [val_digs, val_digs]; simp [sgn]; omega)
    · exact add_ge A B ca cb false a.natAbs b.natAbs _ _ rfl rfl (a + b) w hua hub (dig_digs _) (dig_digs _) hla hlb h (by rw [val_digs, val_digs]; simp [sgn]; omega)
  · rw [decide_eq_false h1, decide_eq_false h2]
    exact add_same A B ca cb false _ _ (a + b) w hua hub (dig_digs _) (dig_digs _) hla hlb (by rw [val_digs, val_digs]; simp [sgn]; omega)

theorem neg_walk (va : Value) (a : Int) (w : World) (ha : IsInt w va a) :
    Calls Tryd.prog 39 #[va] w fun e w' => ∃ v, e = .returned v ∧ IsInt w' v (-a) ∧ Below w.heap.size w w' := by
  obtain ⟨A, ca, rfl, hca, hmca, hua⟩ := ha
  have HU := Lib.hid hua
  have HC := Lib.hid hca
  have HM := Lib.hid hmca
  clear hua hca hmca
  have key : ∀ s : Bool, Calls Tryd.prog 39 #[.agg #[.bool s, .slice A (digs a.natAbs).length ca]] w fun e w' => e = .returned (.agg #[.bool (!s && decide (0 < (digs a.natAbs).length)), .slice A (digs a.natAbs).length ca]) ∧ Below w.heap.size w w' := by
    intro s
    generalize (digs a.natAbs).length = n
    cases s
    all_goals
      go_enter Tryd.func39, Tryd.ntmps39
      go_wp2_with fail
      go_returns
      exact ⟨by simp, by go_grown⟩
  refine (key _).mono ?_
  rintro e w' ⟨rfl, hb⟩
  have e1 : (-a).natAbs = a.natAbs := Int.natAbs_neg a
  refine ⟨_, rfl, ⟨A, ca, ?_, by rw [e1]; exact HC.out, HM.out, by rw [e1]; exact U32.below HU.out hb⟩, hb⟩
  rw [e1]
  have : (!decide (a < 0) && decide (0 < (digs a.natAbs).length)) = decide (-a < 0) := by
    rw [Bool.eq_iff_iff]
    simp only [Bool.and_eq_true, Bool.not_eq_true', decide_eq_true_eq, decide_eq_false_iff_not, digs_len_pos]
    omega
  rw [this]

theorem abs_walk (va : Value) (a : Int) (w : World) (ha : IsInt w va a) :
    Calls Tryd.prog 40 #[va] w fun e w' => ∃ v, e = .returned v ∧ IsInt w' v (a.natAbs : Nat) ∧ Below w.heap.size w w' := by
  obtain ⟨A, ca, rfl, hca, hmca, hua⟩ := ha
  have HU := Lib.hid hua
  have HC := Lib.hid hca
  have HM := Lib.hid hmca
  clear hua hca hmca
  have key : ∀ s : Bool, Calls Tryd.prog 40 #[.agg #[.bool s, .slice A (digs a.natAbs).length ca]] w fun e w' => e = .returned (.agg #[.bool false, .slice A (digs a.natAbs).length ca]) ∧ Below w.heap.size w w' := by
    intro s
    generalize (digs a.natAbs).length = n
    go_enter Tryd.func40, Tryd.ntmps40
    go_wp2_with fail
    go_returns
    exact ⟨by simp, by go_grown⟩
  refine (key _).mono ?_
  rintro e w' ⟨rfl, hb⟩
  refine ⟨_, rfl, ⟨A, ca, ?_, by simpa using HC.out, HM.out, by simpa using U32.below HU.out hb⟩, hb⟩
  rw [Int.natAbs_natCast, decide_eq_false (by omega)]

/-- The sign of an integer. -/
def sgI (a : Int) : Int := if a < 0 then -1 else if a = 0 then 0 else 1
theorem sign_walk (va : Value) (a : Int) (w : World) (ha : IsInt w va a) :
    Calls Tryd.prog 19 #[va] w fun e w' => e = .returned (.int .i64 (sgI a)) ∧ Below w.heap.size w w' := by
  obtain ⟨A, ca, rfl, hca, hmca, hua⟩ := ha
  clear hua hca hmca
  obtain ⟨r, hr⟩ : ∃ r, r = sgI a := ⟨_, rfl⟩
  rw [← hr]
  have HR := Lib.hid hr
  clear hr
  by_cases h0 : a = 0
  · have hr := HR.out
    subst h0
    subst hr
    rw [show (digs (0 : Int).natAbs).length = 0 from by simp [digs_zero]]
    go_enter Tryd.func19, Tryd.ntmps19
    go_wp2_with fail
    go_returns
    exact ⟨rfl, by go_grown⟩
  · have hp : 0 < (digs a.natAbs).length := digs_len_pos.2 (by omega)
    have hr := HR.out
    unfold sgI at hr
    have H0 := Lib.hid h0
    by_cases h1 : a < 0
    · rw [if_pos h1] at hr
      subst hr
      rw [decide_eq_true h1]
      clear HR h0 h1
      generalize (digs a.natAbs).length = n at *
      have hne : (((n : Nat) : Int) == 0) = false := by simp; omega
      go_enter Tryd.func19, Tryd.ntmps19
      go_wp2_with fail
      go_returns
      exact ⟨rfl, by go_grown⟩
    · rw [if_neg h1, if_neg h0] at hr
      subst hr
      rw [decide_eq_false h1]
      clear HR h0 h1
      generalize (digs a.natAbs).length = n at *
      have hne : (((n : Nat) : Int) == 0) = false := by simp; omega
      go_enter Tryd.func19, Tryd.ntmps19
      go_wp2_with fail
      go_returns
      exact ⟨rfl, by go_grown⟩

end Go.Proofs.YtjeaemoiafamaaaDoor

/- integer.Sub, Compare over integers. -/
namespace Go.Proofs.YtjeaemoiafamaaaDoor
open Go.RowKit

theorem sub_walk (va vb : Value) (a b : Int) (w : World) (ha : IsInt w va a) (hb : IsInt w vb b) (hla : (digs a.natAbs).length < 8796093022208) (hlb : (digs b.natAbs).length < 8796093022208) :
    Calls Tryd.prog 37 #[va, vb] w fun e w' => ∃ v, e = .returned v ∧ IsInt w' v (a - b) ∧ Below w.heap.size w w' := by
  have hia := ha
  have hib := hb
  obtain ⟨A, ca, rfl, -, -, -⟩ := ha
  obtain ⟨B, cb, rfl, -, -, -⟩ := hb
  generalize decide (a < 0) = s at *
  generalize decide (b < 0) = t at *
  have HLA := Lib.hid hla
  have HLB := Lib.hid hlb
  clear hla hlb
  obtain ⟨na, hna⟩ : ∃ n, n = (digs a.natAbs).length := ⟨_, rfl⟩
  obtain ⟨nb, hnb⟩ : ∃ n, n = (digs b.natAbs).length := ⟨_, rfl⟩
  rw [← hna] at hia ⊢
  rw [← hnb] at hib ⊢
  clear hna hnb
  obtain ⟨W, hW⟩ : ∃ W, W = ((w.alloc (.cells #[.bool s, .slice A na ca] 25)).alloc (.cells #[.bool t, .slice B nb cb] 25)).alloc (.cells #[.bool false, .slice none 0 0] 25) := ⟨_, rfl⟩
  obtain ⟨r1, r2, r3, hWs, hWB⟩ := boxes3 w (.cells #[.bool s, .slice A na ca] 25) (.cells #[.bool t, .slice B nb cb] 25) (.cells #[.bool false, .slice none 0 0] 25)
  rw [← hW] at r1 r2 r3 hWs hWB
  have r1 : Row W w.heap.size 25 [.bool s, .slice A na ca] := r1
  have r2 : Row W (w.heap.size + 1) 25 [.bool t, .slice B nb cb] := r2
  have r3 : Row W (w.heap.size + 1 + 1) 25 [.bool false, .slice none 0 0] := r3
  have HA := Lib.hid (hia.below hWB)
  have HB := Lib.hid (hib.below hWB)
  have HWB := Lib.hid hWB
  have HWS := Lib.hid hWs
  clear hia hib hWB hWs
  go_enter Tryd.func37, Tryd.ntmps37
  go_wp2_with fail
  rw [← hW]
  have HW := Lib.hid hW
  clear hW
  have e1 := r1.at_ 0 rfl
  have e2 := r1.at_ 1 rfl
  have e3 := r2.at_ 0 rfl
  have e4 := r2.at_ 1 rfl
  go_region_held3 (fun w' => w'.cell? ⟨w.heap.size, 0, none⟩ = some (.bool s) ∧ w'.cell? ⟨w.heap.size, 1, none⟩ = some (.slice A na ca) ∧ w'.cell? ⟨w.heap.size + 1, 0, none⟩ = some (.bool t) ∧ w'.cell? ⟨w.heap.size + 1, 1, none⟩ = some (.slice B nb cb))
    (first | exact ⟨e1, e2, e3, e4⟩ | exact ⟨e1', e2', e3', e4'⟩ | exact ⟨e1'', e2'', e3'', e4''⟩ | exact ⟨(cell_far2 _ _ _ _ _ _ _ _ (by omega)).trans e1'', (cell_far2 _ _ _ _ _ _ _ _ (by omega)).trans e2'', (cell_far2 _ _ _ _ _ _ _ _ (by omega)).trans e3'', (cell_far2 _ _ _ _ _ _ _ _ (by omega)).trans e4''⟩ | go_keep)
    (first
      | (go_at_call 39
         refine (neg_walk _ b _ (by exact HB.out)).mono ?_
         rintro e w1 ⟨v1, rfl, hi1, hb1⟩
         have hb1 : Below W.heap.size W w1 := (Below.refl _ W).drew.trans hb1
         have HS := HWS.out
         have hs1 := hb1.size
         have e1' := ((bbelow hb1).1 w.heap.size 0 (by omega)).trans e1
         have e2' := ((bbelow hb1).1 w.heap.size 1 (by omega)).trans e2
         have e3' := ((bbelow hb1).1 (w.heap.size + 1) 0 (by omega)).trans e3
         have e4' := ((bbelow hb1).1 (w.heap.size + 1) 1 (by omega)).trans e4
         have HI1 := Lib.hid hi1
         have HA1 := Lib.hid (IsInt.below HA.out hb1)
         clear hi1 HS)
      | (go_at_call 35
         refine (add_walk _ _ a (-b) _ (by exact HA1.out) (by exact HI1.out) HLA.out (by rw [Int.natAbs_neg]; exact HLB.out)).mono ?_
         rintro e w2 ⟨v, rfl, hint, hb2⟩
         have hb2 : Below w1.heap.size w1 w2 := hb2
         have HS := HWS.out
         have e1'' := ((bbelow hb2).1 w.heap.size 0 (by omega)).trans e1'
         have e2'' := ((bbelow hb2).1 w.heap.size 1 (by omega)).trans e2'
         have e3'' := ((bbelow hb2).1 (w.heap.size + 1) 0 (by omega)).trans e3'
         have e4'' := ((bbelow hb2).1 (w.heap.size + 1) 1 (by omega)).trans e4'
         have r3' : Row w2 (w.heap.size + 1 + 1) 25 [.bool false, .slice none 0 0] := Row.below (Row.below r3 hb1 (by omega)) hb2 (by omega)
         have k1 := r3'.at_ 0 rfl
         have k2 := r3'.at_ 1 rfl
         have k3 := r3'.free 0
         have k4 := r3'.free 1
         obtain ⟨A', c', rfl, h1, h2, h3⟩ := hint
         have H1 := Lib.hid h1
         have H3 := Lib.hid h3
         have HS' := Lib.hid HS
         clear h1 h3 HS))
  go_wp2_with fail
  refine bodyPost_ret (v := .agg #[.bool (decide (a + -b < 0)), .slice A' (digs (a + -b).natAbs).length c']) (by simp [results, Tryd.results37, go_sem, k1, k2]) rfl ?_
  rw [show a - b = a + -b from Int.sub_eq_add_neg]
  refine ⟨_, rfl, ⟨A', c', rfl, H1.out, h2, ?_⟩, ?_⟩
  · exact H3.out.kept (grownBy_set2 _ _ _ _ _ _) r3' (by simp)
  · have hbW2 : Below w.heap.size w w2 := (HWB.out.trans (hb1.mono (by have := HWS.out; omega))).trans (hb2.mono (by have := HWS.out; omega))
    exact (hbW2.setCell (p := ⟨w.heap.size + 1 + 1, 0, none⟩) (by simp; omega) _).setCell (p := ⟨w.heap.size + 1 + 1, 1, none⟩) (by simp; omega) _

/-- The order of two integers. -/
def cmpI (a b : Int) : Int := if a < b then -1 else if a = b then 0 else 1
theorem compare_walk (va vb : Value) (a b : Int) (w : World) (ha : IsInt w va a) (hb : IsInt w vb b) (hla : (digs a.natAbs).length < 8796093022208) (hlb : (digs b.natAbs).length < 8796093022208) :
    Calls Tryd.prog 20 #[va, vb] w fun e w' => e = .returned (.int .i64 (cmpI a b)) ∧ Below w.heap.size w w' := by
  obtain ⟨A, ca, rfl, -, -, hua⟩ := ha
  obtain ⟨B, cb, rfl, -, -, hub⟩ := hb
  obtain ⟨r, hr⟩ : ∃ r, r = cmpI a b := ⟨_, rfl⟩
  rw [← hr]
  have HR := Lib.hid hr
  clear hr
  have key : ∀ (s t : Bool) (r : Int), (s ≠ t → r = if s = true then -1 else 1) → (s = true → t = true → r = ordN b.natAbs a.natAbs) → (s = false → t = false → r = ordN a.natAbs b.natAbs) →
      Calls Tryd.prog 20 #[.agg #[.bool s, .slice A (digs a.natAbs).length ca], .agg #[.bool t, .slice B (digs b.natAbs).length cb]] w fun e w' => e = .returned (.int .i64 r) ∧ Below w.heap.size w w' := by
    intro s t r q1 q2 q3
    generalize hx : a.natAbs = x at *
    generalize hy : b.natAbs = y at *
    clear HR hx hy a b
    obtain ⟨la, hla'⟩ : ∃ l, l = digs x := ⟨_, rfl⟩
    obtain ⟨lb, hlb'⟩ : ∃ l, l = digs y := ⟨_, rfl⟩
    rw [← hla'] at hua hla ⊢
    rw [← hlb'] at hub hlb ⊢
    have HLX : Hid (la = digs x) := Lib.hid hla'
    have HLY : Hid (lb = digs y) := Lib.hid hlb'
    clear hla' hlb'
    have HUA := Lib.hid hua
    have HUB := Lib.hid hub
    obtain ⟨W, hW⟩ : ∃ W, W = (w.alloc (.cells #[.bool s, .slice A la.length ca] 25)).alloc (.cells #[.bool t, .slice B lb.length cb] 25) := ⟨_, rfl⟩
    have hWB : Below w.heap.size w W := by rw [hW]; go_grown
    have HA := Lib.hid (U32.below hua hWB)
    have HB := Lib.hid (U32.below hub hWB)
    clear hua hub
    cases s <;> cases t
    · have q := q3 rfl rfl
      have HQ := Lib.hid q
      clear q1 q2 q3 q
      go_enter Tryd.func20, Tryd.ntmps20
      go_wp2_with fail
      rw [← hW]
      refine (order_walk' A B ca cb x y la lb W HLX HLY HA.out HB.out (by omega) (by omega)).mono ?_
      rintro e wd ⟨rfl, hd⟩
      have hbd := hWB.trans (hd.below _)
      have HBD := Lib.hid hbd
      clear hW hWB hbd hd
      go_wp2_with fail
      go_returns
      exact ⟨by rw [HQ.out]; rfl, HBD.out⟩
    · have q := q1 (by simp)
      simp at q
      subst q
      clear q1 q2 q3
      go_enter Tryd.func20, Tryd.ntmps20
      go_wp2_with fail
      go_returns
      exact ⟨rfl, by go_grown⟩
    · have q := q1 (by simp)
      simp at q
      subst q
      clear q1 q2 q3
      go_enter Tryd.func20, Tryd.ntmps20
      go_wp2_with fail
      go_returns
      exact ⟨rfl, by go_grown⟩
    · have q := q2 rfl rfl
      have HQ := Lib.hid q
      clear q1 q2 q3 q
      go_enter Tryd.func20, Tryd.ntmps20
      go_wp2_with fail
      rw [← hW]
      refine (order_walk' B A cb ca y x lb la W HLY HLX HB.out HA.out (by omega) (by omega)).mono ?_
      rintro e wd ⟨rfl, hd⟩
      have hbd := hWB.trans (hd.below _)
      have HBD := Lib.hid hbd
      clear hW hWB hbd hd
      go_wp2_with fail
      go_returns
      exact ⟨by rw [HQ.out]; rfl, HBD.out⟩
  refine key _ _ _ ?_ ?_ ?_
  · intro h
    rw [HR.out]
    unfold cmpI
    by_cases h1 : a < 0 <;> by_cases h2 : b < 0
    · rw [decide_eq_true h1, decide_eq_true h2] at h; exact absurd rfl h
    · rw [decide_eq_true h1, if_pos (by omega)]; simp
    · rw [decide_eq_false h1, if_neg (by omega), if_neg (by omega)]; simp
    · rw [decide_eq_false h1, decide_eq_false h2] at h; exact absurd rfl h
  · intro h1 h2
    rw [HR.out]
    simp only [decide_eq_true_eq] at h1 h2
    unfold cmpI ordN
    split <;> (try split) <;> (try split) <;> (try split) <;> omega
  · intro h1 h2
    rw [HR.out]
    simp only [decide_eq_false_iff_not] at h1 h2
    unfold cmpI ordN
    split <;> (try split) <;> (try split) <;> (try split) <;> omega

end Go.Proofs.YtjeaemoiafamaaaDoor

/- integer.From: an int as an integer. -/
namespace Go.Proofs.YtjeaemoiafamaaaDoor
open Go.RowKit

theorem val_two (x y : Nat) : val [x, y] = x + 4294967296 * y := by simp [val, BB_eq]
theorem dig_two {x y : Nat} (hx : x < 4294967296) (hy : y < 4294967296) : Dig [x, y] := Dig.cons hx (Dig.cons hy Dig.nil)

theorem u64_nat (m : Nat) (h : m < 18446744073709551616) : IntKind.u64.wrap ((m : Nat) : Int) = ((m : Nat) : Int) := by
  rw [IntKind.wrap_u64]; omega
theorem u64_negof (m : Nat) (h : 0 < m) (h2 : m ≤ 9223372036854775808) : IntKind.u64.wrap (-((m : Nat) : Int)) = ((18446744073709551616 - m : Nat) : Int) := by
  rw [IntKind.wrap_u64]; omega
theorem u64_negback (m : Nat) (h : 0 < m) (h2 : m ≤ 9223372036854775808) : IntKind.u64.wrap (-((18446744073709551616 - m : Nat) : Int)) = ((m : Nat) : Int) := by
  rw [IntKind.wrap_u64]; omega

theorem from_walk (n : Int) (w : World) (h1 : -9223372036854775808 ≤ n) (h2 : n ≤ 9223372036854775807) :
    Calls Tryd.prog 15 #[.int .i64 n] w fun e w' => ∃ v, e = .returned v ∧ IsInt w' v n ∧ Below w.heap.size w w' := by
  have key : ∀ (neg : Bool) (m : Nat), (neg = true → 0 < m) → m ≤ 9223372036854775808 → (neg = false → m < 9223372036854775808) → sgn neg m = n →
      Calls Tryd.prog 15 #[.int .i64 n] w fun e w' => ∃ v, e = .returned v ∧ IsInt w' v n ∧ Below w.heap.size w w' := by
    intro neg m hp hm hm2 hs
    clear h1 h2
    have hlo : ((m % 4294967296 : Nat) : Int) = ((m : Nat) : Int) % 4294967296 := by omega
    have hhi : ((m / 4294967296 : Nat) : Int) = ((m : Nat) : Int) / 4294967296 := by omega
    have hhi2 : ((m : Nat) : Int) / 4294967296 % 4294967296 = ((m / 4294967296 : Nat) : Int) := by omega
    have hval : val [m % 4294967296, m / 4294967296] = m := by rw [val_two]; omega
    have hdig : Dig [m % 4294967296, m / 4294967296] := dig_two (by omega) (by omega)
    obtain ⟨x, hx⟩ : ∃ x, x = m % 4294967296 := ⟨_, rfl⟩
    obtain ⟨y, hy⟩ : ∃ y, y = m / 4294967296 := ⟨_, rfl⟩
    rw [← hx, ← hy] at hval hdig
    rw [← hx] at hlo
    rw [← hy] at hhi hhi2
    have hxx : ((m : Nat) : Int) % 4294967296 = ((x : Nat) : Int) := hlo.symm
    have hyy : ((m : Nat) : Int) / 4294967296 = ((y : Nat) : Int) := hhi.symm
    have hy3 : ((y : Nat) : Int) < 4294967296 := by omega
    have HV := Lib.hid hval
    have HD := Lib.hid hdig
    have HS := Lib.hid hs
    cases neg
    · have hw : IntKind.u64.wrap ((m : Nat) : Int) = ((m : Nat) : Int) := u64_nat m (by omega)
      obtain rfl : n = (m : Int) := by rw [← hs]; simp [sgn]
      have hge : ¬ (((m : Nat) : Int) < 0) := by omega
      clear hx hy hlo hhi hhi2 hval hdig hs hp hm hm2
      go_enter Tryd.func15, Tryd.ntmps15
      go_wp2_with fail
      obtain ⟨W, hW⟩ : ∃ W, W = (w.alloc (.cells #[.bool false, .slice none 0 0] 25)).alloc (.cells #[.int .u32 (x : Nat), .int .u32 (y : Nat)] 60) := ⟨_, rfl⟩
      obtain ⟨r1, r2, hWs, hWB⟩ := boxes2 w (.cells #[.bool false, .slice none 0 0] 25) (.cells #[.int .u32 (x : Nat), .int .u32 (y : Nat)] 60)
      rw [← hW] at r1 r2 hWs hWB ⊢
      have r1 : Row W w.heap.size 25 [.bool false, .slice none 0 0] := r1
      have r2 : Row32 W (w.heap.size + 1) [x, y] := r2
      have HWB := Lib.hid hWB
      clear hW hWB
      refine (signed_walk false _ [x, y] W (by exact ⟨_, 2, rfl, Nat.le_refl _, by unfold maxLen; omega, r2.u32, HD.out⟩)).mono ?_
      rintro e w2 ⟨v, rfl, hint, hb2⟩
      rw [HV.out, HS.out] at hint
      have r1' : Row w2 w.heap.size 25 [.bool false, .slice none 0 0] := Row.below r1 hb2 (by omega)
      have k1 := r1'.at_ 0 rfl
      have k2 := r1'.at_ 1 rfl
      have k3 := r1'.free 0
      have k4 := r1'.free 1
      obtain ⟨sv, Av, lv, cv, rfl⟩ := hint.shape
      have hres := res_store HWB.out r1' (by simp) (by simp) (Nat.le_refl _) hb2 hint
      have HRES := Lib.hid hres
      clear hres hint hb2
      go_wp2_with fail
      refine bodyPost_ret (v := .agg #[.bool sv, .slice Av lv cv]) (by simp [results, Tryd.results15, go_sem, k1, k2]) rfl ?_
      exact ⟨_, rfl, HRES.out.1, HRES.out.2⟩
    · obtain rfl : n = -(m : Int) := by rw [← hs]; simp [sgn]
      have hp := hp rfl
      have hw1 := u64_negof m hp hm
      have hw2 := u64_negback m hp hm
      obtain ⟨u, hu⟩ : ∃ u, u = 18446744073709551616 - m := ⟨_, rfl⟩
      rw [← hu] at hw1 hw2
      have hge : -((m : Nat) : Int) < 0 := by omega
      clear hx hy hlo hhi hhi2 hval hdig hs hm hm2 hu
      go_enter Tryd.func15, Tryd.ntmps15
      go_wp2_with fail
      obtain ⟨W, hW⟩ : ∃ W, W = (w.alloc (.cells #[.bool false, .slice none 0 0] 25)).alloc (.cells #[.int .u32 (x : Nat), .int .u32 (y : Nat)] 60) := ⟨_, rfl⟩
      obtain ⟨r1, r2, hWs, hWB⟩ := boxes2 w (.cells #[.bool false, .slice none 0 0] 25) (.cells #[.int .u32 (x : Nat), .int .u32 (y : Nat)] 60)
      rw [← hW] at r1 r2 hWs hWB ⊢
      have r1 : Row W w.heap.size 25 [.bool false, .slice none 0 0] := r1
      have r2 : Row32 W (w.heap.size + 1) [x, y] := r2
      have HWB := Lib.hid hWB
      clear hW hWB
      refine (signed_walk true _ [x, y] W (by exact ⟨_, 2, rfl, Nat.le_refl _, by unfold maxLen; omega, r2.u32, HD.out⟩)).mono ?_
      rintro e w2 ⟨v, rfl, hint, hb2⟩
      rw [HV.out, HS.out] at hint
      have r1' : Row w2 w.heap.size 25 [.bool false, .slice none 0 0] := Row.below r1 hb2 (by omega)
      have k1 := r1'.at_ 0 rfl
      have k2 := r1'.at_ 1 rfl
      have k3 := r1'.free 0
      have k4 := r1'.free 1
      obtain ⟨sv, Av, lv, cv, rfl⟩ := hint.shape
      have hres := res_store HWB.out r1' (by simp) (by simp) (Nat.le_refl _) hb2 hint
      have HRES := Lib.hid hres
      clear hres hint hb2
      go_wp2_with fail
      refine bodyPost_ret (v := .agg #[.bool sv, .slice Av lv cv]) (by simp [results, Tryd.results15, go_sem, k1, k2]) rfl ?_
      exact ⟨_, rfl, HRES.out.1, HRES.out.2⟩
  by_cases hn : n < 0
  · exact key true n.natAbs (by omega) (by omega) (by simp) (by unfold sgn; simp; omega)
  · exact key false n.natAbs (by simp) (by omega) (by omega) (by unfold sgn; simp; omega)

end Go.Proofs.YtjeaemoiafamaaaDoor

/- Plain mathematics of the division rounded down. No program in sight. -/
namespace Go.Proofs.YtjeaemoiafamaaaDoor

theorem quot_rest (a b : Int) (hb : b ≠ 0) (q r : Int) (hq : q = sgn (decide (a < 0) != decide (b < 0)) (a.natAbs / b.natAbs)) (hr : r = sgn (decide (a < 0)) (a.natAbs % b.natAbs)) :
    r + b * q = a ∧ r.natAbs < b.natAbs := by
  have h1 := Nat.div_add_mod a.natAbs b.natAbs
  have h2 := Nat.mod_lt a.natAbs (show 0 < b.natAbs by omega)
  generalize hx : a.natAbs / b.natAbs = x at *
  generalize hy : a.natAbs % b.natAbs = y at *
  have h3 : ((b.natAbs : Nat) : Int) * (x : Nat) + (y : Nat) = (a.natAbs : Nat) := by rw [← h1]; simp
  rcases Int.lt_or_le a 0 with ha | ha <;> rcases Int.lt_or_le b 0 with hb' | hb'
  · have e1 : ((a.natAbs : Nat) : Int) = -a := by omega
    have e2 : ((b.natAbs : Nat) : Int) = -b := by omega
    rw [e1, e2, Int.neg_mul] at h3
    have d1 : decide (a < 0) = true := decide_eq_true ha
    have d2 : decide (b < 0) = true := decide_eq_true hb'
    rw [d1, d2] at hq
    rw [d1] at hr
    have hq : q = (x : Nat) := hq
    have hr : r = -((y : Nat) : Int) := hr
    subst hq hr
    exact ⟨by omega, by omega⟩
  · have e1 : ((a.natAbs : Nat) : Int) = -a := by omega
    have e2 : ((b.natAbs : Nat) : Int) = b := by omega
    rw [e1, e2] at h3
    have d1 : decide (a < 0) = true := decide_eq_true ha
    have d2 : decide (b < 0) = false := decide_eq_false (by omega)
    rw [d1, d2] at hq
    rw [d1] at hr
    have hq : q = -((x : Nat) : Int) := hq
    have hr : r = -((y : Nat) : Int) := hr
    subst hq hr
    rw [Int.mul_neg]
    exact ⟨by omega, by omega⟩
  · have e1 : ((a.natAbs : Nat) : Int) = a := by omega
    have e2 : ((b.natAbs : Nat) : Int) = -b := by omega
    rw [e1, e2, Int.neg_mul] at h3
    have d1 : decide (a < 0) = false := decide_eq_false (by omega)
    have d2 : decide (b < 0) = true := decide_eq_true hb'
    rw [d1, d2] at hq
    rw [d1] at hr
    have hq : q = -((x : Nat) : Int) := hq
    have hr : r = ((y : Nat) : Int) := hr
    subst hq hr
    rw [Int.mul_neg]
    exact ⟨by omega, by omega⟩
  · have e1 : ((a.natAbs : Nat) : Int) = a := by omega
    have e2 : ((b.natAbs : Nat) : Int) = b := by omega
    rw [e1, e2] at h3
    have d1 : decide (a < 0) = false := decide_eq_false (by omega)
    have d2 : decide (b < 0) = false := decide_eq_false (by omega)
    rw [d1, d2] at hq
    rw [d1] at hr
    have hq : q = ((x : Nat) : Int) := hq
    have hr : r = ((y : Nat) : Int) := hr
    subst hq hr
    exact ⟨by omega, by omega⟩

theorem floor_eq {a b q r : Int} (h : r + b * q = a) (hr : (0 ≤ r ∧ r < b) ∨ (b < r ∧ r ≤ 0)) : a.fdiv b = q ∧ a.fmod b = r := by
  rcases hr with ⟨h1, h2⟩ | ⟨h1, h2⟩
  · exact (Int.fdiv_fmod_unique (by omega)).2 ⟨h, h1, h2⟩
  · exact (Int.fdiv_fmod_unique' (by omega)).2 ⟨h, h1, h2⟩
/-- The rest has the divisor's sign, or is 0. -/
theorem floor_same {a b q r : Int} (h : r + b * q = a ∧ r.natAbs < b.natAbs) (hs : r = 0 ∨ decide (r < 0) = decide (b < 0)) : q = a.fdiv b ∧ r = a.fmod b := by
  have hs' : r = 0 ∨ (r < 0 ↔ b < 0) := hs.imp id (fun e => by simpa using e)
  obtain ⟨h1, h2⟩ := h
  have := floor_eq h1 (by omega)
  exact ⟨this.1.symm, this.2.symm⟩
theorem floor_other {a b q r : Int} (h : r + b * q = a ∧ r.natAbs < b.natAbs) (hr : r ≠ 0) (hs : decide (r < 0) ≠ decide (b < 0)) : q - 1 = a.fdiv b ∧ r + b = a.fmod b := by
  have hs' : ¬ (r < 0 ↔ b < 0) := fun e => hs (by simpa using e)
  obtain ⟨h1, h2⟩ := h
  have := floor_eq (a := a) (b := b) (q := q - 1) (r := r + b) (by rw [Int.mul_sub, Int.mul_one]; omega) (by omega)
  exact ⟨this.1.symm, this.2.symm⟩

end Go.Proofs.YtjeaemoiafamaaaDoor
