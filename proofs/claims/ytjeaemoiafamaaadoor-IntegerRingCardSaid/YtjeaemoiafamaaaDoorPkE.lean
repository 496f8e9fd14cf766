/- Texts of this proof, laid together: Lim Known Frame. -/
import Derived.Test.YtjeaemoiafamaaaDoorPkC
import Derived.Test.YtjeaemoiafamaaaDoorPkD
import Derived.Test.YtjeaemoiafamaaaDoorCards
import Derived.Test.YtjeaemoiafamaaaDoorTie
import Derived.ProofKit
import Derived.OpenShut
import Derived.Deep.DeepHandedRow
import Derived.Deep.DeepWitnessRowRef
import Derived.Lib.LaidTab
import Derived.Lib.LaidIn
import Derived.Stop.LaidErr

/- Bounds of integers by powers of ten; the texts of known integers; contracts under such bounds. -/
namespace Go.Proofs.YtjeaemoiafamaaaDoor
open Go.RowKit

/-- The magnitude has at most k decimal digits. -/
def Lim (k : Nat) (a : Int) : Prop := a.natAbs < 10 ^ k
theorem Lim.mono {k m : Nat} {a : Int} (h : Lim k a) (hm : k ≤ m) : Lim m a := Nat.lt_of_lt_of_le h (Nat.pow_le_pow_right (by decide) hm)
theorem Lim.neg {k : Nat} {a : Int} (h : Lim k a) : Lim k (-a) := by unfold Lim at *; rw [Int.natAbs_neg]; exact h
theorem Lim.abs {k : Nat} {a : Int} (h : Lim k a) : Lim k (a.natAbs : Nat) := by unfold Lim at *; rw [Int.natAbs_natCast]; exact h
theorem Lim.add {k : Nat} {a b : Int} (ha : Lim k a) (hb : Lim k b) : Lim (k + 1) (a + b) := by
  unfold Lim at *
  rw [Nat.pow_succ]
  have := Int.natAbs_add_le a b
  omega
theorem Lim.sub {k : Nat} {a b : Int} (ha : Lim k a) (hb : Lim k b) : Lim (k + 1) (a - b) := by
  rw [Int.sub_eq_add_neg]; exact ha.add hb.neg
theorem Lim.mul {k m : Nat} {a b : Int} (ha : Lim k a) (hb : Lim m b) : Lim (k + m) (a * b) := by
  unfold Lim at *
  rw [Int.natAbs_mul, Nat.pow_add]
  exact Nat.mul_lt_mul'' ha hb
theorem Lim.pow {k n : Nat} {a : Int} (ha : Lim k a) : Lim (k * n + 1) (a ^ n) := by
  unfold Lim at *
  rw [Int.natAbs_pow, Nat.pow_succ, Nat.pow_mul]
  have h1 := Nat.pow_le_pow_left (Nat.le_of_lt ha) n
  have h2 : 0 < (10 ^ k) ^ n := Nat.pow_pos (Nat.pow_pos (by decide))
  omega
theorem Lim.le {k : Nat} {a b : Int} (ha : Lim k a) (h : b.natAbs ≤ a.natAbs) : Lim k b := Nat.lt_of_le_of_lt h ha
theorem Lim.fmod {k : Nat} {a b : Int} (hb : Lim k b) (hb0 : b ≠ 0) : Lim k (Int.fmod a b) := by
  refine hb.le ?_
  obtain ⟨q0, hq0⟩ : ∃ q0, q0 = sgn (decide (a < 0) != decide (b < 0)) (a.natAbs / b.natAbs) := ⟨_, rfl⟩
  obtain ⟨r0, hr0⟩ : ∃ r0, r0 = sgn (decide (a < 0)) (a.natAbs % b.natAbs) := ⟨_, rfl⟩
  have hqr := quot_rest a b hb0 q0 r0 hq0 hr0
  by_cases hz : r0 = 0
  · have := floor_same hqr (.inl hz); omega
  · by_cases hs : decide (r0 < 0) = decide (b < 0)
    · have := floor_same hqr (.inr hs); omega
    · have h1 := floor_other hqr hz hs
      have h2 : ¬ (r0 < 0 ↔ b < 0) := fun e => hs (by simpa using e)
      omega
theorem Lim.fdiv {k : Nat} {a b : Int} (ha : Lim k a) (hb0 : b ≠ 0) : Lim (k + 1) (Int.fdiv a b) := by
  have h1 : (Int.fdiv a b).natAbs ≤ a.natAbs + 1 := by
    obtain ⟨q0, hq0⟩ : ∃ q0, q0 = sgn (decide (a < 0) != decide (b < 0)) (a.natAbs / b.natAbs) := ⟨_, rfl⟩
    obtain ⟨r0, hr0⟩ : ∃ r0, r0 = sgn (decide (a < 0)) (a.natAbs % b.natAbs) := ⟨_, rfl⟩
    have hqr := quot_rest a b hb0 q0 r0 hq0 hr0
    have hle : q0.natAbs ≤ a.natAbs := by rw [hq0, sgn_natAbs]; exact Nat.div_le_self _ _
    by_cases hz : r0 = 0
    · have := floor_same hqr (.inl hz); omega
    · by_cases hs : decide (r0 < 0) = decide (b < 0)
      · have := floor_same hqr (.inr hs); omega
      · have := floor_other hqr hz hs; omega
  unfold Lim at *
  rw [Nat.pow_succ]
  have := Nat.pow_pos (n := k) (show 0 < 10 by decide)
  omega
theorem Lim.digs {k : Nat} {a : Int} (h : Lim k a) : (digs a.natAbs).length ≤ k :=
  digs_len_le (Nat.lt_of_lt_of_le h (Nat.pow_le_pow_left (by decide) k))
theorem Lim.ten {k : Nat} {a : Int} (h : Lim k a) : (T.digs a.natAbs).length ≤ k := T.digs_len_le h
theorem Lim.few {k : Nat} {a : Int} (h : Lim k a) (hk : k ≤ 1000000) : FewM a := by unfold FewM; have := h.ten; omega
theorem Lim.dec {k : Nat} {a : Int} (h : Lim k a) : (Lib.decDigits a.natAbs).length ≤ k + 1 := dec_len_le k _ (Nat.lt_of_lt_of_le h (Nat.pow_le_pow_right (by decide) (by omega)))
theorem Lim.l1 {k : Nat} {a : Int} (h : Lim k a) (hk : k ≤ 1000000) : (Go.Proofs.YtjeaemoiafamaaaDoor.digs a.natAbs).length < 8796093022208 := by have := h.digs; omega
theorem Lim.l2 {k : Nat} {a : Int} (h : Lim k a) (hk : k ≤ 1000000) : (Go.Proofs.YtjeaemoiafamaaaDoor.digs a.natAbs).length < 8796093022200 := by have := h.digs; omega
theorem Lim.l3 {k : Nat} {a : Int} (h : Lim k a) (hk : k ≤ 1000000) : (Go.Proofs.YtjeaemoiafamaaaDoor.digs a.natAbs).length < 1099511627 := by have := h.digs; omega
/-- An integer whose text is right has few digits. -/
theorem lim_text {a : Int} {s : ByteArray} {k : Nat} (hs : s = txt a) (hk : s.size ≤ k) : Lim k a := by
  unfold Lim
  have h1 := dv_lt (dec_isDg a.natAbs)
  rw [dv_dec] at h1
  have h2 : (Lib.decDigits a.natAbs).length ≤ k := by
    rw [hs, txt_size] at hk
    by_cases h : a < 0
    · rw [itoa_neg h, List.length_cons] at hk; omega
    · rw [itoa_nonneg' h] at hk; exact hk
  exact Nat.lt_of_lt_of_le h1 (Nat.pow_le_pow_right (by decide) h2)

/-- The table of powers of ten that strconv reads. -/
def Tab (w : World) : Prop := Lib.TabIs Tryd.prog w "internal/strconv.uint64pow10" .u64 Lib.pow10Tab
theorem Tab.below {w w' : World} (h : Tab w) (hb : Below w.heap.size w w') : Tab w' := tab_keep h hb

theorem text_lim (va : Value) (a : Int) (k : Nat) (w : World) (ha : IsInt w va a) (hl : Lim k a) (hk : k ≤ 1000000) (ht : Tab w) :
    Calls Tryd.prog 17 #[va] w fun e w' => e = .returned (.string (txt a)) ∧ Below w.heap.size w w' :=
  text_walk va a w ha (by have := hl.digs; omega) (by have := hl.dec; omega) ht

theorem txt_m4 : txt (-4) = ⟨#[45, 52]⟩ := by unfold txt; rw [itoa_neg (by omega)]; simp [Lib.decDigits]
theorem txt_1 : txt 1 = ⟨#[49]⟩ := txt_one
theorem txt_m1000 : txt (-1000) = ⟨#[45, 49, 48, 48, 48]⟩ := by unfold txt; rw [itoa_neg (by omega)]; simp [Lib.decDigits]
theorem txt_6 : txt 6 = ⟨#[54]⟩ := by unfold txt; rw [itoa_nonneg' (by omega)]; simp [Lib.decDigits]
theorem lim_small {a : Int} (h : a.natAbs < 10000000000) : Lim 10 a := h

/-- Block g holds the integer n, laid so. -/
def Box (w : World) (g : Nat) (s : Bool) (A : Option Addr) (l c : Nat) (n : Int) : Prop := Row w g 25 [.bool s, .slice A l c] ∧ IsInt w (.agg #[.bool s, .slice A l c]) n
section
variable {w w' : World} {g : Nat} {s : Bool} {A : Option Addr} {l c : Nat} {n : Int}
theorem Box.below (h : Box w g s A l c n) (hb : Below w.heap.size w w') : Box w' g s A l c n := ⟨h.1.below hb h.1.lt, h.2.below hb⟩
theorem Box.c0 (h : Box w g s A l c n) : w.cell? ⟨g, 0, none⟩ = some (.bool s) := h.1.at_ 0 rfl
theorem Box.c1 (h : Box w g s A l c n) : w.cell? ⟨g, 1, none⟩ = some (.slice A l c) := h.1.at_ 1 rfl
theorem Box.made (h : IsInt w (.agg #[.bool s, .slice A l c]) n) : Box (w.alloc (.cells #[.bool s, .slice A l c] 25)) w.heap.size s A l c n :=
  ⟨heap_new w _, h.below (boxes1 w _).2.2⟩
end
theorem below_new (w : World) (o : Obj) : Below w.heap.size w (w.alloc o) := (boxes1 w o).2.2
end Go.Proofs.YtjeaemoiafamaaaDoor

/- dowellaw01.known, right, read. -/
namespace Go.Proofs.YtjeaemoiafamaaaDoor
open Go.RowKit

set_option maxHeartbeats 1600000 in
theorem known_walk (w : World) (ht : Tab w) :
    Calls Tryd.prog 14 #[] w fun e w' => e = .returned (.bool true) ∧ Below w.heap.size w w' := by
  have HT := Lib.hid ht
  clear ht
  go_enter Tryd.func14, Tryd.ntmps14
  go_wp2_with fail
  refine (from_walk (-7) _ (by decide) (by decide)).mono ?_
  rintro e w1 ⟨v1, rfl, hi1, hb1⟩
  have HI1 := Lib.hid hi1
  have HB1 := Lib.hid hb1
  clear hi1 hb1
  go_wp2_with fail
  refine (from_walk 2 _ (by decide) (by decide)).mono ?_
  rintro e w2 ⟨v2, rfl, hi2, hb2⟩
  have HI1' := Lib.hid (HI1.out.below hb2)
  have HI2 := Lib.hid hi2
  have HB2 := Lib.hid (HB1.out.trans (hb2.mono HB1.out.size))
  clear hi2 hb2
  go_wp2_with fail
  refine (divmod_walk v1 v2 (-7) 2 _ HI1'.out HI2.out ((lim_small (by decide)).l1 (by decide)) ((lim_small (by decide)).l2 (by decide)) (by decide)).mono ?_
  rintro e w3 ⟨q, r, rfl, hq, hr, hb3⟩
  obtain ⟨s1, A1, l1, c1, rfl⟩ := hq.shape
  obtain ⟨s2, A2, l2, c2, rfl⟩ := hr.shape
  have HQ := Lib.hid hq
  have HR := Lib.hid hr
  have HB3 := Lib.hid (HB2.out.trans (hb3.mono HB2.out.size))
  clear hq hr hb3
  have HQ' := Lib.hid (Box.made HQ.out)
  have HR' := Lib.hid (Box.made (HR.out.below (below_new w3 (.cells #[.bool s1, .slice A1 l1 c1] 25))))
  have HQ2 := Lib.hid (HQ'.out.below (below_new _ (.cells #[.bool s2, .slice A2 l2 c2] 25)))
  have HB4 := Lib.hid ((HB3.out.trans ((below_new w3 (.cells #[.bool s1, .slice A1 l1 c1] 25)).mono HB3.out.size)).trans ((below_new _ (.cells #[.bool s2, .slice A2 l2 c2] 25)).mono (Nat.le_trans HB3.out.size (below_new _ _).size)))
  clear HQ HR HQ'
  obtain ⟨w4, hw4⟩ : ∃ w4, w4 = (w3.alloc (.cells #[.bool s1, .slice A1 l1 c1] 25)).alloc (.cells #[.bool s2, .slice A2 l2 c2] 25) := ⟨_, rfl⟩
  have hs34 : w3.heap.size + 1 < w4.heap.size := by rw [hw4, size_alloc, size_alloc]; omega
  rw [← hw4] at HQ2 HR' HB4
  rw [show (w3.alloc (.cells #[.bool s1, .slice A1 l1 c1] 25)).heap.size = w3.heap.size + 1 from size_alloc _ _] at HR'
  go_wp2_with fail
  rw [← hw4]
  clear hw4
  refine (from_walk (-10) _ (by decide) (by decide)).mono ?_
  rintro e w5 ⟨v1, rfl, hi1, hb5⟩
  have HI5 := Lib.hid hi1
  have HQ5 := Lib.hid (HQ2.out.below hb5)
  have HR5 := Lib.hid (HR'.out.below hb5)
  have HB5 := Lib.hid (HB4.out.trans (hb5.mono HB4.out.size))
  clear hi1 hb5 HQ2 HR' HB4 hs34
  go_wp2_with fail
  refine (power_walk v1 (-10) 3 _ HI5.out ((lim_small (by decide)).l3 (by decide)) (by decide)).mono ?_
  rintro e w6 ⟨p, rfl, hp, hb6⟩
  obtain ⟨s3, A3, l3, c3, rfl⟩ := hp.shape
  have HQ6 := Lib.hid (HQ5.out.below hb6)
  have HR6 := Lib.hid (HR5.out.below hb6)
  have HP6 := Lib.hid (Box.made hp)
  have HN := below_new w6 (.cells #[.bool s3, .slice A3 l3 c3] 25)
  have HQ7 := Lib.hid (HQ6.out.below HN)
  have HR7 := Lib.hid (HR6.out.below HN)
  have hb06 := HB5.out.trans (hb6.mono HB5.out.size)
  have HB7 := Lib.hid (hb06.trans (HN.mono hb06.size))
  obtain ⟨w7, hw7⟩ : ∃ w7, w7 = w6.alloc (.cells #[.bool s3, .slice A3 l3 c3] 25) := ⟨_, rfl⟩
  rw [← hw7] at HQ7 HR7 HB7 HP6
  have hc1 := HQ6.out.c0
  have hc2 := HQ6.out.c1
  have hlt6 : w3.heap.size < w6.heap.size := HQ6.out.1.lt
  clear hp hb6 HN hb06 HQ6 HR6 HQ5 HR5 HI5 HB5
  go_wp2_with fail
  rw [← hw7]
  clear hw7 hc1 hc2
  refine (text_lim _ _ 10 _ HQ7.out.2 (by exact (show Lim 10 (Int.fdiv (-7) 2) from lim_small (by decide))) (by decide) (HT.out.below HB7.out)).mono ?_
  rintro e w8 ⟨rfl, hb8⟩
  rw [show Int.fdiv (-7) 2 = -4 from by decide, txt_m4]
  have HR8 := Lib.hid (HR7.out.below hb8)
  have HP8 := Lib.hid (HP6.out.below hb8)
  have HB8 := Lib.hid (HB7.out.trans (hb8.mono HB7.out.size))
  have hc1 := HR8.out.c0
  have hc2 := HR8.out.c1
  clear hb8 HQ7 HR7 HP6 HB7 hlt6
  go_wp2_with fail
  refine (text_lim _ _ 10 _ HR8.out.2 (by exact (show Lim 10 (Int.fmod (-7) 2) from lim_small (by decide))) (by decide) (HT.out.below HB8.out)).mono ?_
  rintro e w9 ⟨rfl, hb9⟩
  rw [show Int.fmod (-7) 2 = 1 from by decide, txt_1]
  have HP9 := Lib.hid (HP8.out.below hb9)
  have HB9 := Lib.hid (HB8.out.trans (hb9.mono HB8.out.size))
  clear hb9 hc1 hc2
  have hc1 := HP9.out.c0
  have hc2 := HP9.out.c1
  go_wp2_with fail
  refine (text_lim _ _ 10 _ HP9.out.2 (by exact (show Lim 10 ((-10) ^ 3) from lim_small (by decide))) (by decide) (HT.out.below HB9.out)).mono ?_
  rintro e w10 ⟨rfl, hb10⟩
  rw [show (-10 : Int) ^ 3 = -1000 from by decide, txt_m1000]
  have HB10 := Lib.hid (HB9.out.trans (hb10.mono HB9.out.size))
  clear hb10 hc1 hc2 HP9 HR8 HP8
  go_wp2_with fail
  refine (from_walk (-12) _ (by decide) (by decide)).mono ?_
  rintro e w11 ⟨v11, rfl, hi11, hb11⟩
  have HI11 := Lib.hid hi11
  have HB11 := Lib.hid (HB10.out.trans (hb11.mono HB10.out.size))
  clear hi11 hb11
  go_wp2_with fail
  refine (from_walk 18 _ (by decide) (by decide)).mono ?_
  rintro e w12 ⟨v12, rfl, hi12, hb12⟩
  have HI11' := Lib.hid (HI11.out.below hb12)
  have HI12 := Lib.hid hi12
  have HB12 := Lib.hid (HB11.out.trans (hb12.mono HB11.out.size))
  clear hi12 hb12
  go_wp2_with fail
  refine (gcd_walk v11 v12 (-12) 18 _ HI11'.out HI12.out ((lim_small (by decide)).l1 (by decide)) ((lim_small (by decide)).l1 (by decide))).mono ?_
  rintro e w13 ⟨v13, rfl, hi13, hb13⟩
  have HI13 := Lib.hid hi13
  have HB13 := Lib.hid (HB12.out.trans (hb13.mono HB12.out.size))
  clear hi13 hb13
  go_wp2_with fail
  refine (text_lim _ _ 10 _ HI13.out (by exact (show Lim 10 ((Nat.gcd (Int.natAbs (-12)) (Int.natAbs 18) : Nat) : Int) from lim_small (by decide))) (by decide) (HT.out.below HB13.out)).mono ?_
  rintro e w14 ⟨rfl, hb14⟩
  rw [show ((Nat.gcd (Int.natAbs (-12)) (Int.natAbs 18) : Nat) : Int) = 6 from by decide, txt_6]
  have HB14 := Lib.hid (HB13.out.trans (hb14.mono HB13.out.size))
  clear hb14
  go_wp2_with fail
  refine (from_walk 256 _ (by decide) (by decide)).mono ?_
  rintro e w15 ⟨v15, rfl, hi15, hb15⟩
  have HI15 := Lib.hid hi15
  have HB15 := Lib.hid (HB14.out.trans (hb15.mono HB14.out.size))
  clear hi15 hb15
  go_wp2_with fail
  refine (bits_walk v15 256 _ HI15.out ((lim_small (by decide)).l1 (by decide))).mono ?_
  rintro e w16 ⟨k, rfl, hk, hb16⟩
  have hk9 : k = 9 := by
    have hk := hk
    unfold IsBits at hk
    have hk : (256 = 0 ∧ k = 0) ∨ (0 < k ∧ 2 ^ (k - 1) ≤ 256 ∧ 256 < 2 ^ k) := hk
    rcases hk with ⟨h, _⟩ | ⟨h1, h2, h3⟩
    · omega
    · have h4 := (Nat.pow_lt_pow_iff_right (by decide : 1 < 2)).1 (show 2 ^ (k - 1) < 2 ^ 9 from by omega)
      have h5 := (Nat.pow_lt_pow_iff_right (by decide : 1 < 2)).1 (show 2 ^ 8 < 2 ^ k from by omega)
      omega
  subst hk9
  have HB16 := Lib.hid (HB15.out.trans (hb16.mono HB15.out.size))
  clear hk hb16
  go_wp2_with fail
  go_returns
  exact ⟨rfl, HB16.out⟩

/-- The string is the text of an integer, of at most 120 bytes. -/
def okS (s : ByteArray) : Prop := s.size ≤ 120 ∧ chk s.data.toList = 0
theorem chkS_ok {s : ByteArray} (h : s.size ≤ 120) : chkS s = chk s.data.toList := by unfold chkS; rw [if_neg (by omega)]

theorem right_yes (s : ByteArray) (w : World) (h : okS s) :
    Calls Tryd.prog 23 #[.string s] w fun e w' => e = .returned (.bool true) ∧ w = w' := by
  have hs : ((s.size : Nat) : Int) ≤ 120 := by have := h.1; omega
  have hc := fun w => rcheck_walk s w (by omega)
  rw [chkS_ok h.1, h.2] at hc
  have HC := Lib.hid hc
  clear hc h
  go_enter Tryd.func23, Tryd.ntmps23
  go_wp2_with fail
  refine (HC.out _).mono ?_
  rintro e w1 ⟨rfl, rfl⟩
  go_wp2_with fail
  go_returns
  exact ⟨rfl, rfl⟩

theorem right_no (s : ByteArray) (w : World) (h : ¬ okS s) (hm : s.size ≤ 9223372036854775807) :
    Calls Tryd.prog 23 #[.string s] w fun e w' => e = .returned (.bool false) ∧ w = w' := by
  by_cases hs : ((s.size : Nat) : Int) ≤ 120
  · have hc0 : chk s.data.toList ≠ 0 := fun e => h ⟨by omega, e⟩
    have hc := fun w => rcheck_walk s w (by omega)
    rw [chkS_ok (by omega)] at hc
    obtain ⟨c, hcc⟩ : ∃ c : Nat, c = chk s.data.toList := ⟨_, rfl⟩
    rw [← hcc] at hc hc0
    have hce : (((c : Nat) : Int) == 0) = false := by rw [beq_eq_false_iff_ne]; omega
    have HC := Lib.hid hc
    clear hc h hm hcc hc0
    go_enter Tryd.func23, Tryd.ntmps23
    go_wp2_with fail
    refine (HC.out _).mono ?_
    rintro e w1 ⟨rfl, rfl⟩
    go_wp2_with fail
    go_returns
    exact ⟨rfl, rfl⟩
  · have hs' : (120 : Int) < ((s.size : Nat) : Int) := by omega
    have hsd : decide (((s.size : Nat) : Int) ≤ 120) = false := decide_eq_false hs
    clear hs h
    go_enter Tryd.func23, Tryd.ntmps23
    go_wp2_with fail
    go_returns
    exact ⟨rfl, rfl⟩

theorem read_ok (s : ByteArray) (a : Int) (w : World) (h : okS s) (ha : s = txt a) :
    Calls Tryd.prog 24 #[.string s] w fun e w' => ∃ v, e = .returned (.tuple #[v, .bool true]) ∧ IsInt w' v a ∧ Below w.heap.size w w' := by
  have hs : ((s.size : Nat) : Int) ≤ 120 := by have := h.1; omega
  have hc := fun w => rcheck_walk s w (by omega)
  rw [chkS_ok h.1, h.2] at hc
  have hp := fun w => parse_ok s a w (by omega) ha h.2
  have HC := Lib.hid hc
  have HP := Lib.hid hp
  have HA := Lib.hid ha
  clear hc h hp ha
  obtain ⟨r1, hWs, hWB⟩ := boxes1 w (.cells #[.bool false, .slice none 0 0] 25)
  obtain ⟨W, hW⟩ : ∃ W, W = w.alloc (.cells #[.bool false, .slice none 0 0] 25) := ⟨_, rfl⟩
  rw [← hW] at r1 hWs hWB
  have r1 : Row W w.heap.size 25 [.bool false, .slice none 0 0] := r1
  have R1 := Lib.hid r1
  have HWB := Lib.hid hWB
  clear r1 hWs hWB
  go_enter Tryd.func24, Tryd.ntmps24
  go_wp2_with fail
  rw [← hW]
  clear hW
  refine (HC.out _).mono ?_
  rintro e w1 ⟨rfl, rfl⟩
  go_wp2_with fail
  refine (HP.out _).mono ?_
  rintro e w2 ⟨v, rfl, hv, hb⟩
  obtain ⟨s1, A1, l1, c1, rfl⟩ := hv.shape
  have HV := Lib.hid hv
  have HB := Lib.hid hb
  have hr2 := R1.out.below hb R1.out.lt
  have hlt : w.heap.size < w2.heap.size := hr2.lt
  have k1 := hr2.at_ 0 rfl
  have k2 := hr2.at_ 1 rfl
  have k3 := hr2.free 0
  have k4 := hr2.free 1
  have hres := res_store HWB.out hr2 (by simp) (by simp) (Nat.le_refl _) hb hv
  have HRES := Lib.hid hres
  clear hv hb hr2 hres
  go_wp2_with fail
  refine bodyPost_ret (v := .tuple #[.agg #[.bool s1, .slice A1 l1 c1], .bool true]) (by simp [results, Tryd.results24, go_sem, k1, k2, hlt]) rfl ?_
  exact ⟨_, rfl, HRES.out.1.below (below_new _ _), HRES.out.2.trans ((below_new _ _).mono HRES.out.2.size)⟩
end Go.Proofs.YtjeaemoiafamaaaDoor

/- What all laws of this seat share: the listed variables at a start, the table of powers of ten, the end of a law's call. -/
namespace Go.Proofs.YtjeaemoiafamaaaDoor
open Go.ChangeShapes Go.WideShapes Go.ChangeAt Go.RowKit
open Go.ChangeMaps (open_string shut_string)

theorem own : ownKnob Tryd.prog.godebug = none := by kernel_rfl
theorem gPow : Tryd.prog.globalNamed "internal/strconv.uint64pow10" = some 2 := by kernel_rfl
theorem gPowT : (Tryd.prog.globals[2]?).map (·.type) = some 126 := by kernel_rfl

section
variable {H : Type} {enc : TypeId × Value → H} {P : Program}
/-- The end of a call whose arguments lie in no memory: it leaves what was there as it was. -/
theorem post_plain {f : Func} {s : ChangeSpec} {apart fresh handsOn again : Bool} {W W' : World} {args : Array Value} {v : Value} {ds gs : List (DataW H)}
    (hW : DataW.Whole enc P f.params.toList s.vars apart W args.toList ds gs [])
    (hres : ∀ (b : Nat) (sp : Nat → Bool) (hd : Bool), DataW.TrodAll enc P W' b sp hd f.resultTypes.toList (v.resultList f.resultTypes.size) (s.fn H (ds ++ gs)).results [])
    (hargs : ∀ sp : Nat → Bool, DataW.TrodAll enc P W' 0 sp true f.params.toList args.toList (s.fn H (ds ++ gs)).args [])
    (hvars : ∀ sp : Nat → Bool, DataW.TrodVars enc P W' sp s.vars (s.fn H (ds ++ gs)).vars [])
    (hb : Below W.heap.size W W')
    (hok : ∀ (j : Nat) (t : TypeId) (r : Value), f.resultTypes[j]? = some t → (v.resultList f.resultTypes.size)[j]? = some r → Value.okWide P W' .any 0 t r) :
    s.post enc P f apart fresh handsOn again W args v W' := by
  refine ⟨ds, gs, [], [], [], [], hW, hres _ _ _, hargs _, hvars _, hb.frame _, fun _ => ⟨hok, _, _, [], ⟨[], [], trodAll_append (hargs _) (hres _ _ _), hvars _, rfl, ?_, ?_⟩, ?_⟩⟩
  · intro b off hp
    simp at hp
  · intro _
    simp
  · intro p hp
    simp at hp
end

/-- The table of powers of ten, as the rows list it. -/
theorem tab_of {W : World} {rest : List (String × DataW Unit)} (h : laidMet Tryd.prog (("math/bits.deBruijn32tab", Rows.laid_math_bits_deBruijn32tab) :: ("math/bits.deBruijn64tab", Rows.laid_math_bits_deBruijn64tab) :: ("internal/strconv.uint64pow10", Rows.laid_internal_strconv_uint64pow10) :: rest) W) : Tab W :=
  Lib.tabIs_of_head (rest := rest) (k := .u64) (zs := Lib.pow10Tab) (n := 20) gPow gPowT Tryd.underlying126 Tryd.underlying58 (by kernel_rfl) (by kernel_rfl) h.tail.tail

/-- A start at which the five variables hold what their initialisers lay. -/
noncomputable def laidWorld (os : Os) : World :=
  let N := (World.holding Tryd.prog default ⟨#[], #[], []⟩).heap.size
  let w0 := World.holding Tryd.prog os ⟨#[.cells #[.string ⟨#[105, 110, 118, 97, 108, 105, 100, 32, 115, 121, 110, 116, 97, 120]⟩] 131, .cells #[.string ⟨#[118, 97, 108, 117, 101, 32, 111, 117, 116, 32, 111, 102, 32, 114, 97, 110, 103, 101]⟩] 131], #[], []⟩
  let put (h : Array Obj) (g : Nat) (cs : Array Value) : Array Obj := h.modify g fun
    | .cells _ t frozen => .cells cs t frozen
    | o => o
  let u8s (l : List Int) : Array Value := (l.map fun z => Value.int .u8 z).toArray
  let h0 := put (put w0.heap 0 #[.iface 129 (.pointer (some ⟨N, 0, none⟩))]) 1 #[.iface 129 (.pointer (some ⟨N + 1, 0, none⟩))]
  let h1 := put h0 2 (Lib.pow10Tab.map fun z => Value.int .u64 z).toArray
  let h2 := put h1 4 (u8s [0, 1, 28, 2, 29, 14, 24, 3, 30, 22, 20, 15, 25, 17, 4, 8, 31, 27, 13, 23, 21, 19, 16, 7, 26, 12, 18, 6, 11, 5, 10, 9])
  let h3 := put h2 5 (u8s [0, 1, 56, 2, 57, 49, 28, 3, 61, 58, 42, 50, 38, 29, 17, 4, 62, 47, 59, 36, 45, 43, 51, 22, 53, 39, 33, 30, 24, 18, 12, 5, 63, 55, 48, 27, 60, 41, 37, 16, 46, 35, 44, 21, 52, 32, 23, 11, 54, 26, 40, 15, 34, 20, 31, 10, 25, 14, 19, 9, 13, 8, 7, 6])
  { w0 with heap := h3 }
theorem laid5 (os : Os) (args : Array Value) : laidMet Tryd.prog Rows.integerMulsRow.laid ((laidWorld os).forCall (fun _ _ => 0) ⟨#[], args, []⟩).memory :=
  laidMet_of_run' 8 (by kernel_rfl) (by kernel_rfl)
theorem laid3 (os : Os) (args : Array Value) : laidMet Tryd.prog Rows.integerFromRow.laid ((laidWorld os).forCall (fun _ _ => 0) ⟨#[], args, []⟩).memory :=
  laidMet_of_run' 8 (by kernel_rfl) (by kernel_rfl)
end Go.Proofs.YtjeaemoiafamaaaDoor
