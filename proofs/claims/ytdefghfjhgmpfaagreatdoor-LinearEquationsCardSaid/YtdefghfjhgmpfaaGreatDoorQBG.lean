/- Parts of this proof: Any RunM SolveM TextsM KnownLM Exam BegM. -/
import Derived.Test.YtdefghfjhgmpfaaGreatDoorQBA
import Derived.Test.YtdefghfjhgmpfaaGreatDoorQBB
import Derived.Test.YtdefghfjhgmpfaaGreatDoorQAZ
import Derived.Test.YtdefghfjhgmpfaaGreatDoorQBD
import Derived.Test.YtdefghfjhgmpfaaGreatDoorQBE
import Derived.Test.YtdefghfjhgmpfaaGreatDoorQBF
import Derived.Test.YtdefghfjhgmpfaaGreatDoorQAW
import Derived.Test.YtdefghfjhgmpfaaGreatDoorQAT
import Derived.Test.YtdefghfjhgmpfaaGreatDoorQAR
namespace Go.Proofs.YtdefghfjhgmpfaaGreatDoor
section
open Go.RowKit
open Lp (RL upd Dict sumTo spread)
theorem wrong_walk (L : Lay) (m n : Nat) (D : Dict) (w : World) (hT : Tabl w L m n D) (hm : m ≤ 4611686018427387904) (hn : n ≤ 4611686018427387904) :
  Calls Tryz.prog 129 #[.pointer (some ⟨L.gt, 0, none⟩)] w fun e w' => ∃ row col : Int, e = .returned (.tuple #[.int .i64 row, .int .i64 col]) ∧ WrongR n m D row col ∧ Below w.heap.size w w' := by
 rcases Nat.eq_zero_or_pos m with h | h <;> rcases Nat.eq_zero_or_pos n with h' | h'
 ·exact wrong_walk11 L m n D w hT h h' hm hn
 ·exact wrong_walk10 L m n D w hT h h' hm hn
 ·exact wrong_walk01 L m n D w hT h h' hm hn
 ·exact wrong_walk00 L m n D w hT h h' hm hn
theorem point_walk (L : Lay) (m n : Nat) (D : Dict) (w : World) (hT : Tabl w L m n D) (hok : D.Ok m n) (hm : m ≤ 4398046511104) (hn : n ≤ 4398046511104) :
  Calls Tryz.prog 130 #[.pointer (some ⟨L.gt, 0, none⟩)] w fun e w' => ∃ g, e = .returned (.slice (some ⟨g, 0, none⟩) n n) ∧ w.heap.size ≤ g ∧ RB w' g n (spread m D.basic D.con) ∧ Below w.heap.size w w' := by
 rcases Nat.eq_zero_or_pos m with h | h <;> rcases Nat.eq_zero_or_pos n with h' | h'
 ·exact point_walk11 L m n D w hT hok h h' hm hn
 ·exact point_walk10 L m n D w hT hok h h' hm hn
 ·exact point_walk01 L m n D w hT hok h h' hm hn
 ·exact point_walk00 L m n D w hT hok h h' hm hn
theorem entering_any (L : Lay) (m n i : Nat) (D : Dict) (w : World) (hT : Tabl w L m n D) (hi : i < m) (hm : m ≤ 4611686018427387904) (hn : n ≤ 4611686018427387904) :
  Calls Tryz.prog 131 #[.pointer (some ⟨L.gt, 0, none⟩), .int .i64 i] w fun e w' => ∃ out : Int, e = .returned (.int .i64 out) ∧ enteringN n n D.off (D.cell i) out ∧ Below w.heap.size w w' := by
 rcases Nat.eq_zero_or_pos n with h | h
 ·refine (entering_none L m n i D w hT h (by omega)).mono ?_;rintro e w' ⟨he, hb⟩;exact ⟨-1, he, .inl ⟨rfl, fun c hc => absurd hc (by omega)⟩, hb⟩
 ·exact entering_walk L m n i D w hT hi h hm hn
theorem leaving_any (L : Lay) (m n j : Nat) (D : Dict) (w : World) (hT : Tabl w L m n D) (hj : j < n) (hm : m ≤ 4611686018427387904) (hn : n ≤ 4611686018427387904) :
  Calls Tryz.prog 132 #[.pointer (some ⟨L.gt, 0, none⟩), .int .i64 j] w fun e w' => ∃ out : Int, e = .returned (.int .i64 out) ∧ leavingN n m D.basic (fun r => D.cell r j) out ∧ Below w.heap.size w w' := by
 rcases Nat.eq_zero_or_pos m with h | h
 ·refine (leaving_none L m n j D w hT h (by omega)).mono ?_;rintro e w' ⟨he, hb⟩;exact ⟨-1, he, .inl ⟨rfl, fun c hc => absurd hc (by omega)⟩, hb⟩
 ·exact leaving_walk L m n j D w hT hj h hm hn
theorem release_walk (L : Lay) (m n K : Nat) (D0 : Dict) (w : World) (hT : Tabl w L m n D0) (hok : D0.Ok m n) (hrel : D0.Rel m n 0) (hlim : D0.Lim m n K) (hK : Lp.growth (min m n) K ≤ 100000000000) (hm : m ≤ 4611686018427387904) (hn : n ≤ 4611686018427387904) :
  Calls Tryz.prog 101 #[.pointer (some ⟨L.gt, 0, none⟩)] w fun e w' => e = .returned (.tuple #[]) ∧ (∃ D, Tabl w' L m n D ∧ Good m n D0 D n) ∧ Chg (L.blocks m) w w' := by
 rcases Nat.eq_zero_or_pos n with h' | h'
 ·refine (release_n0 L m n D0 w hT h' hok hrel hm hn).mono ?_;rintro e w' ⟨he, hg, hb⟩;exact ⟨he, ⟨D0, hT.below hb, hg⟩, Chg.of_below hb⟩
 ·rcases Nat.eq_zero_or_pos m with h | h
  ·refine (release_m0 L m n D0 w hT h hok hrel hm hn).mono ?_;rintro e w' ⟨he, hg, hb⟩;exact ⟨he, ⟨D0, hT.below hb, hg⟩, Chg.of_below hb⟩
  ·exact release_pos L m n K D0 w hT h h' hok hrel hlim hK hm hn
theorem ray_any (L : Lay) (m n j K : Nat) (D : Dict) (s : Rat) (vs : Value) (w : World) (hT : Tabl w L m n D) (hok : D.Ok m n) (hj : j < n) (hs : IsRat w vs s) (hls : RL 1000000000000 s) (hlim : D.Lim m n K) (hK : K ≤ 100000000000) (hm : m ≤ 4398046511104) (hn : n ≤ 4398046511104) :
  Calls Tryz.prog 103 #[.pointer (some ⟨L.gt, 0, none⟩), .int .i64 j, vs] w fun e w' => ∃ g, e = .returned (.slice (some ⟨g, 0, none⟩) n n) ∧ w.heap.size ≤ g ∧ RB w' g n (rayTo D j s m) ∧ Below w.heap.size w w' := by
 rcases Nat.eq_zero_or_pos m with h | h
 ·exact ray_walk0 L m n j K D s vs w hT hok h hj hs hls hlim hK hm hn
 ·exact ray_walk L m n j K D s vs w hT hok h hj hs hls hlim hK hm hn
end
section
open Go.RowKit
open Lp (RL upd Dict sumTo spread)
section
variable {m n : Nat} {D : Dict} {row col out : Int}
theorem wrong_none (h : WrongR n m D row col) (hr : row < 0) (_hc : col < 0) : D.Fine m n (n + m) := by
 obtain ⟨least, h⟩ := h
 rcases h with ⟨h1, h2, h3, h4⟩ | ⟨y, h1, h2, _⟩
 ·rcases h2 with ⟨_, h2⟩ | ⟨x, h2, _⟩
  ·refine ⟨fun r hr2 hn _ => h2 r hr2 hn, fun c hc' hn _ => h4 c hc' hn fun l hl => ?_⟩
   rcases h3 with ⟨_, h3⟩ | ⟨x, h3, _⟩ <;> omega
  ·omega
 ·omega
theorem wrong_row (h : WrongR n m D row col) (hr : 0 ≤ row) : ∃ x : Nat, row = (x : Nat) ∧ x < m ∧ n ≤ D.basic x ∧ D.con x < 0 ∧ D.Fine m n (D.basic x) := by
 obtain ⟨least, h⟩ := h
 rcases h with ⟨h1, h2, h3, h4⟩ | ⟨y, h1, _⟩
 ·rcases h2 with ⟨h2, _⟩ | ⟨x, h2, hx, hb, hneg, hl⟩
  ·omega
  ·refine ⟨x, h2, hx, hb, hneg, fun r hr' hn hlt => hl r hr' hn hlt, fun c hc' hn hlt => h4 c hc' hn fun l hl' => ?_⟩
   rcases h3 with ⟨h3, _⟩ | ⟨x', h3, h5⟩
   ·omega
   ·obtain rfl : x = x' := by omega
    omega
 ·omega
theorem wrong_col (h : WrongR n m D row col) (hr : row < 0) (hc : 0 ≤ col) : ∃ y : Nat, col = (y : Nat) ∧ y < n ∧ n ≤ D.off y ∧ D.top y < 0 ∧ D.Fine m n (D.off y) := by
 obtain ⟨least, h⟩ := h
 rcases h with ⟨h1, _⟩ | ⟨y, h1, h2, _, h3, h4, h5, h6, h7⟩
 ·omega
 ·exact ⟨y, h2, h3, h4, h5, fun r hr' hn hlt => h7 r hr' hn hlt, fun c hc' hn hlt => h6 c hc' hn hlt⟩
theorem enter_none (h : enteringN n n D.off (D.cell m) out) (ho : out < 0) : ∀ c, c < n → n ≤ D.off c → 0 ≤ D.cell m c := by
 rcases h with ⟨_, h⟩ | ⟨x, h, _⟩
 ·exact h
 ·omega
theorem enter_row {i : Nat} (h : enteringN n n D.off (D.cell i) out) (ho : 0 ≤ out) (hi : i < m) (hb : n ≤ D.basic i) (hc : D.con i < 0) (hf : D.Fine m n (D.basic i)) : ∃ j : Nat, out = (j : Nat) ∧ D.Choice m n i j := by
 rcases h with ⟨h, _⟩ | ⟨x, h, hx, h1, h2, h3⟩
 ·omega
 ·exact ⟨x, h, .row hi hx hb hc hf h1 h2 h3⟩
theorem leave_none {j : Nat} (h : leavingN n m D.basic (fun r => D.cell r j) out) (ho : out < 0) : ∀ r, r < m → n ≤ D.basic r → D.cell r j ≤ 0 := by
 rcases h with ⟨_, h⟩ | ⟨x, h, _⟩
 ·exact h
 ·omega
theorem leave_col {j : Nat} (h : leavingN n m D.basic (fun r => D.cell r j) out) (ho : 0 ≤ out) (hj : j < n) (hb : n ≤ D.off j) (hc : D.top j < 0) (hf : D.Fine m n (D.off j)) : ∃ i : Nat, out = (i : Nat) ∧ D.Choice m n i j := by
 rcases h with ⟨h, _⟩ | ⟨x, h, hx, h1, h2, h3⟩
 ·omega
 ·exact ⟨x, h, .col hx hj hb hc hf h1 h2 h3⟩
end
def dualTo (n : Nat) (o : Nat → Nat) (f b : Nat → Rat) (k i : Nat) : Rat := b i + sumTo k (fun c => if o c = n + i then f c else 0)
theorem dual_start (n : Nat) (o : Nat → Nat) (f b : Nat → Rat) (i : Nat) : b i = dualTo n o f b 0 i := by
 show _ = b i + 0;grind
theorem dual_skip {n k : Nat} {o : Nat → Nat} (f b : Nat → Rat) (h : o k < n) (i : Nat) : dualTo n o f b k i = dualTo n o f b (k + 1) i := by
 show b i + sumTo k _ = b i + (sumTo k _ + (if o k = n + i then f k else 0));rw [if_neg (by omega)]; grind
theorem dual_set {m n k : Nat} {D : Dict} (hD : D.Ok m n) (f b : Nat → Rat) (hk : k < n) (h : n ≤ D.off k) (hb : b (D.off k - n) = 0) (i : Nat) : upd (dualTo n D.off f b k) (D.off k - n) (f k) i = dualTo n D.off f b (k + 1) i := by
 show _ = b i + (sumTo k _ + (if D.off k = n + i then f k else 0));by_cases e : i = D.off k - n
 ·subst e;rw [Lp.upd_same, if_pos (by omega), hb, Lp.sumTo_zero fun c hc => if_neg fun e => by have := hD.oi c k (by omega) hk (by omega); omega];grind
 ·rw [Lp.upd_other _ _ e, if_neg (by omega)];show b i + sumTo k _ = _;grind
inductive RunEnd (w' : World) (L : Lay) (m n : Nat) (D : Dict) (e : Ending) : Prop
 | opt (s A l c t B d f P cp Y cy) : e = .returned (.tuple #[.agg #[.int .i64 1, .bool s, .slice A l c, .bool t, .slice B d f, .slice P n cp, .slice Y m cy, .slice none 0 0], .int .i64 (-1)]) →
   IsRat w' (.agg #[.bool s, .slice A l c, .bool t, .slice B d f]) D.val → IsRats w' (.slice P n cp) n (spread m D.basic D.con) → IsRats w' (.slice Y m cy) m (fun i => spread n D.off D.top (n + i)) → D.Fine m n (n + m) → RunEnd w' L m n D e
 | inf (i : Nat) (Y cy) : e = .returned (.tuple #[.agg #[.int .i64 2, .bool false, .slice none 0 0, .bool false, .slice none 0 0, .slice none 0 0, .slice Y m cy, .slice none 0 0], .int .i64 (-1)]) →
   IsRats w' (.slice Y m cy) m (fun k => (if D.basic i = n + k then 1 else 0) + spread n D.off (D.cell i) (n + k)) → i < m → n ≤ D.basic i → D.con i < 0 → (∀ c, c < n → n ≤ D.off c → 0 ≤ D.cell i c) → RunEnd w' L m n D e
 | unb (j : Nat) : e = .returned (.tuple #[.agg #[.int .i64 3, .bool false, .slice none 0 0, .bool false, .slice none 0 0, .slice none 0 0, .slice none 0 0, .slice none 0 0], .int .i64 (j : Nat)]) →
   j < n → n ≤ D.off j → D.top j < 0 → (∀ r, r < m → n ≤ D.basic r → D.cell r j ≤ 0) → RunEnd w' L m n D e
end
section
open Go.RowKit
open Lp (RL upd Dict sumTo spread dotN)
def RLs (K n : Nat) (f : Nat → Rat) : Prop := ∀ j, j < n → RL K (f j)
theorem RLs.mono {K K' n : Nat} {f : Nat → Rat} (h : RLs K n f) (hK : K ≤ K') : RLs K' n f := fun j hj => (h j hj).mono hK
theorem spread_rl {K n : Nat} {o : Nat → Nat} {a : Nat → Rat} (hi : ∀ c d, c < n → d < n → o c = o d → c = d) (h : ∀ c, c < n → RL K (a c)) (hK : 0 < K) (k : Nat) : RL K (spread n o a k) := by
 by_cases e : ∃ c, c < n ∧ o c = k
 ·obtain ⟨c, hc, rfl⟩ := e;rw [Lp.spread_at hi a hc]; exact h c hc
 ·rw [Lp.spread_none a fun c hc e' => e ⟨c, hc, e'⟩]; exact RL.zero.mono hK
inductive OutR (w : World) (m n K : Nat) (A : Nat → Nat → Rat) (b c : Nat → Rat) (v : Value) : Prop
 | opt (s A' l c' t B d f P cp Y cy q x y) : v = .agg #[.int .i64 1, .bool s, .slice A' l c', .bool t, .slice B d f, .slice P n cp, .slice Y m cy, .slice none 0 0] →
   IsRat w (.agg #[.bool s, .slice A' l c', .bool t, .slice B d f]) q → IsRats w (.slice P n cp) n x → IsRats w (.slice Y m cy) m y → RL K q → RLs K n x → RLs K m y → Lp.Opt m n A b c q x y → OutR w m n K A b c v
 | inf (Y cy y) : v = .agg #[.int .i64 2, .bool false, .slice none 0 0, .bool false, .slice none 0 0, .slice none 0 0, .slice Y m cy, .slice none 0 0] →
   IsRats w (.slice Y m cy) m y → RLs K m y → Lp.Inf m n A b y → OutR w m n K A b c v
 | unb (P cp R cr x d) : v = .agg #[.int .i64 3, .bool false, .slice none 0 0, .bool false, .slice none 0 0, .slice P n cp, .slice none 0 0, .slice R n cr] →
   IsRats w (.slice P n cp) n x → IsRats w (.slice R n cr) n d → RLs K n x → RLs K n d → Lp.Unb m n A b c x d → OutR w m n K A b c v
theorem OutR.below {w w' : World} {m n K : Nat} {A : Nat → Nat → Rat} {b c : Nat → Rat} {v : Value} (h : OutR w m n K A b c v) (hb : Below w.heap.size w w') : OutR w' m n K A b c v := by
 cases h with
 | opt s A' l c' t B d f P cp Y cy q x y h1 h2 h3 h4 h5 h6 h7 h8 => exact .opt s A' l c' t B d f P cp Y cy q x y h1 (h2.below hb) (h3.below hb) (h4.below hb) h5 h6 h7 h8
 | inf Y cy y h1 h2 h3 h4 => exact .inf Y cy y h1 (h2.below hb) h3 h4
 | unb P cp R cr x d h1 h2 h3 h4 h5 h6 => exact .unb P cp R cr x d h1 (h2.below hb) (h3.below hb) h4 h5 h6
section
variable {w : World} {m n K j i : Nat} {A : Nat → Nat → Rat} {b c x : Nat → Rat} {D : Dict}
theorem lim_val (hl : D.Lim m n K) : RL (K + 1) D.val := hl.val.mono (by omega)
theorem lim_point (hD : D.Ok m n) (hl : D.Lim m n K) : RLs (K + 1) n (spread m D.basic D.con) := fun k _ => spread_rl hD.bi (fun r hr => (hl.con r hr).mono (by omega)) (by omega) k
theorem lim_duals (hD : D.Ok m n) (hl : D.Lim m n K) : RLs (K + 1) m (fun i => spread n D.off D.top (n + i)) := fun k _ => spread_rl hD.oi (fun r hr => (hl.top r hr).mono (by omega)) (by omega) (n + k)
theorem lim_inf (hD : D.Ok m n) (hl : D.Lim m n K) (hi : i < m) : RLs (K + 1) m (fun k => (if D.basic i = n + k then 1 else 0) + spread n D.off (D.cell i) (n + k)) := fun k _ => by
 show RL (K + 1) ((if D.basic i = n + k then 1 else 0) + spread n D.off (D.cell i) (n + k));by_cases e : D.basic i = n + k
 ·rw [if_pos e, Lp.spread_none _ fun c hc e' => hD.ne i c hi hc (e.trans e'.symm)];rw [show (1 : Rat) + 0 = 1 by grind]; exact RL.one.mono (by omega)
 ·rw [if_neg e, show (0 : Rat) + spread n D.off (D.cell i) (n + k) = spread n D.off (D.cell i) (n + k) by grind];exact spread_rl hD.oi (fun r hr => (hl.cell i r hi hr).mono (by omega)) (by omega) _
theorem lim_ray {s : Rat} (hD : D.Ok m n) (hl : D.Lim m n K) (hj : j < n) (hs : RL 1 s) : RLs (K + 1) n (rayTo D j s m) := fun k _ => by
 show RL (K + 1) ((if D.off j = k then s else 0) + spread m D.basic (fun r => -(s * D.cell r j)) k);by_cases e : D.off j = k
 ·rw [if_pos e, Lp.spread_none _ fun r hr e' => hD.ne r j hr hj (e'.trans e.symm)];rw [show s + 0 = s by grind]; exact hs.mono (by omega)
 ·rw [if_neg e, show (0 : Rat) + spread m D.basic (fun r => -(s * D.cell r j)) k = spread m D.basic (fun r => -(s * D.cell r j)) k by grind];exact spread_rl hD.bi (fun r hr => ((hs.mul (hl.cell r j hr hj)).neg).mono (by omega)) (by omega) _
theorem top_zero (hD : D.Ok m n) (hs : ∀ x g f, D.Sol m n x g f ↔ (Dict.init n A b (fun _ => 0)).Sol m n x g f) (hj : j < n) : D.top j = 0 := by
 obtain ⟨y, hy, _, _⟩ := D.exists_sol hD (fun c => if c = j then 1 else 0) 0;have h1 := (Dict.init_sol.1 ((hs _ _ _).1 hy)).2;have h2 : dotN n (fun _ => 0) y = 0 := Lp.sumTo_zero fun k _ => by grind
 rw [h2, Lp.sumTo_one hj (fun c _ hc => by rw [if_neg hc]; grind), if_pos rfl] at h1;grind
theorem sgn_ray {q : Rat} (hq : q ≠ 0) : 0 < -((((-(sgI q.num) : Int)) : Rat) * q) := by
 by_cases h : q < 0
 ·have e : sgI q.num = -1 := by unfold sgI; rw [if_pos (num_neg.2 h)]
  rw [e]; simp; grind
 ·have h' : 0 < q := by grind
  have e : sgI q.num = 1 := by
   have := num_pos.2 h';unfold sgI; rw [if_neg (by omega), if_neg (by omega)]
  rw [e]; simp; grind
theorem sgn_rl {q : Rat} (hq : q ≠ 0) : RL 1 (((-(sgI q.num) : Int)) : Rat) := by
 have h : sgI q.num = -1 ∨ sgI q.num = 1 := by
  have h0 : q.num ≠ 0 := fun e => hq (Rat.num_eq_zero.1 e)
  unfold sgI;by_cases h1 : q.num < 0
  ·rw [if_pos h1]; exact .inl rfl
  ·rw [if_neg h1, if_neg h0]; exact .inr rfl
 rcases h with e | e <;> rw [e] <;> (unfold RL; decide)
theorem ray_free (hD : D.Ok m n) (hs : ∀ x g f, D.Sol m n x g f ↔ (Dict.init n A b c).Sol m n x g f) (hz : D.Zed m n) (hj : j < n) (ho : D.off j < n) (ht : D.top j ≠ 0) (hx : Lp.HoldsN m n A b x) :
  Lp.Unb m n A b c x (rayTo D j (((-(sgI (D.top j).num) : Int)) : Rat) m) := by
 have h := Lp.ray_of hD hs hj (((-(sgI (D.top j).num) : Int)) : Rat) (fun h => absurd h (by omega)) (fun r hr hb => by rw [hz r j hr hj hb ho]; grind) (sgn_ray ht);exact ⟨hx, h.1, h.2⟩
theorem ray_slack (hD : D.Ok m n) (hs : ∀ x g f, D.Sol m n x g f ↔ (Dict.init n A b c).Sol m n x g f) (hj : j < n) (ht : D.top j < 0) (hr : ∀ r, r < m → n ≤ D.basic r → D.cell r j ≤ 0) (hx : Lp.HoldsN m n A b x) :
  Lp.Unb m n A b c x (rayTo D j 1 m) := by
 have h := Lp.ray_of hD hs hj 1 (fun _ => by decide) (fun r hr' hb => by have := hr r hr' hb; grind) (by grind);exact ⟨hx, h.1, h.2⟩
end
end
section
open Go.RowKit
open Lp (RL upd Dict)
inductive OutT (w : World) (m n : Nat) (A : Nat → Nat → Rat) (b c : Nat → Rat) (v : Value) : Prop
 | opt (P cp Y cy q x y) : v = .agg #[.int .i64 1, .string (qtxt q), .slice P n cp, .slice Y m cy, .slice none 0 0] → TS w (.slice P n cp) n (fun j => qtxt (x j)) → TS w (.slice Y m cy) m (fun j => qtxt (y j)) → Lp.Opt m n A b c q x y → OutT w m n A b c v
 | inf (Y cy y) : v = .agg #[.int .i64 2, .string ⟨#[]⟩, .slice none 0 0, .slice Y m cy, .slice none 0 0] → TS w (.slice Y m cy) m (fun j => qtxt (y j)) → Lp.Inf m n A b y → OutT w m n A b c v
 | unb (P cp R cr x d) : v = .agg #[.int .i64 3, .string ⟨#[]⟩, .slice P n cp, .slice none 0 0, .slice R n cr] → TS w (.slice P n cp) n (fun j => qtxt (x j)) → TS w (.slice R n cr) n (fun j => qtxt (d j)) → Lp.Unb m n A b c x d → OutT w m n A b c v
theorem OutT.below {w w' : World} {m n : Nat} {A : Nat → Nat → Rat} {b c : Nat → Rat} {v : Value} (h : OutT w m n A b c v) (hb : Below w.heap.size w w') : OutT w' m n A b c v := by
 cases h with
 | opt P cp Y cy q x y h1 h2 h3 h4 => exact .opt P cp Y cy q x y h1 (h2.below hb) (h3.below hb) h4
 | inf Y cy y h1 h2 h3 => exact .inf Y cy y h1 (h2.below hb) h3
 | unb P cp R cr x d h1 h2 h3 h4 => exact .unb P cp R cr x d h1 (h2.below hb) (h3.below hb) h4
theorem Row.put5 {w : World} {g : Nat} {e : TypeId} {a0 a1 a2 a3 a4 v0 v1 v2 v3 v4 : Value} (h : Row w g e [a0, a1, a2, a3, a4]) :
  Row (((((w.setCell ⟨g, 0, none⟩ v0).setCell ⟨g, 1, none⟩ v1).setCell ⟨g, 2, none⟩ v2).setCell ⟨g, 3, none⟩ v3).setCell ⟨g, 4, none⟩ v4) g e [v0, v1, v2, v3, v4] := ((((h.set 0 v0).set 1 v1).set 2 v2).set 3 v3).set 4 v4
theorem grownBy_set5 (w : World) (g : Nat) (v0 v1 v2 v3 v4 : Value) :
  w.grownBy (((((w.setCell ⟨g, 0, none⟩ v0).setCell ⟨g, 1, none⟩ v1).setCell ⟨g, 2, none⟩ v2).setCell ⟨g, 3, none⟩ v3).setCell ⟨g, 4, none⟩ v4) (some g) :=
 grownBy_trans (grownBy_trans (grownBy_trans (grownBy_trans (grownBy_set _ _ _ _) (grownBy_set _ _ _ _)) (grownBy_set _ _ _ _)) (grownBy_set _ _ _ _)) (grownBy_set _ _ _ _)
theorem SK.otherT {w w' : World} {g g' n : Nat} {e : TypeId} {cs : List Value} {s : Nat → ByteArray} (h : SK w g n s) (hg : w.grownBy w' (some g')) (hr : Row w g' e cs) (he : e ≠ 30) : SK w' g n s := by
 obtain ⟨_, hs⟩ := h.row;exact h.other hg (ne_ty hs hr (fun e' => he e'.symm))
end
section
open Go.RowKit
open Lp (RL upd Dict dotN sumTo)
theorem itoa_len (a : Int) : (Lib.decDigits a.natAbs).length ≤ (Lib.itoa a).length := by
 by_cases h : a < 0
 ·rw [itoa_neg h]; simp
 ·rw [itoa_nonneg' h]; exact Nat.le_refl _
theorem ten_dec (n : Nat) : n < 10 ^ (Lib.decDigits n).length := by have h := dv_lt (dec_isDg n); rw [dv_dec] at h; exact h
theorem rl_text {q : Rat} {K : Nat} (h : (qtxtL q).length ≤ K) : RL K q := by
 have h1 := itoa_len q.num;have up : ∀ n k, (Lib.decDigits n).length ≤ k → n < 10 ^ k := fun n k hk => Nat.lt_of_lt_of_le (ten_dec n) (Nat.pow_le_pow_right (by decide) hk)
 by_cases e : q.den = 1
 ·have h2 : qtxtL q = Lib.itoa q.num := by unfold qtxtL; rw [if_pos e]
  rw [h2] at h;refine ⟨up _ _ (by omega), ?_⟩;rw [e];have := dec_pos q.num.natAbs;exact Nat.lt_of_lt_of_le (show 1 < 10 ^ 1 by decide) (Nat.pow_le_pow_right (by decide) (by omega))
 ·rw [qtxtL_frac e, List.length_append, List.length_cons] at h;exact ⟨up _ _ (by omega), up _ _ (by omega)⟩
theorem size_list (s : ByteArray) : s.size = s.data.toList.length := by rw [Array.length_toList]; rfl
theorem rl_size {q : Rat} {K : Nat} {s : ByteArray} (h : s.data.toList = qtxtL q) (hs : s.size ≤ K) : RL K q := rl_text (by rw [← h, ← size_list]; exact hs)
theorem qtxt_ne (q : Rat) : qtxt q ≠ ⟨#[]⟩ := fun h => by
 have h1 := rchk_qtxt q;rw [← qtxt_list, h] at h1
 revert h1
 decide +kernel
theorem progE_ok {n m : Nat} {k : Nat → Nat} {o : Nat → ByteArray} {t : Nat → Nat → ByteArray} {b : Nat → ByteArray} (h : progE n m k o t b = 0) :
  n ≤ 96 ∧ m ≤ 256 ∧ (∀ i, i < m → k i = n) ∧ (∀ j, j < n → sE (o j) = 0) ∧ ∀ i, i < m → rowE n (t i) (b i) = 0 := by
 unfold progE at h;split at h
 ·cases h
 ·split at h
  ·cases h
  ·rename_i h1 h2;split at h
   ·rename_i h3; exact absurd h h3
   ·rename_i h3;exact ⟨by omega, by omega, by simpa using h2, firstE_zero.1 (by simpa using h3), firstE_zero.1 h⟩
theorem progIs_rl {n m K : Nat} {k : Nat → Nat} {o : Nat → ByteArray} {t : Nat → Nat → ByteArray} {b : Nat → ByteArray} {A : Nat → Nat → Rat} {bq c : Nat → Rat} (h0 : progE n m k o t b = 0) (h : ProgIs n m o t b A bq c)
  (ho : ∀ j, j < n → (o j).size ≤ K) (ht : ∀ i, i < m → ∀ j, j < k i → (t i j).size ≤ K) (hb : ∀ i, i < m → (b i).size ≤ K) :
  (∀ j, j < n → RL K (c j)) ∧ (∀ i, i < m → ∀ j, j < n → RL K (A i j)) ∧ ∀ i, i < m → RL K (bq i) := by
 obtain ⟨_, _, hk, _, _⟩ := progE_ok h0;exact ⟨fun j hj => rl_size (h.obj j hj) (ho j hj), fun i hi j hj => rl_size (h.rows i hi j hj) (ht i hi j (by rw [hk i hi]; exact hj)), fun i hi => rl_size (h.bounds i hi) (hb i hi)⟩
theorem TS.other {w w' : World} {v : Value} {n : Nat} {s : Nat → ByteArray} {g : Nat} {e : TypeId} {cs : List Value} (h : TS w v n s) (hg : w.grownBy w' (some g)) (hr : Row w g e cs) (hno : ∀ j, j < n → Value.string (s j) ∉ cs) : TS w' v n s := by
 obtain ⟨A, c, hv, h1, h2, h3⟩ := h;refine ⟨A, c, hv, h1, h2, ?_⟩
 rcases h3 with h3 | ⟨b, o, hA, hc⟩
 ·exact .inl h3
 ·refine .inr ⟨b, o, hA, fun j hj => cell_other hg ?_ (hc j hj)⟩;rintro rfl;have h4 := hc j hj;rw [hr.cell] at h4;exact hno j hj (List.mem_of_getElem? h4)
theorem OutT.other {w w' : World} {m n : Nat} {A : Nat → Nat → Rat} {b c : Nat → Rat} {v : Value} {g : Nat} {e : TypeId} {cs : List Value} (h : OutT w m n A b c v) (hg : w.grownBy w' (some g)) (hr : Row w g e cs) (hno : ∀ z, Value.string z ∈ cs → z = ⟨#[]⟩) : OutT w' m n A b c v := by
 have k : ∀ (n' : Nat) (x : Nat → Rat), ∀ j, j < n' → Value.string (qtxt (x j)) ∉ cs := fun _ x j _ hm => qtxt_ne (x j) (hno _ hm)
 cases h with
 | opt P cp Y cy q x y h1 h2 h3 h4 => exact .opt P cp Y cy q x y h1 (h2.other hg hr (k n x)) (h3.other hg hr (k m y)) h4
 | inf Y cy y h1 h2 h3 => exact .inf Y cy y h1 (h2.other hg hr (k m y)) h3
 | unb P cp R cr x d h1 h2 h3 h4 => exact .unb P cp R cr x d h1 (h2.other hg hr (k n x)) (h3.other hg hr (k n d)) h4
theorem OutT.shape {w : World} {m n : Nat} {A : Nat → Nat → Rat} {b c : Nat → Rat} {v : Value} (h : OutT w m n A b c v) : ∃ (kk : Int) (s : ByteArray) (A0 : Option Addr) (n0 c0 : Nat) (A1 : Option Addr) (n1 c1 : Nat) (A2 : Option Addr) (n2 c2 : Nat), v = .agg #[.int .i64 kk, .string s, .slice A0 n0 c0, .slice A1 n1 c1, .slice A2 n2 c2] := by
 cases h with
 | opt P cp Y cy q x y h1 => exact ⟨_, _, _, _, _, _, _, _, _, _, _, h1⟩
 | inf Y cy y h1 => exact ⟨_, _, _, _, _, _, _, _, _, _, _, h1⟩
 | unb P cp R cr x d h1 => exact ⟨_, _, _, _, _, _, _, _, _, _, _, h1⟩
def SolveR (w' : World) (n m : Nat) (k : Nat → Nat) (o : Nat → ByteArray) (t : Nat → Nat → ByteArray) (b : Nat → ByteArray) (e : Ending) : Prop :=
 (progE n m k o t b ≠ 0 ∧ e = .returned (.tuple #[.agg #[.int .i64 0, .string ⟨#[]⟩, .slice none 0 0, .slice none 0 0, .slice none 0 0], .int .i64 (progE n m k o t b : Nat)])) ∨
 (progE n m k o t b = 0 ∧ ∃ A bq c v, ProgIs n m o t b A bq c ∧ OutT w' m n A bq c v ∧ e = .returned (.tuple #[v, .int .i64 0]))
def lst (l : List ByteArray) (j : Nat) : ByteArray := l.getD j ⟨#[]⟩
abbrev RowL := List (List ByteArray × ByteArray)
def rwK (R : RowL) (i : Nat) : Nat := (R.getD i ([], ⟨#[]⟩)).1.length
def rwT (R : RowL) (i j : Nat) : ByteArray := lst (R.getD i ([], ⟨#[]⟩)).1 j
def rwB (R : RowL) (i : Nat) : ByteArray := (R.getD i ([], ⟨#[]⟩)).2
theorem ts_row {w : World} {g : Nat} {e : TypeId} (l : List ByteArray) (h : Row w g e (l.map Value.string)) (hl : l.length ≤ maxLen) : TS w (.slice (some ⟨g, 0, none⟩) l.length l.length) l.length (lst l) := by
 refine ⟨_, _, rfl, Nat.le_refl _, hl, .inr ⟨g, 0, rfl, fun j hj => ?_⟩⟩;rw [Nat.zero_add];exact h.at_ j (by simp [lst, List.getD, hj])
theorem trows_row {w : World} {g m c : Nat} {e : TypeId} {cs : List Value} {k : Nat → Nat} {t : Nat → Nat → ByteArray} {b : Nat → ByteArray} (h : Row w g e cs) (hm : m ≤ c) (hc : c ≤ maxLen)
  (hr : ∀ i, i < m → ∃ u, cs[i * 2]? = some u ∧ cs[i * 2 + 1]? = some (.string (b i)) ∧ TS w u (k i) (t i)) : TRows w (.slice (some ⟨g, 0, none⟩) m c) m k t b := by
 refine ⟨_, _, rfl, hm, hc, .inr ⟨g, 0, rfl, fun i hi => ?_⟩⟩;obtain ⟨u, h1, h2, h3⟩ := hr i hi;rw [Nat.zero_add];exact ⟨u, h.at_ _ h1, h.at_ _ h2, h3⟩
theorem qtxt4 : qtxt 4 = ⟨#[52]⟩ := by kernel_rfl
theorem qtxt5 : qtxt 5 = ⟨#[53]⟩ := by kernel_rfl
theorem byt {l : List UInt8} {q v : Rat} (h : l = qtxtL q) (hv : qtxtL v = l) : q = v := qtxtL_inj (h.symm.trans hv.symm)
section
variable {w : World} {A : Nat → Nat → Rat} {b c : Nat → Rat} {v : Value}
theorem ex1 (hA : A 0 0 = 1 ∧ A 0 1 = 0 ∧ A 1 0 = 0 ∧ A 1 1 = 1 ∧ A 2 0 = 1 ∧ A 2 1 = 1) (hb : b 0 = 2 ∧ b 1 = 3 ∧ b 2 = 4) (hc : c 0 = 1 ∧ c 1 = 1) (h : OutT w 3 2 A b c v) :
  ∃ P cp Y cy, v = .agg #[.int .i64 1, .string ⟨#[52]⟩, .slice P 2 cp, .slice Y 3 cy, .slice none 0 0] := by
 obtain ⟨a1, a2, a3, a4, a5, a6⟩ := hA;obtain ⟨b1, b2, b3⟩ := hb;obtain ⟨c1, c2⟩ := hc
 have hx : Lp.Opt 3 2 A b c 4 (fun _ => 2) (fun i => if i = 2 then 1 else 0) := by
  refine ⟨⟨fun i _ => ?_, fun k hk => ?_⟩, ?_, fun i hi => ?_, ?_⟩
  ·show (0 : Rat) ≤ if i = 2 then 1 else 0
   split <;> decide
  ·rcases k with _ | _ | k
   ·simp only [dotN, sumTo, a1, a3, a5, c1]; grind
   ·simp only [dotN, sumTo, a2, a4, a6, c2]; grind
   ·omega
  ·simp only [dotN, sumTo, b1, b2, b3]; grind
  ·rcases i with _ | _ | _ | i
   ·simp only [dotN, sumTo, a1, a2, b1]; grind
   ·simp only [dotN, sumTo, a3, a4, b2]; grind
   ·simp only [dotN, sumTo, a5, a6, b3]; grind
   ·omega
  ·simp only [dotN, sumTo, c1, c2]; grind
 cases h with
 | opt P cp Y cy q x y h1 h2 h3 h4 =>
  rw [h4.eq hx, qtxt4] at h1;exact ⟨P, cp, Y, cy, h1⟩
 | inf Y cy y h1 h2 h3 => exact (h3.no hx.holds).elim
 | unb P cp R cr x d h1 h2 h3 h4 => exact (h4.no hx).elim
theorem ex2 (hA : A 0 0 = 1 ∧ A 0 1 = 0 ∧ A 1 0 = 0 ∧ A 1 1 = 1) (hb : b 0 = 2 ∧ b 1 = 3) (hc : c 0 = 1 ∧ c 1 = 1) (h : OutT w 2 2 A b c v) :
  ∃ P cp Y cy, v = .agg #[.int .i64 1, .string ⟨#[53]⟩, .slice P 2 cp, .slice Y 2 cy, .slice none 0 0] := by
 obtain ⟨a1, a2, a3, a4⟩ := hA;obtain ⟨b1, b2⟩ := hb;obtain ⟨c1, c2⟩ := hc
 have hx : Lp.Opt 2 2 A b c 5 (fun k => if k = 0 then 2 else 3) (fun _ => 1) := by
  refine ⟨⟨fun i _ => by decide, fun k hk => ?_⟩, ?_, fun i hi => ?_, ?_⟩
  ·rcases k with _ | _ | k
   ·simp only [dotN, sumTo, a1, a3, c1]; grind
   ·simp only [dotN, sumTo, a2, a4, c2]; grind
   ·omega
  ·simp only [dotN, sumTo, b1, b2]; grind
  ·rcases i with _ | _ | i
   ·simp only [dotN, sumTo, a1, a2, b1]; grind
   ·simp only [dotN, sumTo, a3, a4, b2]; grind
   ·omega
  ·simp only [dotN, sumTo, c1, c2]; grind
 cases h with
 | opt P cp Y cy q x y h1 h2 h3 h4 =>
  rw [h4.eq hx, qtxt5] at h1;exact ⟨P, cp, Y, cy, h1⟩
 | inf Y cy y h1 h2 h3 => exact (h3.no hx.holds).elim
 | unb P cp R cr x d h1 h2 h3 h4 => exact (h4.no hx).elim
theorem ex3 (hA : A 0 0 = 1 ∧ A 1 0 = -1) (hb : b 0 = 1 ∧ b 1 = -2) (h : OutT w 2 1 A b c v) :
  ∃ Y cy, v = .agg #[.int .i64 2, .string ⟨#[]⟩, .slice none 0 0, .slice Y 2 cy, .slice none 0 0] := by
 obtain ⟨a1, a2⟩ := hA;obtain ⟨b1, b2⟩ := hb
 have hx : Lp.Inf 2 1 A b (fun _ => 1) := by
  refine ⟨⟨fun i _ => by decide, fun k hk => ?_⟩, ?_⟩
  ·obtain rfl : k = 0 := by omega
   simp only [dotN, sumTo, a1, a2]; grind
  ·simp only [dotN, sumTo, b1, b2]; grind
 cases h with
 | opt P cp Y cy q x y h1 h2 h3 h4 => exact (hx.no h4.holds).elim
 | inf Y cy y h1 h2 h3 => exact ⟨Y, cy, h1⟩
 | unb P cp R cr x d h1 h2 h3 h4 => exact (hx.no h4.holds).elim
theorem ex4 (hA : A 0 0 = -1) (hb : b 0 = 0) (hc : c 0 = 1) (h : OutT w 1 1 A b c v) :
  ∃ P cp R cr, v = .agg #[.int .i64 3, .string ⟨#[]⟩, .slice P 1 cp, .slice none 0 0, .slice R 1 cr] := by
 have hx : Lp.Unb 1 1 A b c (fun _ => 0) (fun _ => 1) := by
  refine ⟨fun i hi => ?_, fun i hi => ?_, ?_⟩
  ·obtain rfl : i = 0 := by omega
   simp only [dotN, sumTo, hb]; grind
  ·obtain rfl : i = 0 := by omega
   simp only [dotN, sumTo, hA]; grind
  ·simp only [dotN, sumTo, hc]; grind
 cases h with
 | opt P cp Y cy q x y h1 h2 h3 h4 => exact (hx.no h4).elim
 | inf Y cy y h1 h2 h3 => exact (h3.no hx.holds).elim
 | unb P cp R cr x d h1 h2 h3 h4 => exact ⟨P, cp, R, cr, h1⟩
end
end
section
open Go.RowKit
open Lp (RL upd Dict)
def exO : List ByteArray := [⟨#[49]⟩, ⟨#[49]⟩]
def exR : RowL := [([⟨#[49]⟩, ⟨#[48]⟩], ⟨#[50]⟩), ([⟨#[48]⟩, ⟨#[49]⟩], ⟨#[51]⟩), ([⟨#[49]⟩, ⟨#[49]⟩], ⟨#[52]⟩)]
set_option maxRecDepth 100000 in
set_option maxHeartbeats 1600000 in
theorem row_walk (b : ByteArray) (A : Option Addr) (n c : Nat) (w : World) :
  Calls Tryz.prog 42 #[.string b, .slice A n c] w fun e w' => e = .returned (.agg #[.slice A n c, .string b]) ∧ Below w.heap.size w w' := by
 obtain ⟨W, hW, RO, HB⟩ := eN1 w [.slice none 0 0, .string ⟨#[]⟩] 53;go_enter Tryz.func42, Tryz.ntmps42;obtain ⟨r0, f0, r1, f1⟩ := aF2 RO.out;have rl := RO.out.lt;rw [hW] at r0 r1 f0 f1 rl;go_wp2_with fail
 clear hW r0 r1 f0 f1 rl;have RE : Row (w.alloc (.cells #[.slice A n c, .string b] 53)) w.heap.size 53 [.slice A n c, .string b] := heap_new _ _;have hbe := below_new w (.cells #[.slice A n c, .string b] 53);obtain ⟨wE, hwE⟩ := eX (w.alloc (.cells #[.slice A n c, .string b] 53));rw [← hwE] at RE hbe ⊢;have k0 := RE.at_ 0 rfl;have k1 := RE.at_ 1 rfl;refine bodyPost_ret (v := .agg #[.slice A n c, .string b]) (by simp [results, Tryz.results42, go_sem, k0, k1]) rfl ?_;exact ⟨rfl, hbe⟩
set_option maxRecDepth 100000 in
set_option maxHeartbeats 6400000 in
theorem example_walk (w : World) :
  Calls Tryz.prog 57 #[] w fun e w' => ∃ go gr, e = .returned (.agg #[.slice (some ⟨go, 0, none⟩) 2 2, .slice (some ⟨gr, 0, none⟩) 3 3]) ∧ TS w' (.slice (some ⟨go, 0, none⟩) 2 2) 2 (lst exO) ∧ TRows w' (.slice (some ⟨gr, 0, none⟩) 3 3) 3 (rwK exR) (rwT exR) (rwB exR) ∧ w.heap.size ≤ gr ∧ Below w.heap.size w w' := by
 obtain ⟨W, hW, RO, HB⟩ := eN1 w [.slice none 0 0, .slice none 0 0] 25;go_enter Tryz.func57, Tryz.ntmps57;go_wp2_with fail
 obtain ⟨w2, hw2⟩ := eX (((w.alloc (.cells #[.slice none 0 0, .slice none 0 0] 25)).alloc (.cells #[.string ⟨#[49]⟩, .string ⟨#[49]⟩] 30)).alloc (.cells #[.string ⟨#[49]⟩, .string ⟨#[48]⟩] 30));obtain ⟨q0, q1, q2, qs, qb⟩ := boxes3 w (.cells #[.slice none 0 0, .slice none 0 0] 25) (.cells #[.string ⟨#[49]⟩, .string ⟨#[49]⟩] 30) (.cells #[.string ⟨#[49]⟩, .string ⟨#[48]⟩] 30);rw [← hw2] at q0 q1 q2 qs qb ⊢;clear hw2 hW RO HB;obtain ⟨b2, hb2⟩ := eX (w.heap.size + 1 + 1);obtain ⟨b1, hb1⟩ := eX (w.heap.size + 1);rw [show w.heap.size + 2 = b2 from hb2.symm] at q2;rw [← hb1] at q1;rw [← hb2, ← hb1];have h1 : w.heap.size < b1 := by omega
 have h2 : w.heap.size < b2 := by omega
 clear hb1 hb2 qs;have RO : Row w2 w.heap.size 25 [.slice none 0 0, .slice none 0 0] := q0;have Q1 : Row w2 b1 30 [.string ⟨#[49]⟩, .string ⟨#[49]⟩] := q1;have Q2 : Row w2 b2 30 [.string ⟨#[49]⟩, .string ⟨#[48]⟩] := q2;have HB := lH qb;clear q0 q1 q2 qb;replace RO := lH RO;replace Q1 := lH Q1;replace Q2 := lH Q2;have h1 := lH h1;have h2 := lH h2;refine (row_walk _ _ 2 2 _).mono ?_;rintro e w3 ⟨rfl, hb⟩;replace RO := RO.out;replace Q1 := Q1.out;replace Q2 := Q2.out;replace RO := RO.below hb RO.lt;replace Q1 := Q1.below hb Q1.lt;replace Q2 := Q2.below hb Q2.lt;replace HB := bT HB hb;clear hb;replace RO := lH RO;replace Q1 := lH Q1;replace Q2 := lH Q2;go_wp2_with fail
 obtain ⟨w4, hw⟩ := eX (w3.alloc (.cells #[.string ⟨#[48]⟩, .string ⟨#[49]⟩] 30));obtain ⟨b3, hbk⟩ := eX (w3.heap.size);have hb : Below w3.heap.size w3 w4 := by rw [hw]; exact below_new _ _
 have Q3 : Row w4 b3 30 [.string ⟨#[48]⟩, .string ⟨#[49]⟩] := by rw [hw, hbk]; exact heap_new _ _
 have h3 : Hid (w.heap.size < b3) := lH (by rw [hbk]; exact RO.out.lt);rw [← hw, ← hbk];clear hw hbk;replace RO := RO.out;replace Q1 := Q1.out;replace Q2 := Q2.out;replace RO := RO.below hb RO.lt;replace Q1 := Q1.below hb Q1.lt;replace Q2 := Q2.below hb Q2.lt;replace HB := bT HB hb;clear hb;replace RO := lH RO;replace Q1 := lH Q1;replace Q2 := lH Q2;replace Q3 := lH Q3;refine (row_walk _ _ 2 2 _).mono ?_;rintro e w5 ⟨rfl, hb⟩;replace RO := RO.out;replace Q1 := Q1.out;replace Q2 := Q2.out;replace Q3 := Q3.out;replace RO := RO.below hb RO.lt;replace Q1 := Q1.below hb Q1.lt;replace Q2 := Q2.below hb Q2.lt;replace Q3 := Q3.below hb Q3.lt;replace HB := bT HB hb;clear hb;replace RO := lH RO;replace Q1 := lH Q1;replace Q2 := lH Q2;replace Q3 := lH Q3;go_wp2_with fail
 obtain ⟨w6, hw⟩ := eX (w5.alloc (.cells #[.string ⟨#[49]⟩, .string ⟨#[49]⟩] 30));obtain ⟨b4, hbk⟩ := eX (w5.heap.size);have hb : Below w5.heap.size w5 w6 := by rw [hw]; exact below_new _ _
 have Q4 : Row w6 b4 30 [.string ⟨#[49]⟩, .string ⟨#[49]⟩] := by rw [hw, hbk]; exact heap_new _ _
 have h4 : Hid (w.heap.size < b4) := lH (by rw [hbk]; exact RO.out.lt);rw [← hw, ← hbk];clear hw hbk;replace RO := RO.out;replace Q1 := Q1.out;replace Q2 := Q2.out;replace Q3 := Q3.out;replace RO := RO.below hb RO.lt;replace Q1 := Q1.below hb Q1.lt;replace Q2 := Q2.below hb Q2.lt;replace Q3 := Q3.below hb Q3.lt;replace HB := bT HB hb;clear hb;replace RO := lH RO;replace Q1 := lH Q1;replace Q2 := lH Q2;replace Q3 := lH Q3;replace Q4 := lH Q4;refine (row_walk _ _ 2 2 _).mono ?_;rintro e w7 ⟨rfl, hb⟩;replace RO := RO.out;replace Q1 := Q1.out;replace Q2 := Q2.out;replace Q3 := Q3.out;replace Q4 := Q4.out;replace RO := RO.below hb RO.lt;replace Q1 := Q1.below hb Q1.lt;replace Q2 := Q2.below hb Q2.lt;replace Q3 := Q3.below hb Q3.lt;replace Q4 := Q4.below hb Q4.lt;replace HB := bT HB hb;clear hb;replace RO := lH RO;replace Q1 := lH Q1;replace Q2 := lH Q2;replace Q3 := lH Q3;replace Q4 := lH Q4;obtain ⟨wA, hw⟩ := eX (w7.alloc (.cells #[.slice (some ⟨b2, 0, none⟩) 2 2, .string ⟨#[50]⟩, .slice (some ⟨b3, 0, none⟩) 2 2, .string ⟨#[51]⟩, .slice (some ⟨b4, 0, none⟩) 2 2, .string ⟨#[52]⟩] 53));obtain ⟨b5, hbk⟩ := eX (w7.heap.size);have hb : Below w7.heap.size w7 wA := by rw [hw]; exact below_new _ _
 have Q5 : Row wA b5 53 [.slice (some ⟨b2, 0, none⟩) 2 2, .string ⟨#[50]⟩, .slice (some ⟨b3, 0, none⟩) 2 2, .string ⟨#[51]⟩, .slice (some ⟨b4, 0, none⟩) 2 2, .string ⟨#[52]⟩] := by rw [hw, hbk]; exact heap_new _ _
 have h5 : Hid (w.heap.size < b5) := lH (by rw [hbk]; exact RO.out.lt);replace RO := RO.out;replace Q1 := Q1.out;replace Q2 := Q2.out;replace Q3 := Q3.out;replace Q4 := Q4.out;replace RO := RO.below hb RO.lt;replace Q1 := Q1.below hb Q1.lt;replace Q2 := Q2.below hb Q2.lt;replace Q3 := Q3.below hb Q3.lt;replace Q4 := Q4.below hb Q4.lt;replace HB := bT HB hb;clear hb;replace RO := lH RO;replace Q1 := lH Q1;replace Q2 := lH Q2;replace Q3 := lH Q3;replace Q4 := lH Q4;replace Q5 := lH Q5;obtain ⟨r0, f0, r1, f1⟩ := aF2 RO.out;have rl := RO.out.lt;rw [hw] at r0 r1 f0 f1 rl;go_wp2_with fail
 rw [← hw, ← hbk];clear hw hbk r0 r1 f0 f1 rl;have hg : World.grownBy wA ((wA.setCell ⟨w.heap.size, 0, none⟩ (.slice (some ⟨b1, 0, none⟩) 2 2)).setCell ⟨w.heap.size, 1, none⟩ (.slice (some ⟨b5, 0, none⟩) 3 3)) (some w.heap.size) := grownBy_set2 _ _ _ _ _ _;have RE : Row ((wA.setCell ⟨w.heap.size, 0, none⟩ (.slice (some ⟨b1, 0, none⟩) 2 2)).setCell ⟨w.heap.size, 1, none⟩ (.slice (some ⟨b5, 0, none⟩) 3 3)) w.heap.size 25 [.slice (some ⟨b1, 0, none⟩) 2 2, .slice (some ⟨b5, 0, none⟩) 3 3] := (RO.out.set 0 (.slice (some ⟨b1, 0, none⟩) 2 2)).set 1 (.slice (some ⟨b5, 0, none⟩) 3 3);have hbe := HB.out.grown hg HB.out.size (by first | (simp; done) | (simp; omega));have E1 := Q1.out.other hg (by have := h1.out; omega);have E2 := Q2.out.other hg (by have := h2.out; omega);have E3 := Q3.out.other hg (by have := h3.out; omega);have E4 := Q4.out.other hg (by have := h4.out; omega);have E5 := Q5.out.other hg (by have := h5.out; omega);obtain ⟨wE, hwE⟩ := eX (((wA.setCell ⟨w.heap.size, 0, none⟩ (.slice (some ⟨b1, 0, none⟩) 2 2)).setCell ⟨w.heap.size, 1, none⟩ (.slice (some ⟨b5, 0, none⟩) 3 3)));rw [← hwE] at RE hbe E1 E2 E3 E4 E5 ⊢;have k0 := RE.at_ 0 rfl;have k1 := RE.at_ 1 rfl;refine bodyPost_ret (v := .agg #[.slice (some ⟨b1, 0, none⟩) 2 2, .slice (some ⟨b5, 0, none⟩) 3 3]) (by simp [results, Tryz.results57, go_sem, k0, k1]) rfl ?_;refine ⟨_, _, rfl, ts_row exO E1 (by unfold maxLen; decide), trows_row E5 (by decide) (by unfold maxLen; decide) ?_, Nat.le_of_lt h5.out, hbe⟩;intro i hi
 rcases i with _ | _ | _ | i
 ·exact ⟨_, rfl, rfl, ts_row [⟨#[49]⟩, ⟨#[48]⟩] E2 (by unfold maxLen; decide)⟩
 ·exact ⟨_, rfl, rfl, ts_row [⟨#[48]⟩, ⟨#[49]⟩] E3 (by unfold maxLen; decide)⟩
 ·exact ⟨_, rfl, rfl, ts_row [⟨#[49]⟩, ⟨#[49]⟩] E4 (by unfold maxLen; decide)⟩
 ·omega
end
section
open Go.RowKit
open Lp (RL upd Dict)
def pInt (f : Nat → Nat) (j : Nat) (u : Value) : Prop := u = .int .i64 (f j : Nat)
def pRow (n : Nat) (gr cr : Nat → Nat) (j : Nat) (u : Value) : Prop := ∃ A, u = .slice A n (cr j) ∧ (0 < n → A = some ⟨gr j, 0, none⟩)
theorem OwnL.congr {w : World} {v : Value} {e : TypeId} {k : Nat} {p p' : Nat → Value → Prop} (h : OwnL w v e k p) (hp : ∀ j, j < k → ∀ u, p j u → p' j u) : OwnL w v e k p' := by
 obtain ⟨xs, ho, hh⟩ := h;refine ⟨xs, ho, fun j hj => ?_⟩;obtain ⟨u, h1, h2⟩ := hh j hj;exact ⟨u, h1, hp j hj u h2⟩
structure BegS (w : World) (B n : Nat) (k : Nat → Nat) (v : Nat → Value) (gr cr : Nat → Nat) (A : Nat → Nat → Rat) (b c : Nat → Rat) : Prop where
 o0 : OwnL w (v 0) 3 (k 0) (pInt fun j => n + j)
 o1 : OwnL w (v 1) 3 (k 1) (pInt fun j => j)
 o2 : OwnQ w (v 2) (k 2) b
 o3 : OwnL w (v 3) 95 (k 3) (pRow n gr cr)
 o4 : OwnQ w (v 4) (k 4) (fun j => -(c j))
 rows : 0 < n → ∀ j, j < k 3 → RB w (gr j) n (A j)
 ap : ∀ i j, i ≠ j → ∀ g, (v i).ownBlock = some g → (v j).ownBlock ≠ some g
 ar : 0 < n → ∀ i j, j < k 3 → (v i).ownBlock ≠ some (gr j)
 rr : 0 < n → ∀ i j, i < k 3 → j < k 3 → gr i = gr j → i = j
 lo : ∀ i g, (v i).ownBlock = some g → B ≤ g ∧ g < w.heap.size
 lr : 0 < n → ∀ j, j < k 3 → B ≤ gr j
section
variable {w w' : World} {B n : Nat} {k : Nat → Nat} {v : Nat → Value} {gr cr : Nat → Nat} {A : Nat → Nat → Rat} {b c : Nat → Rat}
theorem BegS.start (w : World) (B n : Nat) (gr cr : Nat → Nat) (A : Nat → Nat → Rat) (b c : Nat → Rat) : BegS w B n (fun _ => 0) (fun _ => .slice none 0 0) gr cr A b c :=
 ⟨OwnL.nil _ _ _, OwnL.nil _ _ _, OwnQ.nil _ _, OwnL.nil _ _ _, OwnQ.nil _ _, fun _ j hj => absurd hj (by omega), fun i j _ g hg => by simp [Value.ownBlock] at hg, fun _ i j hj => absurd hj (by omega), fun _ i j hi => absurd hi (by omega), fun i g hg => by simp [Value.ownBlock] at hg, fun _ j hj => absurd hj (by omega)⟩
theorem BegS.below (h : BegS w B n k v gr cr A b c) (hb : Below w.heap.size w w') : BegS w' B n k v gr cr A b c :=
 ⟨h.o0.below hb, h.o1.below hb, h.o2.below hb, h.o3.below hb, h.o4.below hb, fun hn j hj => (h.rows hn j hj).below hb, h.ap, h.ar, h.rr, fun i g hg => ⟨(h.lo i g hg).1, Nat.lt_of_lt_of_le (h.lo i g hg).2 hb.size⟩, h.lr⟩
theorem BegS.other {g : Nat} {e : TypeId} {cs : List Value} (h : BegS w B n k v gr cr A b c) (hg : w.grownBy w' (some g)) (hr : Row w g e cs) (he : e ≠ 160) (hB : g < B) : BegS w' B n k v gr cr A b c := by
 have ne : ∀ i, (v i).ownBlock ≠ some g := fun i e => by have := (h.lo i g e).1; omega
 exact ⟨h.o0.other hg (ne 0), h.o1.other hg (ne 1), h.o2.other hg hr he (ne 2), h.o3.other hg (ne 3), h.o4.other hg hr he (ne 4), fun hn j hj => (h.rows hn j hj).other hg hr he (by have := h.lr hn j hj; omega), h.ap, h.ar, h.rr, fun i g hg' => ⟨(h.lo i g hg').1, Nat.lt_of_lt_of_le (h.lo i g hg').2 hg.size⟩, h.lr⟩
theorem BegS.grow {i : Nat} {v' : Value} (h : BegS w B n k v gr cr A b c) (ht : Turned w w' (v i) v') (hB : B ≤ w.heap.size) (hl : ∀ g, v'.ownBlock = some g → g < w'.heap.size) (hlt : 0 < n → ∀ j, j < k 3 → gr j < w.heap.size) :
  (∀ a j, a ≠ j → ∀ g, (upd v i v' a).ownBlock = some g → (upd v i v' j).ownBlock ≠ some g) ∧ (0 < n → ∀ a j, j < k 3 → (upd v i v' a).ownBlock ≠ some (gr j)) ∧ (∀ a g, (upd v i v' a).ownBlock = some g → B ≤ g ∧ g < w'.heap.size) := by
 refine ⟨fun a j hne g hg => ?_, fun hn a j hj => ?_, fun a g hg => ?_⟩
 ·by_cases e : a = i
  ·subst e;rw [Lp.upd_same] at hg;rw [Lp.upd_other _ _ (fun e => hne e.symm)];intro hj;exact ht.apart (h.lo j g hj).2 (fun e => h.ap a j hne g e hj) hg
  ·rw [Lp.upd_other _ _ e] at hg;by_cases e2 : j = i
   ·subst e2;rw [Lp.upd_same];exact ht.apart (h.lo a g hg).2 (h.ap a j hne g hg)
   ·rw [Lp.upd_other _ _ e2]; exact h.ap a j hne g hg
 ·by_cases e : a = i
  ·subst e; rw [Lp.upd_same]; exact ht.apart (hlt hn j hj) (h.ar hn a j hj)
  ·rw [Lp.upd_other _ _ e]; exact h.ar hn a j hj
 ·by_cases e : a = i
  ·subst e;rw [Lp.upd_same] at hg;refine ⟨?_, hl g hg⟩
   rcases ht.own with h1 | ⟨g', h1, h2⟩
   ·exact (h.lo a g (h1 ▸ hg)).1
   ·rw [hg] at h1; simp only [Option.some.injEq] at h1; omega
  ·rw [Lp.upd_other _ _ e] at hg;exact ⟨(h.lo a g hg).1, Nat.lt_of_lt_of_le (h.lo a g hg).2 ht.grown.size⟩
theorem BegS.rowlt (h : BegS w B n k v gr cr A b c) : 0 < n → ∀ j, j < k 3 → gr j < w.heap.size := fun hn j hj => (h.rows hn j hj).lt
theorem BegS.apart' (h : BegS w B n k v gr cr A b c) {i j : Nat} (hne : i ≠ j) : ∀ g, (v j).ownBlock = some g → (v i).ownBlock ≠ some g := fun g hg hg' => h.ap i j hne g hg' hg
theorem u0 {α : Type} (f : Nat → α) (i : Nat) (x : α) (j : Nat) (h : j ≠ i) : upd f i x j = f j := Lp.upd_other f x h
theorem BegS.app0 {v' : Value} (h : BegS w B n k v gr cr A b c) (ht : Turned w w' (v 0) v') (ho : OwnL w' v' 3 (k 0 + 1) (pInt fun j => n + j)) (hB : B ≤ w.heap.size) : BegS w' B n (upd k 0 (k 0 + 1)) (upd v 0 v') gr cr A b c := by
 obtain ⟨xs, hxs, _⟩ := h.o0;have he : 3 ≠ 160 := by decide
 obtain ⟨g1, g2, g3⟩ := h.grow ht hB (fun g hg => ho.lt hg) h.rowlt;exact ⟨ho, h.o1.turned ht (h.apart' (by decide)), h.o2.turned ht hxs he (h.apart' (by decide)), h.o3.turned ht (h.apart' (by decide)), h.o4.turned ht hxs he (h.apart' (by decide)), fun hn j hj => (h.rows hn j hj).turned ht hxs he (h.ar hn 0 j hj), g1, g2, h.rr, g3, h.lr⟩
theorem BegS.app1 {v' : Value} (h : BegS w B n k v gr cr A b c) (ht : Turned w w' (v 1) v') (ho : OwnL w' v' 3 (k 1 + 1) (pInt fun j => j)) (hB : B ≤ w.heap.size) : BegS w' B n (upd k 1 (k 1 + 1)) (upd v 1 v') gr cr A b c := by
 obtain ⟨xs, hxs, _⟩ := h.o1;have he : 3 ≠ 160 := by decide
 obtain ⟨g1, g2, g3⟩ := h.grow ht hB (fun g hg => ho.lt hg) h.rowlt;exact ⟨h.o0.turned ht (h.apart' (by decide)), ho, h.o2.turned ht hxs he (h.apart' (by decide)), h.o3.turned ht (h.apart' (by decide)), h.o4.turned ht hxs he (h.apart' (by decide)), fun hn j hj => (h.rows hn j hj).turned ht hxs he (h.ar hn 1 j hj), g1, g2, h.rr, g3, h.lr⟩
theorem BegS.app2 {v' : Value} (h : BegS w B n k v gr cr A b c) (ht : Turned w w' (v 2) v') (ho : OwnQ w' v' (k 2 + 1) b) (hB : B ≤ w.heap.size) : BegS w' B n (upd k 2 (k 2 + 1)) (upd v 2 v') gr cr A b c := by
 obtain ⟨xs, hxs, _⟩ := h.o2;obtain ⟨g1, g2, g3⟩ := h.grow ht hB (fun g hg => ho.lt hg) h.rowlt;exact ⟨h.o0.turned ht (h.apart' (by decide)), h.o1.turned ht (h.apart' (by decide)), ho, h.o3.turned ht (h.apart' (by decide)), h.o4.turned ht hxs ne_rat (h.apart' (by decide)), fun hn j hj => (h.rows hn j hj).turned ht hxs ne_rat (h.ar hn 2 j hj), g1, g2, h.rr, g3, h.lr⟩
theorem BegS.app4 {v' : Value} (h : BegS w B n k v gr cr A b c) (ht : Turned w w' (v 4) v') (ho : OwnQ w' v' (k 4 + 1) (fun j => -(c j))) (hB : B ≤ w.heap.size) : BegS w' B n (upd k 4 (k 4 + 1)) (upd v 4 v') gr cr A b c := by
 obtain ⟨xs, hxs, _⟩ := h.o4;obtain ⟨g1, g2, g3⟩ := h.grow ht hB (fun g hg => ho.lt hg) h.rowlt;exact ⟨h.o0.turned ht (h.apart' (by decide)), h.o1.turned ht (h.apart' (by decide)), h.o2.turned ht hxs ne_rat (h.apart' (by decide)), h.o3.turned ht (h.apart' (by decide)), ho, fun hn j hj => (h.rows hn j hj).turned ht hxs ne_rat (h.ar hn 4 j hj), g1, g2, h.rr, g3, h.lr⟩
theorem BegS.place {g x : Nat} (h : BegS w B n k v gr cr A b c) : BegS w B n k v (upd gr (k 3) g) (upd cr (k 3) x) A b c := by
 have e : ∀ {α : Type} (f : Nat → α) (y : α) j, j < k 3 → upd f (k 3) y j = f j := fun f y j hj => Lp.upd_other f y (by omega)
 refine ⟨h.o0, h.o1, h.o2, h.o3.congr (fun j hj u hu => ?_), h.o4, fun hn j hj => by rw [e gr g j hj]; exact h.rows hn j hj, h.ap, fun hn i j hj => by rw [e gr g j hj]; exact h.ar hn i j hj, fun hn i j hi hj => by rw [e gr g j hj, e gr g i hi]; exact h.rr hn i j hi hj, h.lo, fun hn j hj => by rw [e gr g j hj]; exact h.lr hn j hj⟩;unfold pRow at *;rw [e gr g j hj, e cr x j hj]; exact hu
theorem BegS.app3 {v' : Value} (h : BegS w B n k v gr cr A b c) (ht : Turned w w' (v 3) v') (ho : OwnL w' v' 95 (k 3 + 1) (pRow n gr cr)) (hB : B ≤ w.heap.size)
  (hrow : 0 < n → RB w (gr (k 3)) n (A (k 3))) (hlr : 0 < n → B ≤ gr (k 3)) (har : 0 < n → ∀ i, (v i).ownBlock ≠ some (gr (k 3))) (hrr : 0 < n → ∀ j, j < k 3 → gr j ≠ gr (k 3)) : BegS w' B n (upd k 3 (k 3 + 1)) (upd v 3 v') gr cr A b c := by
 obtain ⟨xs, hxs, _⟩ := h.o3;have he : 95 ≠ 160 := by decide
 obtain ⟨g1, g2, g3⟩ := h.grow ht hB (fun g hg => ho.lt hg) h.rowlt;have hk : upd k 3 (k 3 + 1) 3 = k 3 + 1 := rfl;have last : ∀ j, j < k 3 + 1 → j < k 3 ∨ j = k 3 := fun j hj => by omega
 refine ⟨h.o0.turned ht (h.apart' (by decide)), h.o1.turned ht (h.apart' (by decide)), h.o2.turned ht hxs he (h.apart' (by decide)), ho, h.o4.turned ht hxs he (h.apart' (by decide)), fun hn j hj => ?_, g1, fun hn i j hj => ?_, fun hn i j hi hj => ?_, g3, fun hn j hj => ?_⟩
 ·rw [hk] at hj
  rcases last j hj with hj | rfl
  ·exact (h.rows hn j hj).turned ht hxs he (h.ar hn 3 j hj)
  ·exact (hrow hn).turned ht hxs he (har hn 3)
 ·rw [hk] at hj
  rcases last j hj with hj | rfl
  ·exact g2 hn i j hj
  ·by_cases e : i = 3
   ·subst e; rw [Lp.upd_same]; exact ht.apart (hrow hn).lt (har hn 3)
   ·rw [Lp.upd_other _ _ e]; exact har hn i
 ·rw [hk] at hi hj;intro e
  rcases last i hi with hi | rfl <;> rcases last j hj with hj | rfl
  ·exact h.rr hn i j hi hj e
  ·exact absurd e (hrr hn i hi)
  ·exact absurd e.symm (hrr hn j hj)
  ·rfl
 ·rw [hk] at hj
  rcases last j hj with hj | rfl
  ·exact h.lr hn j hj
  ·exact hlr hn
theorem BegS.tabl {m gt c0 c1 c2 c3 c4 : Nat} {A0 A1 A2 A3 A4 : Option Addr} (h : BegS w B n k v gr cr A b c) (hk : k 0 = m ∧ k 1 = n ∧ k 2 = m ∧ k 3 = m ∧ k 4 = n)
  (hv : v 0 = .slice A0 m c0 ∧ v 1 = .slice A1 n c1 ∧ v 2 = .slice A2 m c2 ∧ v 3 = .slice A3 m c3 ∧ v 4 = .slice A4 n c4) (hgt : gt < B)
  (hr : Row w gt 148 [.int .i64 (n : Nat), .slice A0 m c0, .slice A1 n c1, .slice A2 m c2, .slice A3 m c3, .slice A4 n c4, .bool false, .slice none 0 0, .bool false, .slice none 0 0]) :
  ∃ L : Lay, L.gt = gt ∧ Tabl w L m n (Dict.init n A b c) ∧ ∀ k, L.blocks m k → gt ≤ k := by
 obtain ⟨k0, k1, k2, k3, k4⟩ := hk;obtain ⟨v0, v1, v2, v3, v4⟩ := hv;have o0 := h.o0;have o1 := h.o1;have o2 := h.o2;have o3 := h.o3;have o4 := h.o4;have hap := h.ap;have har := h.ar;have hlo := h.lo;rw [k0] at o0;rw [k1] at o1;rw [k2] at o2;rw [k3] at o3;rw [k4] at o4;obtain ⟨bl, hbl⟩ : ∃ bl : Option Addr → Nat, bl = fun A => (A.map (·.block)).getD gt := ⟨_, rfl⟩
 have b1 : ∀ g, bl (some ⟨g, 0, none⟩) = g := fun g => by rw [hbl]; rfl
 have bge : ∀ i X l x, v i = .slice X l x → gt ≤ bl X := by
  intro i X l x e;rw [hbl];cases X with
  | none => exact Nat.le_refl _
  | some a =>
   have := (hlo i a.block (by rw [e]; rfl)).1;show gt ≤ a.block;omega
 obtain ⟨gr', hgr'⟩ : ∃ gr' : Nat → Nat, gr' = if 0 < n then gr else fun _ => gt := ⟨_, rfl⟩
 have hgp : 0 < n → gr' = gr := fun hn => by rw [hgr', if_pos hn]
 have own : ∀ i X l x g, v i = .slice X l x → X = some ⟨g, 0, none⟩ → (v i).ownBlock = some g := fun i X l x g e e' => by rw [e, e']; rfl
 refine ⟨⟨gt, bl A0, bl A1, bl A2, bl A3, bl A4, gr', cr, c0, c1, c2, c3, c4, A0, A1, A2, A3, A4⟩, rfl, ?_, ?_⟩
 ·have d0 := fun hm : 0 < m => o0.done hm
  have d1 := fun hn : 0 < n => o1.done hn
  have d2 := fun hm : 0 < m => o2.done hm
  have d3 := fun hm : 0 < m => o3.done hm
  have d4 := fun hn : 0 < n => o4.done hn
  rw [v0] at d0;rw [v1] at d1;rw [v2] at d2;rw [v3] at d3;rw [v4] at d4;refine ⟨⟨false, none, 0, 0, false, none, 0, 0, hr, IsRat.zero_ w⟩, fun hm => ?_, fun hn => ?_, fun hm => ?_, fun hn => ?_, fun hm => ?_, fun hn => ?_, fun hm => ?_, fun hn r hrm => ?_, fun hm hn => ?_, fun hm hn => ?_, fun hn r hrm => ?_, fun hn r s hr' hs => ?_⟩
  ·obtain ⟨g, x, cs, e, _⟩ := d0 hm;obtain ⟨g2, x2, e2, _⟩ := d2 hm;obtain ⟨g3, x3, cs3, e3, _⟩ := d3 hm;simp only [Value.slice.injEq, true_and] at e e2 e3;simp only [];rw [e.1, e2.1, e3.1, b1, b1, b1];exact ⟨rfl, rfl, rfl⟩
  ·obtain ⟨g, x, cs, e, _⟩ := d1 hn;obtain ⟨g2, x2, e2, _⟩ := d4 hn;simp only [Value.slice.injEq, true_and] at e e2;simp only [];rw [e.1, e2.1, b1, b1];exact ⟨rfl, rfl⟩
  ·obtain ⟨g, x, cs, e, hrow, hl, hc⟩ := d0 hm;simp only [Value.slice.injEq, true_and] at e;simp only [];rw [e.1, b1];refine ⟨cs, hrow, hl, fun j hj => ?_⟩;obtain ⟨u, h1, h2⟩ := hc j hj;rw [h1]; unfold pInt at h2; rw [h2]; rfl
  ·obtain ⟨g, x, cs, e, hrow, hl, hc⟩ := d1 hn;simp only [Value.slice.injEq, true_and] at e;simp only [];rw [e.1, b1];refine ⟨cs, hrow, hl, fun j hj => ?_⟩;obtain ⟨u, h1, h2⟩ := hc j hj;rw [h1]; unfold pInt at h2; rw [h2]; rfl
  ·obtain ⟨g, x, e, hrb⟩ := d2 hm;simp only [Value.slice.injEq, true_and] at e;simp only [];rw [e.1, b1]; exact hrb
  ·obtain ⟨g, x, e, hrb⟩ := d4 hn;simp only [Value.slice.injEq, true_and] at e;simp only [];rw [e.1, b1]; exact hrb
  ·obtain ⟨g, x, cs, e, hrow, hl, hc⟩ := d3 hm;simp only [Value.slice.injEq, true_and] at e;simp only [];rw [e.1, b1];refine ⟨cs, hrow, hl, fun j hj => ?_⟩;obtain ⟨u, h1, X, h2, h3⟩ := hc j hj;exact ⟨X, by rw [h1, h2], fun hn => by rw [hgp hn]; exact h3 hn⟩
  ·simp only [];rw [hgp hn]; exact h.rows hn r (by omega)
  ·obtain ⟨g, x, cs, e, _⟩ := d0 hm;obtain ⟨g2, x2, cs2, e2, _⟩ := d1 hn;simp only [Value.slice.injEq, true_and] at e e2;simp only [];rw [e.1, e2.1, b1, b1];intro e9;subst e9;exact hap 0 1 (by decide) g (own 0 _ _ _ g v0 e.1) (own 1 _ _ _ g v1 e2.1)
  ·obtain ⟨g, x, e, _⟩ := d2 hm;obtain ⟨g2, x2, e2, _⟩ := d4 hn;simp only [Value.slice.injEq, true_and] at e e2;simp only [];rw [e.1, e2.1, b1, b1];intro e9;subst e9;exact hap 2 4 (by decide) g (own 2 _ _ _ g v2 e.1) (own 4 _ _ _ g v4 e2.1)
  ·obtain ⟨g, x, e, _⟩ := d2 (by omega);obtain ⟨g2, x2, e2, _⟩ := d4 hn;simp only [Value.slice.injEq, true_and] at e e2;simp only [];rw [e.1, e2.1, b1, b1, hgp hn];exact ⟨fun e9 => har hn 2 r (by omega) (by rw [own 2 _ _ _ g v2 e.1, e9]), fun e9 => har hn 4 r (by omega) (by rw [own 4 _ _ _ g2 v4 e2.1, e9])⟩
  ·simp only [];rw [hgp hn]; exact h.rr hn r s (by omega) (by omega)
 ·intro kk hkk;unfold Lay.blocks at hkk;simp only [] at hkk
  rcases hkk with e | e | e | e | e | e | ⟨r, hrm, e⟩
  ·omega
  ·rw [e]; exact bge 0 _ _ _ v0
  ·rw [e]; exact bge 1 _ _ _ v1
  ·rw [e]; exact bge 2 _ _ _ v2
  ·rw [e]; exact bge 3 _ _ _ v3
  ·rw [e]; exact bge 4 _ _ _ v4
  ·rw [e, hgr'];split
   ·rename_i hn; have := h.lr hn r (by omega); omega
   ·exact Nat.le_refl _
end
def vs5 (a b c d e : Value) : Nat → Value
 | 0 => a
 | 1 => b
 | 2 => c
 | 3 => d
 | 4 => e
 | _ => .slice none 0 0
def ks5 (a b c d e : Nat) : Nat → Nat
 | 0 => a
 | 1 => b
 | 2 => c
 | 3 => d
 | 4 => e
 | _ => 0
section
variable (a b c d e x : Value) (ka kb kc kd ke kx : Nat)
theorem vs5_start : (fun _ => .slice none 0 0) = vs5 (.slice none 0 0) (.slice none 0 0) (.slice none 0 0) (.slice none 0 0) (.slice none 0 0) := by funext i; match i with | 0 | 1 | 2 | 3 | 4 | (_ + 5) => rfl
theorem ks5_start : (fun _ => 0) = ks5 0 0 0 0 0 := by funext i; match i with | 0 | 1 | 2 | 3 | 4 | (_ + 5) => rfl
theorem vs5_0 : upd (vs5 a b c d e) 0 x = vs5 x b c d e := by funext i; match i with | 0 | 1 | 2 | 3 | 4 | (_ + 5) => rfl
theorem vs5_1 : upd (vs5 a b c d e) 1 x = vs5 a x c d e := by funext i; match i with | 0 | 1 | 2 | 3 | 4 | (_ + 5) => rfl
theorem vs5_2 : upd (vs5 a b c d e) 2 x = vs5 a b x d e := by funext i; match i with | 0 | 1 | 2 | 3 | 4 | (_ + 5) => rfl
theorem vs5_3 : upd (vs5 a b c d e) 3 x = vs5 a b c x e := by funext i; match i with | 0 | 1 | 2 | 3 | 4 | (_ + 5) => rfl
theorem vs5_4 : upd (vs5 a b c d e) 4 x = vs5 a b c d x := by funext i; match i with | 0 | 1 | 2 | 3 | 4 | (_ + 5) => rfl
theorem ks5_0 : upd (ks5 ka kb kc kd ke) 0 kx = ks5 kx kb kc kd ke := by funext i; match i with | 0 | 1 | 2 | 3 | 4 | (_ + 5) => rfl
theorem ks5_1 : upd (ks5 ka kb kc kd ke) 1 kx = ks5 ka kx kc kd ke := by funext i; match i with | 0 | 1 | 2 | 3 | 4 | (_ + 5) => rfl
theorem ks5_2 : upd (ks5 ka kb kc kd ke) 2 kx = ks5 ka kb kx kd ke := by funext i; match i with | 0 | 1 | 2 | 3 | 4 | (_ + 5) => rfl
theorem ks5_3 : upd (ks5 ka kb kc kd ke) 3 kx = ks5 ka kb kc kx ke := by funext i; match i with | 0 | 1 | 2 | 3 | 4 | (_ + 5) => rfl
theorem ks5_4 : upd (ks5 ka kb kc kd ke) 4 kx = ks5 ka kb kc kd kx := by funext i; match i with | 0 | 1 | 2 | 3 | 4 | (_ + 5) => rfl
end
end
end Go.Proofs.YtdefghfjhgmpfaaGreatDoor
