/- Parts of this proof: Reads ParseM ShelfL ShortL QArith Copies. -/
import Derived.Test.YtdefghfjhgmpfaaGreatDoorQAS
import Derived.Test.YtdefghfjhgmpfaaGreatDoorProg
import Derived.Shelf.SlicesE.Clone
import Derived.Shelf.SlicesE.Equal
import Derived.Shelf.SlicesE.IndexFunc
import Derived.Test.YtdefghfjhgmpfaaGreatDoorQAV
import Derived.Test.YtdefghfjhgmpfaaGreatDoorQAL
import Derived.Test.YtdefghfjhgmpfaaGreatDoorQAT
import Derived.Test.YtdefghfjhgmpfaaGreatDoorQAU
import Derived.Test.YtdefghfjhgmpfaaGreatDoorQAR
namespace Go.Proofs.YtdefghfjhgmpfaaGreatDoor
section
open Go.RowKit
open Lp (RL upd Dict)
def ReadsR (B : Nat) (w' : World) (n : Nat) (s : Nat → ByteArray) (e : Ending) : Prop :=
 (∃ j, j < n ∧ (∀ i, i < j → rchk (s i).data.toList = 0) ∧ rchk (s j).data.toList ≠ 0 ∧ e = .returned (.tuple #[.slice none 0 0, .int .i64 (rchk (s j).data.toList : Nat)])) ∨
 ∃ g f, B ≤ g ∧ e = .returned (.tuple #[.slice (some ⟨g, 0, none⟩) n n, .int .i64 0]) ∧ RB w' g n f ∧ ∀ j, j < n → (s j).data.toList = qtxtL (f j)
set_option maxRecDepth 100000 in
set_option maxHeartbeats 3200000 in
theorem readx_walk (s : ByteArray) (w : World) (hs : s.size ≤ 65536) (hg : Glob w) :
  Calls Tryz.prog 84 #[.string s] w fun e w' => ReadR w' s.data.toList e ∧ Below w.heap.size w w' := by
 have HGL := lH hg;clear hg;obtain ⟨W, hW, RO, HB⟩ := eN1 w [.bool false, .slice none 0 0, .bool false, .slice none 0 0] 105;go_enter Tryz.func84, Tryz.ntmps84;go_wp2_with fail
 rw [← hW];clear hW;refine (read_walk s _ hs (HGL.out.below HB.out)).mono ?_;rintro e w1 ⟨hr, hb1⟩;replace RO := rW RO hb1;replace HB := bT HB hb1;clear hb1
 rcases hr with ⟨h0, rfl⟩ | ⟨q, v, h0, hl, rfl, hv⟩
 ·have H0 := lH h0;clear h0;obtain ⟨cc, hcc⟩ := eX (rchk s.data.toList);rw [← hcc];have HCC := lH hcc;clear hcc;obtain ⟨k0, f0, k1, f1, k2, f2, k3, f3⟩ := aF4 RO.out;have kl := RO.out.lt;go_wp2_with fail
  clear kl k0 f0 k1 f1 k2 f2 k3 f3;have RE := RO.out.put4 (x := .bool false) (y := .slice none 0 0) (z := .bool false) (u := .slice none 0 0);have hr := res_store4 RO.out (by decide) (Nat.le_refl _) HB.out (IsRat.zero_ _);obtain ⟨hv, hbe⟩ := hr;obtain ⟨wE, hwE⟩ := eX (((((w1.setCell ⟨w.heap.size, 0, none⟩ (.bool false)).setCell ⟨w.heap.size, 1, none⟩ (.slice none 0 0)).setCell ⟨w.heap.size, 2, none⟩ (.bool false)).setCell ⟨w.heap.size, 3, none⟩ (.slice none 0 0)));rw [← hwE] at RE hbe hv ⊢;have k0 := RE.at_ 0 rfl;have k1 := RE.at_ 1 rfl;have k2 := RE.at_ 2 rfl;have k3 := RE.at_ 3 rfl;refine bodyPost_ret (v := .tuple #[.agg #[.bool false, .slice none 0 0, .bool false, .slice none 0 0], .int .i64 (cc : Nat)]) (by simp [results, Tryz.results84, go_sem, k0, k1, k2, k3]) rfl ?_;exact ⟨.inl ⟨H0.out, by rw [HCC.out]⟩, hbe⟩
 ·obtain ⟨sv, Av, lv, cv, tv, Bv, mv, dv, rfl⟩ := hv.shape;have H0 := lH h0;have HL := lH hl;have HV := lH hv;clear h0 hl hv;obtain ⟨k0, f0, k1, f1, k2, f2, k3, f3⟩ := aF4 RO.out;have kl := RO.out.lt;go_wp2_with fail
  clear kl k0 f0 k1 f1 k2 f2 k3 f3;have RE := RO.out.put4 (x := .bool sv) (y := .slice Av lv cv) (z := .bool tv) (u := .slice Bv mv dv);have hr := res_store4 RO.out (by decide) (Nat.le_refl _) HB.out HV.out;obtain ⟨hv, hbe⟩ := hr;obtain ⟨wE, hwE⟩ := eX (((((w1.setCell ⟨w.heap.size, 0, none⟩ (.bool sv)).setCell ⟨w.heap.size, 1, none⟩ (.slice Av lv cv)).setCell ⟨w.heap.size, 2, none⟩ (.bool tv)).setCell ⟨w.heap.size, 3, none⟩ (.slice Bv mv dv)));rw [← hwE] at RE hbe hv ⊢;have k0 := RE.at_ 0 rfl;have k1 := RE.at_ 1 rfl;have k2 := RE.at_ 2 rfl;have k3 := RE.at_ 3 rfl;refine bodyPost_ret (v := .tuple #[.agg #[.bool sv, .slice Av lv cv, .bool tv, .slice Bv mv dv], .int .i64 0]) (by simp [results, Tryz.results84, go_sem, k0, k1, k2, k3]) rfl ?_;exact ⟨.inr ⟨q, _, H0.out, HL.out, rfl, hv⟩, hbe⟩
set_option maxRecDepth 100000 in
set_option maxHeartbeats 6400000 in
theorem all_walk (va : Value) (n : Nat) (s : Nat → ByteArray) (w : World) (ha : TS w va n s) (hn : n ≤ 1000000000) (hs : ∀ j, j < n → (s j).size ≤ 65536) (hg : Glob w) :
  Calls Tryz.prog 118 #[va, .func (.func 84) #[] #[]] w fun e w' => ReadsR w.heap.size w' n s e ∧ Below w.heap.size w w' := by
 obtain ⟨A, c, rfl, hca, hcm⟩ := ha.shape;have HA := lH ha;have HS := lH hs;have HGL := lH hg;clear ha hs hg;go_enter Tryz.func118, Tryz.ntmps118
 go_wp2_with (at_make; refine wpList_mkR _ rfl (.tmp 11) (.tmp 11) rfl _ _ n rfl rfl rfl rfl (by omega) ?_)
 intro w1 hrb hb1 hs1;have BG0 := lH hrb;have HB0 := lH hb1;clear hrb hb1 hs1;go_wp2_with fail
 go_loopw [15] (fun iv wr => ∃ (k : Nat) (f : Nat → Rat), k ≤ n ∧ iv = .int .i64 k ∧ Hid (∀ j, j < k → (s j).data.toList = qtxtL (f j)) ∧ RB wr w.heap.size n f ∧ Below w.heap.size w wr)
  (fun iv _ => n - (intOf iv).toNat)
 case atStart => exact ⟨0, _, Nat.zero_le _, rfl, lH (fun j hj => absurd hj (by omega)), BG0.out, HB0.out⟩
 case round =>
  clear BG0 HB0;obtain ⟨k, f, hk, rfl, hf, hbg, hbw⟩ := hrel;have HF := lH hf.out;have BG := lH hbg;have HB := lH hbw;clear hf hbg hbw;by_cases hkn : ((k : Nat) : Int) < (n : Nat)
  ·have hkn1 : k < n := by omega
   obtain ⟨gA, oA, rfl, hcs⟩ := HA.out.at_ (by omega);have kc := cell_below HB.out (hcs k hkn1);have kcl := cell_lt kc;clear hcs;go_wp2_with fail
   clear kc kcl;refine (readx_walk (s k) _ (HS.out k hkn1) (HGL.out.below HB.out)).mono ?_;rintro e w2 ⟨hr, hb2⟩;replace BG := lH (BG.out.below hb2);replace HB := bT HB hb2;clear hb2;obtain ⟨sy, Ay, ly, cy, ty, By, my, dy, hQy, hvy⟩ := BG.out.quad hkn1;obtain ⟨kq0, kq1, kq2, kq3⟩ := hQy;have kql := BG.out.lt;have kf0 := BG.out.free (k * 4);have kf1 := BG.out.free (k * 4 + 1);have kf2 := BG.out.free (k * 4 + 2);have kf3 := BG.out.free (k * 4 + 3);clear hvy
   rcases hr with ⟨h0, rfl⟩ | ⟨q, v, h0, hl, rfl, hv⟩
   ·have H0 := lH h0;obtain ⟨cc, hcc⟩ := eX (rchk (s k).data.toList);rw [← hcc];have hc0 : cc ≠ 0 := by rw [hcc]; exact h0
    have hci : ¬ ((cc : Nat) : Int) = 0 := by omega
    have hcd : (((cc : Nat) : Int) != 0) = true := by simpa using hci
    have HCC := lH hcc;clear hcc h0 hc0;have hg := grownBy_set4 w2 w.heap.size (k * 4) (k * 4 + 1) (k * 4 + 2) (k * 4 + 3) (.bool false) (.slice none 0 0) (.bool false) (.slice none 0 0);have HBE := lH (HB.out.grown hg HB.out.size (by first | (simp; done) | (simp; omega)));clear hg;go_wp2_with fail
    clear kq0 kq1 kq2 kq3 kql kf0 kf1 kf2 kf3;go_returns;exact ⟨.inl ⟨k, hkn1, fun i hi => by rw [HF.out i hi]; exact rchk_qtxt _, H0.out, by rw [HCC.out]; rfl⟩, HBE.out⟩
   ·obtain ⟨sv, Av, lv, cv, tv, Bv, mv, dv, rfl⟩ := hv.shape;have HL := lH hl;have BN := lH (BG.out.set hkn1 hv);have hg := grownBy_set4 w2 w.heap.size (k * 4) (k * 4 + 1) (k * 4 + 2) (k * 4 + 3) (.bool sv) (.slice Av lv cv) (.bool tv) (.slice Bv mv dv);have HBE := lH (HB.out.grown hg HB.out.size (by first | (simp; done) | (simp; omega)));clear hg h0 hl hv;go_wp2_with fail
    clear kq0 kq1 kq2 kq3 kql kf0 kf1 kf2 kf3;go_roundw
    case rel =>
     refine ⟨k + 1, upd f k q, by omega, by simp, lH (fun j hj => ?_), BN.out, HBE.out⟩;by_cases e : j = k
     ·subst e; rw [Lp.upd_same]; exact HL.out
     ·rw [Lp.upd_other _ _ e]; exact HF.out j (by omega)
    case measure => first | (simp [intOf]; done) | (simp [intOf]; omega)
  ·obtain rfl : n = k := by omega
   go_wp2_with fail
   go_returns;exact ⟨.inr ⟨_, f, Nat.le_refl _, rfl, BG.out, HF.out⟩, HB.out⟩
set_option maxRecDepth 100000 in
set_option maxHeartbeats 3200000 in
theorem reads_walk (va : Value) (n : Nat) (s : Nat → ByteArray) (w : World) (ha : TS w va n s) (hn : n ≤ 1000000000) (hs : ∀ j, j < n → (s j).size ≤ 65536) (hg : Glob w) :
  Calls Tryz.prog 82 #[va] w fun e w' => ReadsR w.heap.size w' n s e ∧ Below w.heap.size w w' := by
 have HALL := lH (all_walk va n s w ha hn hs hg);clear ha hs hg;go_enter Tryz.func82, Tryz.ntmps82;go_wp2_with fail
 refine HALL.out.mono ?_;rintro e w1 ⟨hr, hb⟩;have HB := lH hb;clear hb
 rcases hr with ⟨j, hj, h1, h2, rfl⟩ | ⟨g, f, h0, rfl, h1, h2⟩
 ·have H1 := lH h1;have H2 := lH h2;obtain ⟨cc, hcc⟩ := eX (rchk (s j).data.toList);rw [← hcc];have HCC := lH hcc;clear hcc h1 h2;go_wp2_with fail
  go_returns;exact ⟨.inl ⟨j, hj, H1.out, H2.out, by rw [← HCC.out]; rfl⟩, HB.out⟩
 ·have H1 := lH h1;have H2 := lH h2;clear h1 h2;go_wp2_with fail
  go_returns;exact ⟨.inr ⟨g, f, h0, rfl, H1.out, H2.out⟩, HB.out⟩
end
section
open Go.RowKit
open Lp (RL upd Dict)
def firstE : Nat → (Nat → Nat) → Nat
 | 0, _ => 0
 | n + 1, e => if firstE n e ≠ 0 then firstE n e else e n
theorem firstE_zero {n : Nat} {e : Nat → Nat} : firstE n e = 0 ↔ ∀ j, j < n → e j = 0 := by
 induction n with
 | zero => exact ⟨fun _ j hj => absurd hj (by omega), fun _ => rfl⟩
 | succ n ih =>
  show (if firstE n e ≠ 0 then firstE n e else e n) = 0 ↔ _;by_cases h : firstE n e = 0
  ·rw [if_neg (by simpa using h)];exact ⟨fun h2 j hj => by by_cases hjn : j = n; subst hjn; exact h2; exact ih.1 h j (by omega), fun h2 => h2 n (by omega)⟩
  ·rw [if_pos h];exact ⟨fun h2 => absurd h2 h, fun h2 => absurd (ih.2 fun j hj => h2 j (by omega)) h⟩
theorem firstE_at {n j : Nat} {e : Nat → Nat} (hj : j < n) (h1 : ∀ i, i < j → e i = 0) (h2 : e j ≠ 0) : firstE n e = e j := by
 induction n with
 | zero => omega
 | succ n ih =>
  show (if firstE n e ≠ 0 then firstE n e else e n) = _;by_cases h : j = n
  ·subst h;rw [if_neg (by simpa using firstE_zero.2 h1)]
  ·have h3 := ih (by omega);rw [if_pos (by rw [h3]; exact h2), h3]
def sE (s : ByteArray) : Nat := rchk s.data.toList
theorem readsR_first {B : Nat} {w : World} {n : Nat} {s : Nat → ByteArray} {e : Ending} (h : ReadsR B w n s e) :
  (firstE n (fun j => sE (s j)) ≠ 0 ∧ e = .returned (.tuple #[.slice none 0 0, .int .i64 (firstE n (fun j => sE (s j)) : Nat)])) ∨
  (firstE n (fun j => sE (s j)) = 0 ∧ ∃ g f, B ≤ g ∧ e = .returned (.tuple #[.slice (some ⟨g, 0, none⟩) n n, .int .i64 0]) ∧ RB w g n f ∧ ∀ j, j < n → (s j).data.toList = qtxtL (f j)) := by
 rcases h with ⟨j, hj, h1, h2, he⟩ | ⟨g, f, h0, he, hb, hf⟩
 ·have h3 := firstE_at (e := fun j => sE (s j)) hj h1 h2;exact .inl ⟨by rw [h3]; exact h2, by rw [h3]; exact he⟩
 ·exact .inr ⟨firstE_zero.2 fun j hj => by show rchk _ = 0; rw [hf j hj]; exact rchk_qtxt _, g, f, h0, he, hb, hf⟩
def rowE (n : Nat) (t : Nat → ByteArray) (b : ByteArray) : Nat := if firstE n (fun j => sE (t j)) ≠ 0 then firstE n (fun j => sE (t j)) else sE b
def progE (n m : Nat) (k : Nat → Nat) (o : Nat → ByteArray) (t : Nat → Nat → ByteArray) (b : Nat → ByteArray) : Nat :=
 if 96 < n ∨ 256 < m then 6 else if ¬ (∀ i, i < m → k i = n) then 13 else
  if firstE n (fun j => sE (o j)) ≠ 0 then firstE n (fun j => sE (o j)) else firstE m (fun i => rowE n (t i) (b i))
structure ProgIs (n m : Nat) (o : Nat → ByteArray) (t : Nat → Nat → ByteArray) (b : Nat → ByteArray) (A : Nat → Nat → Rat) (bq c : Nat → Rat) : Prop where
 obj : ∀ j, j < n → (o j).data.toList = qtxtL (c j)
 rows : ∀ i, i < m → ∀ j, j < n → (t i j).data.toList = qtxtL (A i j)
 bounds : ∀ i, i < m → (b i).data.toList = qtxtL (bq i)
def RowsIn (w : World) (v : Value) (m : Nat) : Prop := m = 0 ∨ ∃ g c cs, v = .slice (some ⟨g, 0, none⟩) m c ∧ Row w g 95 cs
def ParseR (w' : World) (n m : Nat) (k : Nat → Nat) (o : Nat → ByteArray) (t : Nat → Nat → ByteArray) (b : Nat → ByteArray) (e : Ending) : Prop :=
 (progE n m k o t b ≠ 0 ∧ e = .returned (.tuple #[.agg #[.slice none 0 0, .slice none 0 0, .slice none 0 0], .int .i64 (progE n m k o t b : Nat)])) ∨
 (progE n m k o t b = 0 ∧ ∃ AC AR AD cC cR cD A bq c, e = .returned (.tuple #[.agg #[.slice AC n cC, .slice AR m cR, .slice AD m cD], .int .i64 0]) ∧
  IsRats w' (.slice AC n cC) n c ∧ IsRows w' (.slice AR m cR) m n A ∧ IsRats w' (.slice AD m cD) m bq ∧ ProgIs n m o t b A bq c ∧ RowsIn w' (.slice AR m cR) m)
end
section
open Go.RowKit Go.Lib
def layC_ren : Go.Shelf.Ren := ⟨fun | 41 => 29 | n => n, fun | 22 => 22 | 23 => 30 | n => n, fun | n => n⟩
theorem layC : Go.Proofs.SlLaysE0.n41 Tryz.prog layC_ren := {
 mixed := by kernel_rfl
 f41 := ⟨Tryz.f29.name, by decide, Tryz.func29.trans (congrArg some (by kernel_rfl))⟩
 t4 := Tryz.underlying4
 a4 := Tryz.isAgg4
 z4 := Tryz.sizeOf4
 v4 := Tryz.zeroValue4
 t22 := Tryz.underlying22
 a22 := Tryz.isAgg22
 z22 := Tryz.sizeOf22
 v22 := Tryz.zeroValue22 }
theorem infoNc : (Tryz.prog.info? 30).map (fun i => (i.zero, i.size, i.bytes)) = some (some (.string ⟨#[]⟩), 1, 16) := by kernel_rfl
theorem clone_some (b off n c : Nat) (news : List Value) (w : World) (hl : news.length = n) (hn : n ≤ 1000000000) (hc : ∀ j u, news[j]? = some u → w.cell? ⟨b, off + j, none⟩ = some u) (h1 : ∀ u ∈ news, u.oneCell' = true) :
  Calls Tryz.prog 29 #[.slice (some ⟨b, off, none⟩) n c] w fun e w' => ∃ v', e = .returned v' ∧ w'.ownsRow w.heap.size 30 1 v' n news ∧ v' ≠ .slice none 0 0 ∧ Below w.heap.size w w' := by
 obtain ⟨i, hi, h⟩ := Option.map_eq_some_iff.1 infoNc;simp only [Prod.mk.injEq] at h;obtain ⟨hz, hs, hb⟩ := h;exact AnyE.slices_Clone layC i _ 1 16 hi hz hs hb rfl (by decide) Tryz.sizeOf30 b off n c news w (by omega) (by unfold maxLen; omega) (by omega) hc h1
theorem clone_nil (n c : Nat) (w : World) : Calls Tryz.prog 29 #[.slice none n c] w fun e w' => e = .returned (.slice none 0 0) ∧ w' = w := AnyE.slices_Clone_nil layC n c w
def layE_ren : Go.Shelf.Ren := ⟨fun | 33 => 47 | n => n, fun | 22 => 22 | 23 => 30 | n => n, fun | n => n⟩
theorem layE : Go.Proofs.SlLaysE.n33 Tryz.prog layE_ren := {
 mixed := by kernel_rfl
 f33 := ⟨Tryz.f47.name, by decide, Tryz.func47.trans (congrArg some (by kernel_rfl))⟩
 t0 := Tryz.underlying0
 a0 := Tryz.isAgg0
 z0 := Tryz.sizeOf0
 v0 := Tryz.zeroValue0
 t3 := Tryz.underlying3
 a3 := Tryz.isAgg3
 z3 := Tryz.sizeOf3
 v3 := Tryz.zeroValue3
 t4 := Tryz.underlying4
 a4 := Tryz.isAgg4
 z4 := Tryz.sizeOf4
 v4 := Tryz.zeroValue4
 t22 := Tryz.underlying22
 a22 := Tryz.isAgg22
 z22 := Tryz.sizeOf22
 v22 := Tryz.zeroValue22
 a23 := Tryz.isAgg30
 z23 := Tryz.sizeOf30 }
theorem equal_some (b1 o1 n c b2 o2 m d : Nat) (xs ys : List ByteArray) (w : World) (hx : n ≤ xs.length) (hy : m ≤ ys.length) (hbig : n ≤ 9223372036854775807) (hbig2 : m ≤ 9223372036854775807) (hc1 : ∀ j, j < xs.length → w.cell? ⟨b1, o1 + j, none⟩ = some (.string xs[j]!)) (hc2 : ∀ j, j < ys.length → w.cell? ⟨b2, o2 + j, none⟩ = some (.string ys[j]!)) :
  Calls Tryz.prog 47 #[.slice (some ⟨b1, o1, none⟩) n c, .slice (some ⟨b2, o2, none⟩) m d] w fun e w' => e = .returned (.bool (Lib.allEq (fun x y => x.toList == y.toList) (xs.take n) (ys.take m))) ∧ ∃ q, w' = w.drewN q :=
 AnyE.slices_Equal layE Value.string _ (NeqAt.string _ _) b1 o1 n c b2 o2 m d xs ys w hx hy hbig hbig2 hc1 hc2
def layF_ren : Go.Shelf.Ren := ⟨fun | 6 => 117 | 8 => 80 | n => n, fun | 22 => 22 | 23 => 30 | 25 => 125 | n => n, fun | n => n⟩
theorem layF : Go.Proofs.SlLaysH.n8 Tryz.prog layF_ren := {
 mixed := by kernel_rfl
 f6 := ⟨Tryz.f117.name, by decide, Tryz.func117.trans (congrArg some (by kernel_rfl))⟩
 f8 := ⟨Tryz.f80.name, by decide, Tryz.func80.trans (congrArg some (by kernel_rfl))⟩
 t0 := Tryz.underlying0
 a0 := Tryz.isAgg0
 z0 := Tryz.sizeOf0
 v0 := Tryz.zeroValue0
 t3 := Tryz.underlying3
 a3 := Tryz.isAgg3
 z3 := Tryz.sizeOf3
 v3 := Tryz.zeroValue3
 t4 := Tryz.underlying4
 a4 := Tryz.isAgg4
 z4 := Tryz.sizeOf4
 v4 := Tryz.zeroValue4
 t22 := Tryz.underlying22
 a22 := Tryz.isAgg22
 z22 := Tryz.sizeOf22
 v22 := Tryz.zeroValue22
 a23 := Tryz.isAgg30
 z23 := Tryz.sizeOf30
 t25 := Tryz.underlying125
 a25 := Tryz.isAgg125
 z25 := Tryz.sizeOf125
 v25 := Tryz.zeroValue125 }
end
section
open Go.RowKit
open Lp (RL upd Dict)
theorem rnum_walk (s : ByteArray) (w : World) (hs : s.size ≤ 65536) : Calls Tryz.prog 31 #[.string s] w fun e w' => e = .returned (.int .i64 (sE s : Nat)) ∧ Below w.heap.size w w' := by
 have HW := lH (qcheck_walk s w hs);clear hs;go_enter Tryz.func31, Tryz.ntmps31;go_wp2_with fail
 refine HW.out.mono ?_;rintro e w1 ⟨rfl, hb⟩;have HB := lH hb;clear hb;go_wp2_with fail
 go_returns;exact ⟨rfl, HB.out⟩
set_option maxHeartbeats 1600000 in
theorem rnums_walk (va : Value) (n : Nat) (s : Nat → ByteArray) (w : World) (ha : TS w va n s) (hn : n ≤ 1000000000) (hs : ∀ j, j < n → (s j).size ≤ 65536) :
  Calls Tryz.prog 39 #[va] w fun e w' => e = .returned (.int .i64 (firstE n (fun j => sE (s j)) : Nat)) ∧ Below w.heap.size w w' := by
 obtain ⟨A, c, rfl, _, _⟩ := ha.shape;have HA := lH ha;have HS := lH hs;have hni : ((n : Nat) : Int) ≤ 1000000000 := by omega
 clear ha hs hn;obtain ⟨r, hr⟩ := eX (firstE n (fun j => sE (s j)));rw [← hr];have HR := lH hr;clear hr;go_enter Tryz.func39, Tryz.ntmps39;go_wp2_with fail
 go_loopw [3] (fun iv wr => ∃ k : Nat, ((k : Nat) : Int) ≤ ((n : Nat) : Int) ∧ iv = .int .i64 k ∧ Hid (∀ j, j < k → sE (s j) = 0) ∧ Below w.heap.size w wr)
  (fun iv _ => n - (intOf iv).toNat)
 case atStart => exact ⟨0, by omega, rfl, lH (fun j hj => absurd hj (by omega)), Below.refl _ _⟩
 case round =>
  obtain ⟨k, hk, rfl, hz, hb⟩ := hrel;have HZ := lH hz.out;have HB := lH hb;clear hz hb;by_cases hkn : ((k : Nat) : Int) < ((n : Nat) : Int)
  ·have hkn1 : k < n := by omega
   obtain ⟨gA, oA, rfl, hcs⟩ := HA.out.at_ (by omega);have kc := cell_below HB.out (hcs k hkn1);have kcl := cell_lt kc;clear hcs;go_wp2_with fail
   clear kc kcl;refine (rnum_walk (s k) _ (HS.out k hkn1)).mono ?_;rintro e w2 ⟨rfl, hb2⟩;replace HB := bT HB hb2;clear hb2;obtain ⟨cc, hcc⟩ := eX (sE (s k));rw [← hcc];have HCC := lH hcc;clear hcc;by_cases h0 : cc = 0
   ·have HS0 : Hid (sE (s k) = 0) := lH (by rw [← HCC.out]; exact h0);subst h0;go_wp2_with fail
    go_roundw
    case rel => exact ⟨k + 1, by omega, by go_num, lH (fun j hj => by by_cases e : j = k; subst e; exact HS0.out; exact HZ.out j (by omega)), HB.out⟩
    case measure => simp [intOf]; omega
   ·have hr1 : r = cc := by rw [HR.out, HCC.out]; exact firstE_at hkn1 (fun i hi => HZ.out i hi) (by rw [← HCC.out]; exact h0)
    have hci : ((cc : Nat) : Int) ≠ 0 := by omega
    have hcd : (((cc : Nat) : Int) != 0) = true := by simpa using hci
    have hcn : (cc != 0) = true := by simpa using h0
    clear h0;subst hr1;go_wp2_with fail
    go_returns;exact ⟨rfl, HB.out⟩
  ·have hkk : k = n := by omega
   have hr0 : r = 0 := by rw [HR.out, firstE_zero]; intro j hj; exact HZ.out j (by omega)
   clear hkk;subst hr0;go_wp2_with fail
   go_returns;exact ⟨rfl, HB.out⟩
def bigAny (n : Nat) (s : Nat → ByteArray) : Bool := ((List.range n).map s).any (fun x => decide (12 < x.size))
theorem bigAny_no {n : Nat} {s : Nat → ByteArray} : bigAny n s = false ↔ ∀ j, j < n → (s j).size ≤ 12 := by
 unfold bigAny;rw [List.any_eq_false];constructor
 ·intro h j hj;have := h (s j) (List.mem_map.2 ⟨j, List.mem_range.2 hj, rfl⟩);simp at this; exact this
 ·intro h x hx;obtain ⟨j, hj, rfl⟩ := List.mem_map.1 hx;have := h j (List.mem_range.1 hj);simp; exact this
theorem short1_walk (x : ByteArray) (w : World) : Calls Tryz.prog 81 #[.string x] w fun e w' => e = .returned (.bool (decide (12 < x.size))) ∧ ∃ q, w' = w.drewN q := by
 go_enter Tryz.func81, Tryz.ntmps81;go_wp2_with fail
 go_returns;exact ⟨by show Ending.returned (Value.bool (decide ((12 : Int) < ((x.size : Nat) : Int)))) = _; rw [show decide ((12 : Int) < ((x.size : Nat) : Int)) = decide (12 < x.size) from decide_eq_decide.2 (by omega)], 0, rfl⟩
theorem lcontains_walk (va : Value) (n : Nat) (s : Nat → ByteArray) (w : World) (ha : TS w va n s) (hn : n ≤ 1000000000) :
  Calls Tryz.prog 80 #[va, .func (.func 81) #[] #[]] w fun e w' => e = .returned (.bool (bigAny n s)) ∧ Below w.heap.size w w' := by
 obtain ⟨A, c, rfl, _, _⟩ := ha.shape
 rcases Nat.eq_zero_or_pos n with h0 | h0
 ·subst h0;refine (AnyE.slices_ContainsFunc_empty layF A c _ w).mono ?_;rintro e w' ⟨rfl, rfl⟩;exact ⟨rfl, Below.refl _ _⟩
 ·obtain ⟨g, o, rfl, hc⟩ := ha.at_ h0;refine (AnyE.slices_ContainsFunc layF Value.string (fun x => decide (12 < x.size)) 81 #[] (enters_of Tryz.func81 rfl rfl) g o n c ((List.range n).map s) w (fun W x _ => short1_walk x W) (by simp) (by omega) (fun j hj => ?_)).mono ?_
  ·have hj' : j < n := by simpa using hj
   rw [hc j hj'];simp [hj']
  ·rintro e w' ⟨rfl, q, rfl⟩;refine ⟨?_, below_drewN _ _ _⟩;unfold bigAny;rw [List.take_of_length_le (by simp)]
def TLs (w : World) (v : Value) (q : Nat) (k : Nat → Nat) (s : Nat → Nat → ByteArray) : Prop :=
 ∃ A c, v = .slice A q c ∧ q ≤ c ∧ c ≤ maxLen ∧ (q = 0 ∨ ∃ g o, A = some ⟨g, o, none⟩ ∧ ∀ i, i < q → ∃ u, w.cell? ⟨g, o + i, none⟩ = some u ∧ TS w u (k i) (s i))
theorem TLs.at_ {w : World} {A : Option Addr} {c q : Nat} {k : Nat → Nat} {s : Nat → Nat → ByteArray} (h : TLs w (.slice A q c) q k s) (hq : 0 < q) : ∃ g o, A = some ⟨g, o, none⟩ ∧ ∀ i, i < q → ∃ u, w.cell? ⟨g, o + i, none⟩ = some u ∧ TS w u (k i) (s i) := by
 obtain ⟨A', c', hv, _, _, h3⟩ := h;simp only [Value.slice.injEq, true_and] at hv;obtain ⟨rfl, rfl⟩ := hv
 rcases h3 with h3 | h3
 ·omega
 ·exact h3
theorem TLs.below {w w' : World} {v : Value} {q : Nat} {k : Nat → Nat} {s : Nat → Nat → ByteArray} (h : TLs w v q k s) (hb : Below w.heap.size w w') : TLs w' v q k s := by
 obtain ⟨A, c, hv, h1, h2, h3⟩ := h;refine ⟨A, c, hv, h1, h2, h3.imp id fun ⟨g, o, hA, hr⟩ => ⟨g, o, hA, fun i hi => ?_⟩⟩;obtain ⟨u, a1, a2⟩ := hr i hi;exact ⟨u, cell_below hb a1, a2.below hb⟩
def Shorts (most q : Nat) (k : Nat → Nat) (s : Nat → Nat → ByteArray) : Prop := ∀ i, i < q → k i ≤ most ∧ ∀ j, j < k i → (s i j).size ≤ 12
set_option maxHeartbeats 1600000 in
theorem lshort_walk (most : Nat) (v : Value) (q : Nat) (k : Nat → Nat) (s : Nat → Nat → ByteArray) (w : World) (h : TLs w v q k s) (hm : most ≤ 1000) (hq : q ≤ 1000000000) :
  Calls Tryz.prog 43 #[.int .i64 most, v] w fun e w' => ((Shorts most q k s ∧ e = .returned (.bool true)) ∨ (¬ Shorts most q k s ∧ e = .returned (.bool false))) ∧ Below w.heap.size w w' := by
 obtain ⟨A, c, rfl, _⟩ : ∃ A c, v = .slice A q c ∧ True := by obtain ⟨A, c, hv, _⟩ := h; exact ⟨A, c, hv, trivial⟩
 have HL := lH h;have HM := lH hm;clear h hm;go_enter Tryz.func43, Tryz.ntmps43;go_wp2_with fail
 go_loopw [9] (fun iv wr => ∃ p : Nat, ((p : Nat) : Int) ≤ ((q : Nat) : Int) ∧ iv = .int .i64 p ∧ Hid (Shorts most p k s) ∧ Below w.heap.size w wr)
  (fun iv _ => q - (intOf iv).toNat)
 case atStart => exact ⟨0, by omega, rfl, lH (fun i hi => absurd hi (by omega)), Below.refl _ _⟩
 case round =>
  obtain ⟨p, hp, rfl, hz, hb⟩ := hrel;have HZ := lH hz.out;have HB := lH hb;clear hz hb;by_cases hpq : ((p : Nat) : Int) < ((q : Nat) : Int)
  ·have hpq1 : p < q := by omega
   obtain ⟨gA, oA, rfl, hcs⟩ := HL.out.at_ (by omega);obtain ⟨u, hu, hts⟩ := hcs p hpq1;obtain ⟨X, x, rfl, _, _⟩ := hts.shape;have HTS := lH (hts.below HB.out);have kc := cell_below HB.out hu;have kcl := cell_lt kc;obtain ⟨kp, hkp⟩ := eX (k p);rw [← hkp] at kc HTS;have HKP := lH hkp;clear hcs hts hu hkp;by_cases hl : most < kp
   ·have hli : ((most : Nat) : Int) < ((kp : Nat) : Int) := by omega
    have HN : Hid (¬ Shorts most q k s) := lH (fun h => by have := (h p hpq1).1; rw [← HKP.out] at this; omega);clear hl;go_wp2_with fail
    go_returns;exact ⟨.inr ⟨HN.out, rfl⟩, HB.out⟩
   ·have hli : ((kp : Nat) : Int) ≤ ((most : Nat) : Int) := by omega
    have hld : decide (((most : Nat) : Int) < ((kp : Nat) : Int)) = false := decide_eq_false (by omega);have hln : decide (most < kp) = false := decide_eq_false hl;have HLE : Hid (kp ≤ most) := lH (by omega);clear hl;go_wp2_with fail
    clear kc kcl hli hld hln;refine (lcontains_walk _ kp (s p) _ HTS.out (by have := HLE.out; have := HM.out; omega)).mono ?_;rintro e w2 ⟨rfl, hb2⟩;replace HB := bT HB hb2;clear hb2;obtain ⟨t, ht⟩ := eX (bigAny kp (s p));rw [← ht];have HT := lH ht;clear ht;cases t
    ·have HS1 := lH (bigAny_no.1 HT.out.symm);go_wp2_with fail
     go_roundw
     case rel => exact ⟨p + 1, by omega, by go_num, lH (fun i hi => by by_cases e : i = p; subst e; rw [← HKP.out]; exact ⟨HLE.out, HS1.out⟩; exact HZ.out i (by omega)), HB.out⟩
     case measure => simp [intOf]; omega
    ·have HN : Hid (¬ Shorts most q k s) := lH (fun h => by have h2 := (h p hpq1).2; rw [← HKP.out] at h2; have := bigAny_no.2 h2; rw [← HT.out] at this; cases this);go_wp2_with fail
     go_returns;exact ⟨.inr ⟨HN.out, rfl⟩, HB.out⟩
  ·obtain rfl : p = q := by omega
   go_wp2_with fail
   go_returns;exact ⟨.inl ⟨HZ.out, rfl⟩, HB.out⟩
end
section
open Go.RowKit
open Lp (RL upd Dict)
theorem fewm_lim {a : Int} {k : Nat} (h : a.natAbs < 10 ^ k) (hk : k ≤ 1000000) : FewM a := by
 unfold FewM;have h1 := digsT_le a.natAbs;have h2 := dec_len_le k a.natAbs (Nat.lt_of_lt_of_le h (Nat.pow_le_pow_right (by decide) (by omega)));omega
theorem txt_len {a : Int} {k : Nat} (h : a.natAbs < 10 ^ k) : (txt a).size ≤ k + 2 := by
 have h2 := dec_len_le k a.natAbs (Nat.lt_of_lt_of_le h (Nat.pow_le_pow_right (by decide) (by omega)));rw [show (txt a).size = (Lib.itoa a).length by unfold txt; rfl];by_cases h' : a < 0
 ·rw [itoa_neg h', List.length_cons]; omega
 ·rw [itoa_nonneg' h']; omega
theorem qtxt_len {q : Rat} {k : Nat} (h : RL k q) : (qtxt q).size ≤ 2 * k + 5 := by
 have h1 := txt_len h.1;have h2 := txt_len (a := (q.den : Int)) (k := k) (by rw [Int.natAbs_natCast]; exact h.2);by_cases e : q.den = 1
 ·rw [qtxt_whole e]; omega
 ·rw [← qtxt_frac e, ByteArray.size_append, ByteArray.size_append];have : (⟨#[47]⟩ : ByteArray).size = 1 := rfl;omega
theorem partB_qtxt (q : Rat) : partB (qtxtL q) = Lib.itoa (q.den : Int) := by
 unfold partB;by_cases e : q.den = 1
 ·rw [if_pos (qcut_whole e).2, e]; exact itoa_one.symm
 ·obtain ⟨_, h2, h3⟩ := qcut_frac e;rw [if_neg (by rw [h2]; simp), h3, itoa_nonneg' (by omega), Int.natAbs_natCast]
theorem cutA_qtxt (q : Rat) : cutA (qtxtL q) = Lib.itoa q.num := by
 by_cases e : q.den = 1
 ·exact (qcut_whole e).1
 ·exact (qcut_frac e).1
theorem parts_q (q : Rat) (k : Nat) (w : World) (h : RL k q) (hk : k ≤ 1000000) : Calls Tryz.prog 58 #[.string (qtxt q)] w fun e w' => e = .returned (.tuple #[.string (txt q.num), .string (txt (q.den : Int))]) ∧ Below w.heap.size w w' := by
 refine (parts_walk (qtxt q) w (by have := qtxt_len h; omega)).mono ?_;rintro e w' ⟨a, b, rfl, ha, hb, hbw⟩;rw [qtxt_list] at ha hb;rw [txt_ba (ha.trans (cutA_qtxt q)), txt_ba (hb.trans (partB_qtxt q))];exact ⟨rfl, hbw⟩
set_option maxRecDepth 100000 in
set_option maxHeartbeats 3200000 in
theorem ttext_walk (p d : Int) (q : Rat) (k : Nat) (w : World) (hq : q = Rat.divInt p d) (hd : d ≠ 0) (hp : p.natAbs < 10 ^ k) (hdk : d.natAbs < 10 ^ k) (hk : k ≤ 1000000) :
  Calls Tryz.prog 59 #[.string (txt p), .string (txt d)] w fun e w' => e = .returned (.string (qtxt q)) ∧ Below w.heap.size w w' := by
 have HB : Hid (Below w.heap.size w w) := lH (Below.refl _ _);have hrl : RL k q := by rw [hq]; exact Lp.rl_divInt hd hp hdk
 have HRL := lH hrl;have HK := lH hk;have HFp := lH (fewm_lim hp hk);have HFd := lH (fewm_lim hdk hk);clear hp hdk hk hrl;go_enter Tryz.func59, Tryz.ntmps59;go_wp2_with fail
 refine (rsign_walk d _).mono ?_;rintro e w1 ⟨rfl, rfl⟩;by_cases hn : d < 0
 ·have hsg : sgI d < 0 := sgI_neg.2 hn;have HP0 : Hid (0 < -d) := lH (by omega);have HQ : Hid (Rat.divInt (-p) (-d) = q) := lH (by rw [hq]; exact red_neg p d);have HFP : Hid (FewM (-p)) := lH (by unfold FewM; rw [Int.natAbs_neg]; exact HFp.out);have HFD : Hid (FewM (-d)) := lH (by unfold FewM; rw [Int.natAbs_neg]; exact HFd.out);clear hn hd hq;go_wp2_with fail
  clear hsg;refine (rneg_walk p _ HFp.out.few).mono ?_;rintro e w9 ⟨rfl, hb⟩;replace HB := bT HB hb;clear hb;go_wp2_with fail
  refine (rneg_walk d _ HFd.out.few).mono ?_;rintro e w9 ⟨rfl, hb⟩;replace HB := bT HB hb;clear hb;go_wp2_with fail
  obtain ⟨P, hP⟩ := eX (-p);obtain ⟨D, hD⟩ := eX (-d);rw [← hP] at HQ HFP ⊢;rw [← hD] at HQ HFD HP0 ⊢;clear hP hD;refine (rgcd_walk P D _ HFP.out HFD.out).mono ?_;rintro e w2 ⟨rfl, hb⟩;replace HB := bT HB hb;clear hb;have HG : Hid (((Nat.gcd P.natAbs D.natAbs : Nat) : Int) ≠ 0 ∧ FewM ((Nat.gcd P.natAbs D.natAbs : Nat) : Int)) := lH ⟨by have := gcd_pos' P D HP0.out; omega, fewM_le HFD.out (gcd_le' P D HP0.out)⟩;have HN := lH (red_num P D HP0.out);have HD := lH (red_den P D HP0.out);obtain ⟨G, hG⟩ := eX (((Nat.gcd P.natAbs D.natAbs : Nat) : Int));rw [← hG] at HG HN HD ⊢;clear hG;go_wp2_with fail
  refine (rdivmod_walk P G _ HFP.out HG.out.2 HG.out.1).mono ?_;rintro e w3 ⟨rfl, hb⟩;replace HB := bT HB hb;clear hb;rw [HN.out];go_wp2_with fail
  refine (rdivmod_walk D G _ HFD.out HG.out.2 HG.out.1).mono ?_;rintro e w4 ⟨rfl, hb⟩;replace HB := bT HB hb;clear hb;rw [HD.out];rw [HQ.out];by_cases hden : q.den = 1
  ·obtain ⟨T, hT⟩ := eX (txt (q.den : Int));rw [← hT];have h1t : T.toList = [49] := by rw [hT, hden, ByteArray.toList_eq, txt_list]; exact itoa_one
   have h1b : (T.toList == [49]) = true := by rw [h1t]; rfl
   have HDE := lH hden;clear hT hden;go_wp2_with fail
   rw [← qtxt_whole HDE.out];go_returns;exact ⟨rfl, HB.out⟩
  ·obtain ⟨T, hT⟩ := eX (txt (q.den : Int));rw [← hT];have h1t : T.toList ≠ [49] := by rw [hT]; exact txt_ne1 hden
   have h1b : (T.toList == [49]) = false := by rw [beq_eq_false_iff_ne]; exact h1t
   obtain ⟨N, hN⟩ := eX (txt q.num);rw [← hN];have hs1 : N.size ≤ 1000002 := by rw [hN]; have := txt_len HRL.out.1; have := HK.out; omega
   have hs2 : T.size ≤ 1000002 := by rw [hT]; have := txt_len (a := (q.den : Int)) (by rw [Int.natAbs_natCast]; exact HRL.out.2); have := HK.out; omega
   have HE : Hid (N ++ ⟨#[47]⟩ ++ T = qtxt q) := lH (by rw [hN, hT]; exact qtxt_frac hden);have hs3 : (N ++ ⟨#[47]⟩).size ≤ 1000003 := by rw [ByteArray.size_append]; show N.size + 1 ≤ _; omega
   clear hT hN hden;go_wp2_with fail
   rw [HE.out];go_returns;exact ⟨rfl, HB.out⟩
 ·have hsg : 0 ≤ sgI d := by have := @sgI_neg d; omega
  have hsd : decide (sgI d < 0) = false := decide_eq_false (by omega);have HP0 : Hid (0 < d) := lH (by omega);have HQ : Hid (Rat.divInt p d = q) := lH hq.symm;have HFP := HFp;have HFD := HFd;clear hn hd hq;go_wp2_with fail
  clear hsg hsd;refine (rgcd_walk p d _ HFP.out HFD.out).mono ?_;rintro e w2 ⟨rfl, hb⟩;replace HB := bT HB hb;clear hb;have HG : Hid (((Nat.gcd p.natAbs d.natAbs : Nat) : Int) ≠ 0 ∧ FewM ((Nat.gcd p.natAbs d.natAbs : Nat) : Int)) := lH ⟨by have := gcd_pos' p d HP0.out; omega, fewM_le HFD.out (gcd_le' p d HP0.out)⟩;have HN := lH (red_num p d HP0.out);have HD := lH (red_den p d HP0.out);obtain ⟨G, hG⟩ := eX (((Nat.gcd p.natAbs d.natAbs : Nat) : Int));rw [← hG] at HG HN HD ⊢;clear hG;go_wp2_with fail
  refine (rdivmod_walk p G _ HFP.out HG.out.2 HG.out.1).mono ?_;rintro e w3 ⟨rfl, hb⟩;replace HB := bT HB hb;clear hb;rw [HN.out];go_wp2_with fail
  refine (rdivmod_walk d G _ HFD.out HG.out.2 HG.out.1).mono ?_;rintro e w4 ⟨rfl, hb⟩;replace HB := bT HB hb;clear hb;rw [HD.out];rw [HQ.out];by_cases hden : q.den = 1
  ·obtain ⟨T, hT⟩ := eX (txt (q.den : Int));rw [← hT];have h1t : T.toList = [49] := by rw [hT, hden, ByteArray.toList_eq, txt_list]; exact itoa_one
   have h1b : (T.toList == [49]) = true := by rw [h1t]; rfl
   have HDE := lH hden;clear hT hden;go_wp2_with fail
   rw [← qtxt_whole HDE.out];go_returns;exact ⟨rfl, HB.out⟩
  ·obtain ⟨T, hT⟩ := eX (txt (q.den : Int));rw [← hT];have h1t : T.toList ≠ [49] := by rw [hT]; exact txt_ne1 hden
   have h1b : (T.toList == [49]) = false := by rw [beq_eq_false_iff_ne]; exact h1t
   obtain ⟨N, hN⟩ := eX (txt q.num);rw [← hN];have hs1 : N.size ≤ 1000002 := by rw [hN]; have := txt_len HRL.out.1; have := HK.out; omega
   have hs2 : T.size ≤ 1000002 := by rw [hT]; have := txt_len (a := (q.den : Int)) (by rw [Int.natAbs_natCast]; exact HRL.out.2); have := HK.out; omega
   have HE : Hid (N ++ ⟨#[47]⟩ ++ T = qtxt q) := lH (by rw [hN, hT]; exact qtxt_frac hden);have hs3 : (N ++ ⟨#[47]⟩).size ≤ 1000003 := by rw [ByteArray.size_append]; show N.size + 1 ≤ _; omega
   clear hT hN hden;go_wp2_with fail
   rw [HE.out];go_returns;exact ⟨rfl, HB.out⟩
theorem neg_div (a : Rat) : -a = Rat.divInt (-a.num) (a.den : Int) := by
 conv => lhs; rw [← Rat.num_divInt_den a]
 rw [Rat.neg_divInt]
set_option maxRecDepth 100000 in
set_option maxHeartbeats 1600000 in
theorem tneg_walk (a : Rat) (k : Nat) (w : World) (ha : RL k a) (hk : 4 * k ≤ 1000000) :
  Calls Tryz.prog 21 #[.string (qtxt a)] w fun e w' => e = .returned (.string (qtxt (-a))) ∧ Below w.heap.size w w' := by
 have HB : Hid (Below w.heap.size w w) := lH (Below.refl _ _);have HA := lH ha;have HK := lH hk;clear ha hk;go_enter Tryz.func21, Tryz.ntmps21;go_wp2_with fail
 refine (parts_q a k _ HA.out (by have := HK.out; omega)).mono ?_;rintro e w9 ⟨rfl, hb⟩;replace HB := bT HB hb;clear hb;go_wp2_with fail
 refine (rneg_walk a.num _ (fewm_lim HA.out.limn (by have := HK.out; omega)).few).mono ?_;rintro e w9 ⟨rfl, hb⟩;replace HB := bT HB hb;clear hb;go_wp2_with fail
 refine (ttext_walk (-a.num) (a.den : Int) (-a) k _ (neg_div a) (by have := a.den_nz; omega) (by rw [Int.natAbs_neg]; exact HA.out.1) HA.out.limd (by have := HK.out; omega)).mono ?_;rintro e w9 ⟨rfl, hb⟩;replace HB := bT HB hb;clear hb;go_wp2_with fail
 go_returns;exact ⟨rfl, HB.out⟩
end
section
open Go.RowKit
open Lp (RL upd Dict)
def OwnS (w : World) (v : Value) (n : Nat) (s : Nat → ByteArray) : Prop := OwnL w v 30 n (fun j u => u = .string (s j))
theorem OwnS.ts {w : World} {v : Value} {n : Nat} {s : Nat → ByteArray} (h : OwnS w v n s) : TS w v n s := by
 obtain ⟨A, c, hv, h1, h2⟩ := OwnL.shape h;subst hv;refine ⟨A, c, rfl, h1, h2, ?_⟩
 rcases Nat.eq_zero_or_pos n with h0 | h0
 ·exact .inl h0
 ·obtain ⟨g, c2, cs, hv, hr, _, hc⟩ := OwnL.done h h0;simp only [Value.slice.injEq, true_and] at hv;refine .inr ⟨g, 0, hv.1, fun j hj => ?_⟩;obtain ⟨u, hu, rfl⟩ := hc j hj;rw [Nat.zero_add];exact hr.at_ j hu
theorem OwnS.nil (w : World) (s : Nat → ByteArray) : OwnS w (.slice none 0 0) 0 s := OwnL.nil _ _ _
def TSA (w : World) (v : Value) (n : Nat) (s : Nat → ByteArray) : Prop := TS w v n s ∧ ((v = .slice none 0 0 ∧ n = 0) ∨ ∃ g o c, v = .slice (some ⟨g, o, none⟩) n c)
theorem TSA.below {w w' : World} {v : Value} {n : Nat} {s : Nat → ByteArray} (h : TSA w v n s) (hb : Below w.heap.size w w') : TSA w' v n s := ⟨h.1.below hb, h.2⟩
theorem clone_walk (v : Value) (n : Nat) (s : Nat → ByteArray) (w : World) (h : TSA w v n s) (hn : n ≤ 1000000000) :
  Calls Tryz.prog 29 #[v] w fun e w' => ∃ v', e = .returned v' ∧ OwnS w' v' n s ∧ (∀ g, v'.ownBlock = some g → w.heap.size ≤ g) ∧ TSA w' v' n s ∧ Below w.heap.size w w' := by
 obtain ⟨ht, ⟨rfl, rfl⟩ | ⟨g, o, c, rfl⟩⟩ := h
 ·refine (clone_nil 0 0 w).mono ?_;rintro e w' ⟨rfl, rfl⟩;exact ⟨_, rfl, OwnS.nil _ _, fun g hg => by simp [Value.ownBlock] at hg, ⟨ht, .inl ⟨rfl, rfl⟩⟩, Below.refl _ _⟩
 ·have hc : ∀ (j : Nat) u, ((List.range n).map fun j => Value.string (s j))[j]? = some u → w.cell? ⟨g, o + j, none⟩ = some u := by
   intro j u hj
   have hj' : j < n := by
    have := (List.getElem?_eq_some_iff.1 hj).1
    simpa using this
   obtain ⟨g', o', hA, hcs⟩ := ht.at_ (by omega);simp only [Option.some.injEq, Addr.mk.injEq, and_true] at hA;obtain ⟨rfl, rfl⟩ := hA;rw [hcs j hj'];simp [hj'] at hj;rw [hj]
  refine (clone_some g o n c ((List.range n).map fun j => Value.string (s j)) w (by simp) hn hc (fun u hu => by obtain ⟨j, _, rfl⟩ := List.mem_map.1 hu; rfl)).mono ?_;rintro e w' ⟨v', rfl, ho, hne, hb⟩;have hos : OwnS w' v' n s := ⟨_, own_mono ho (Nat.zero_le _), fun j hj => ⟨_, by simp [hj], rfl⟩⟩;refine ⟨v', rfl, hos, fun g hg => (ho.lt g hg).1, ⟨hos.ts, ?_⟩, hb⟩
  rcases ho.2 with ⟨rfl, h0⟩ | ⟨g', cap, cur, rfl, _⟩
  ·exact absurd rfl hne
  ·exact .inr ⟨g', 0, cap, rfl⟩
theorem equal_same (v u : Value) (n : Nat) (s : Nat → ByteArray) (w : World) (hv : TS w v n s) (hu : TS w u n s) (hn : n ≤ 1000000000) :
  Calls Tryz.prog 47 #[v, u] w fun e w' => e = .returned (.bool true) ∧ Below w.heap.size w w' := by
 obtain ⟨A, c, rfl, _, _⟩ := hv.shape;obtain ⟨B, d, rfl, _, _⟩ := hu.shape
 rcases Nat.eq_zero_or_pos n with h0 | h0
 ·subst h0;clear hv hu hn;go_enter Tryz.func47, Tryz.ntmps47;go_wp2_with fail
  go_loopw [13] (fun iv wr => iv = .int .i64 0 ∧ wr = w) (fun _ _ => 0)
  case atStart => exact ⟨rfl, rfl⟩
  case round =>
   obtain ⟨rfl, rfl⟩ := hrel;go_wp2_with fail
   go_returns;exact ⟨rfl, Below.refl _ _⟩
 ·obtain ⟨g, o, rfl, hc⟩ := hv.at_ h0;obtain ⟨g', o', rfl, hd⟩ := hu.at_ h0;refine (equal_some g o n c g' o' n d ((List.range n).map s) ((List.range n).map s) w (by simp) (by simp) (by omega) (by omega) (fun j hj => ?_) (fun j hj => ?_)).mono ?_
  ·have hj' : j < n := by simpa using hj
   rw [hc j hj']; simp [hj']
  ·have hj' : j < n := by simpa using hj
   rw [hd j hj']; simp [hj']
  ·rintro e w' ⟨rfl, q, rfl⟩;refine ⟨?_, below_drewN _ _ _⟩;rw [Lib.allEq_all _ _ _ rfl (fun j _ => by simp)]
set_option maxRecDepth 100000 in
set_option maxHeartbeats 3200000 in
theorem negative_walk (v : Value) (n : Nat) (f : Nat → Rat) (k : Nat) (w : World) (h : TS w v n (fun j => qtxt (f j))) (hn : n ≤ 1000000000) (hl : ∀ j, j < n → RL k (f j)) (hk : 4 * k ≤ 1000000) :
  Calls Tryz.prog 30 #[v] w fun e w' => ∃ v', e = .returned v' ∧ OwnS w' v' n (fun j => qtxt (-(f j))) ∧ Below w.heap.size w w' := by
 obtain ⟨A, c, rfl, _, _⟩ := h.shape;obtain ⟨iN, hiN, hzN0, hzN1, hzN2⟩ := info_parts infoNc;have HA := lH h;have HL := lH hl;have HK := lH hk;clear h hl hk;go_enter Tryz.func30, Tryz.ntmps30;go_wp2_with fail
 go_loopw [3, 8] (fun ov iv wr => ∃ (q : Nat) (B : Option Addr) (d : Nat), q ≤ n ∧ ov = .slice B q d ∧ iv = .int .i64 q ∧ OwnS wr (.slice B q d) q (fun j => qtxt (-(f j))) ∧ Hid (∀ g, (Value.slice B q d).ownBlock = some g → w.heap.size ≤ g) ∧ Below w.heap.size w wr) (fun _ iv _ => n - (intOf iv).toNat)
 case atStart => exact ⟨0, none, 0, Nat.zero_le _, rfl, rfl, OwnS.nil _ _, lH (fun g hg => by simp [Value.ownBlock] at hg), Below.refl _ _⟩
 case round =>
  obtain ⟨q, B, d, hq, rfl, rfl, ho, hlo, hb⟩ := hrel;have HO := lH ho;have HLO := lH hlo.out;have HB := lH hb;clear ho hlo hb;by_cases hqn : ((q : Nat) : Int) < ((n : Nat) : Int)
  ·have hqn1 : q < n := by omega
   obtain ⟨gA, oA, rfl, hcs⟩ := HA.out.at_ (by omega);have kc := cell_below HB.out (hcs q hqn1);have kcl := cell_lt kc;clear hcs;go_wp2_with fail
   clear kc kcl;refine (tneg_walk (f q) k _ (HL.out q hqn1) HK.out).mono ?_;rintro e w2 ⟨rfl, hb2⟩;replace HO : Hid (OwnS w2 (.slice B q d) q (fun j => qtxt (-(f j)))) := lH (OwnL.below HO.out hb2);replace HB := bT HB hb2;clear hb2
   go_wp2_with (at_builtin; (refine wpList_plain rfl fun K hK => wp_appL _ (.tmp 12) (.tmp 15) 22 rfl 30 iN (.string ⟨#[]⟩) 16 Tryz.underlying22 hiN hzN0 hzN1 hzN2 rfl (.slice B q d) q _ rfl HO.out (.string (qtxt (-(f q)))) rfl rfl rfl ⟨by unfold maxLen; omega, by omega⟩ ?_))
   intro va w3 ho ht;obtain ⟨B2, d2, hvn, _, _⟩ := OwnL.shape ho;subst hvn;have hbt := ht.below (B := w.heap.size) HB.out.size HLO.out;have hlo2 := ht.base HB.out.size HLO.out;have HO2 : Hid (OwnS w3 (.slice B2 (q + 1) d2) (q + 1) (fun j => qtxt (-(f j)))) := lH ho;replace HB := lH (HB.out.trans hbt);have HLO2 := lH hlo2;clear hbt hlo2 ho ht HO HLO;refine hK _ _ ?_;go_wp2_with fail
   go_roundw
   case rel => exact ⟨q + 1, B2, d2, by omega, rfl, by go_num, HO2.out, HLO2, HB.out⟩
   case measure => first | (simp [intOf]; done) | (simp [intOf]; omega)
  ·obtain rfl : q = n := by omega
   go_wp2_with fail
   go_returns;exact ⟨_, rfl, HO.out, HB.out⟩
end
end Go.Proofs.YtdefghfjhgmpfaaGreatDoor
