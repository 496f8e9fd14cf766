/- Parts of this proof: LEquations. -/
import Derived.Test.YtdefghfjhgmpfaaGreatDoorQAE
import Derived.Test.YtdefghfjhgmpfaaGreatDoorQBP
import Derived.Test.YtdefghfjhgmpfaaGreatDoorQBQ
import Derived.Test.YtdefghfjhgmpfaaGreatDoorQBS
namespace Go.Proofs.YtdefghfjhgmpfaaGreatDoor
open Go.RowKit
open Lp (RL upd Dict)
theorem firstE_congr {n : Nat} {e f : Nat → Nat} (h : ∀ j, j < n → e j = f j) : firstE n e = firstE n f := by
 induction n with
 | zero => rfl
 | succ n ih =>
  show (if firstE n e ≠ 0 then firstE n e else e n) = (if firstE n f ≠ 0 then firstE n f else f n);rw [ih (fun j hj => h j (by omega)), h n (by omega)]
def snoc (n : Nat) (s : Nat → ByteArray) (b : ByteArray) (j : Nat) : ByteArray := if j < n then s j else b
theorem firstE_snoc (n : Nat) (s : Nat → ByteArray) (b : ByteArray) : firstE (n + 1) (fun j => sE (snoc n s b j)) = rowE n s b := by
 unfold rowE;show (if firstE n _ ≠ 0 then firstE n _ else sE (snoc n s b n)) = _;have h1 : firstE n (fun j => sE (snoc n s b j)) = firstE n (fun j => sE (s j)) := firstE_congr fun j hj => by unfold snoc; rw [if_pos hj]
 have h2 : snoc n s b n = b := by unfold snoc; rw [if_neg (by omega)]
 rw [h1, h2]
set_option maxRecDepth 100000 in
set_option maxHeartbeats 12800000 in
theorem Equations_law (va : Value) (n : Nat) (s : Nat → ByteArray) (b : ByteArray) (many : Bool) (w : World) (ha : TSA w va n s) (hg : Glob w) (ht : Tab w) :
  Calls Tryz.prog 9 #[va, .string b, .bool many] w fun e w' => e = .returned (.bool true) ∧ Below w.heap.size w w' := by
 obtain ⟨A, c0, rfl, _, _⟩ := ha.1.shape;have HA := lH ha;have HGL := lH hg;have HTB := lH ht;clear ha hg ht;obtain ⟨iN, hiN, hzN0, hzN1, hzN2⟩ := info_parts infoN;go_enter Tryz.func9, Tryz.ntmps9;go_wp2_with fail
 refine (known_walk _ HGL.out HTB.out).mono ?_;rintro e w1 ⟨rfl, hb⟩;have HB := lH hb;clear hb;obtain ⟨w2, hw2⟩ := eX (w1.alloc (.cells #[.string b] 30));obtain ⟨g1, hg1⟩ := eX (w1.heap.size);obtain ⟨w3, hw3⟩ := eX (w2.alloc (.cells #[.slice A n c0, .slice (some ⟨g1, 0, none⟩) 1 1] 22));obtain ⟨g2, hg2⟩ := eX (w2.heap.size);have hb2 : Below w1.heap.size w1 w2 := by rw [hw2]; exact below_new _ _
 have hb3 : Below w2.heap.size w2 w3 := by rw [hw3]; exact below_new _ _
 have R1 : Row w2 g1 30 [.string b] := by rw [hw2, hg1]; exact heap_new _ _
 have R2 : Row w3 g2 22 [.slice A n c0, .slice (some ⟨g1, 0, none⟩) 1 1] := by rw [hw3, hg2]; exact heap_new _ _
 replace HB := lH ((HB.out.trans (hb2.mono HB.out.size)).trans (hb3.mono (Nat.le_trans HB.out.size hb2.size)))
 have HTL : Hid (TLs w3 (.slice (some ⟨g2, 0, none⟩) 2 2) 2 (fun i => if i = 0 then n else 1) (fun i j => if i = 0 then s j else b)) := lH (by
  refine ⟨_, _, rfl, Nat.le_refl _, by unfold maxLen; omega, .inr ⟨g2, 0, rfl, fun i hi => ?_⟩⟩
  rcases i with _ | _ | i
  ·exact ⟨_, R2.at_ 0 rfl, HA.out.1.below HB.out⟩
  ·exact ⟨_, R2.at_ 1 rfl, ⟨_, _, rfl, Nat.le_refl _, by unfold maxLen; omega, .inr ⟨g1, 0, rfl, fun j hj => by have hj : j < 1 := hj; rw [show 0 + j = 0 by omega]; exact (R1.below hb3 R1.lt).at_ 0 rfl⟩⟩⟩
  ·omega)
 clear R1 R2 hb2 hb3;have e2 : w1.heap.size + 1 = g2 := by rw [hg2, hw2]; simp
 clear e2;go_wp2_with fail
 have e2 : w1.heap.size + 1 = g2 := by rw [hg2, hw2]; simp
 try rw [e2]
 rw [← hg1]
 try rw [e2]
 rw [← hw2, ← hw3];clear hw2 hw3 hg1 hg2 e2;refine (lshort_walk 6 _ 2 _ _ _ HTL.out (by decide) (by decide)).mono ?_;rintro e w4 ⟨hsh, hb⟩;replace HB := bT HB hb;clear hb HTL
 rcases hsh with ⟨hsh, rfl⟩ | ⟨_, rfl⟩
 ·have HN6 : Hid (n ≤ 6) := lH (by have := (hsh 0 (by omega)).1; simpa using this);have HS12 : Hid (∀ j, j < n → (s j).size ≤ 12) := lH (fun j hj => by have := (hsh 0 (by omega)).2 j (by simpa using hj); simpa using this);have HB12 : Hid (b.size ≤ 12) := lH (by have := (hsh 1 (by omega)).2 0 (by simp); simpa using this);clear hsh;cases many
  ·go_wp2_with fail
   refine (clone_walk _ n s _ (HA.out.below HB.out) (by have := HN6.out; omega)).mono ?_;rintro e w5 ⟨v5, rfl, ho, hlo, _, hb⟩;have HO := lH ho;have HLO : Hid (∀ g, v5.ownBlock = some g → w.heap.size ≤ g) := lH (fun g hg => Nat.le_trans HB.out.size (hlo g hg));replace HB := bT HB hb;clear hb ho hlo;obtain ⟨A5, c5, rfl, _, _⟩ := OwnL.shape HO.out;have HO6 : Hid (OwnS w5 (.slice A5 n c5) n (snoc n s b)) := lH (by obtain ⟨xs, h1, h2⟩ := HO.out; exact ⟨xs, h1, fun j hj => by obtain ⟨u, h3, h4⟩ := h2 j hj; exact ⟨u, h3, by rw [show u = Value.string (s j) from h4]; show Value.string (s j) = .string (snoc n s b j); unfold snoc; rw [if_pos hj]⟩⟩);have hn6 := HN6.out
   go_wp2_with (at_builtin; (refine wpList_plain rfl fun K hK => wp_appL _ (.tmp 39) (.tmp 41) 22 rfl 30 iN (.string ⟨#[]⟩) 16 Tryz.underlying22 hiN hzN0 hzN1 hzN2 rfl (.slice A5 n c5) n _ rfl HO6.out (.string b) rfl (by show Value.string b = .string (snoc n s b n); unfold snoc; rw [if_neg (by omega)]) rfl ⟨by unfold maxLen; omega, by omega⟩ ?_))
   intro va w6 ho ht;obtain ⟨A6, c6, rfl, _, _⟩ := OwnL.shape ho;have hbt := ht.below (B := w.heap.size) HB.out.size HLO.out;have HTS : Hid (TS w6 (.slice A6 (n + 1) c6) (n + 1) (snoc n s b)) := lH (OwnS.ts ho);replace HB := lH (HB.out.trans hbt);clear hbt ho ht HO HO6 HLO hn6;refine hK _ _ ?_;go_wp2_with fail
   refine (rnums_walk _ (n + 1) _ _ HTS.out (by have := HN6.out; omega) (fun j hj => by have := HB12.out; have := HS12.out; unfold snoc; split; have := HS12.out j (by assumption); omega; omega)).mono ?_;rintro e w7 ⟨rfl, hb⟩;replace HB := bT HB hb;clear hb HTS;rw [firstE_snoc];obtain ⟨E, hE⟩ := eX (rowE n s b);rw [← hE];have HE := lH hE;clear hE;go_wp2_with fail
   refine (clone_walk _ n s _ (HA.out.below HB.out) (by have := HN6.out; omega)).mono ?_;rintro e w8 ⟨v8, rfl, _, _, hts, hb⟩;obtain ⟨A8, c8, rfl, _, _⟩ := hts.1.shape;have HTS := lH hts.1;replace HB := bT HB hb;clear hb hts;go_wp2_with fail
   refine (equation_walk _ n s b 12 _ HTS.out (by have := HN6.out; omega) (by decide) HS12.out HB12.out (HGL.out.below HB.out) (HTB.out.below HB.out)).mono ?_;rintro e w9 ⟨hr, hb⟩;replace HB := bT HB hb;clear hb HTS;have HQE : Hid (equE n s b = E) := lH (by unfold equE; rw [if_neg (by have := HN6.out; omega)]; exact HE.out.symm);unfold EquR at hr;rw [HQE.out] at hr
   rcases hr with ⟨h0, rfl⟩ | ⟨h0, c, q, g, d, gP, gN, hcc, hq, rfl, k0, k1, k2, k3, hP, hN⟩
   ·have hci : ((E : Nat) : Int) ≠ 0 := by omega
    have hcd : (((E : Nat) : Int) != 0) = true := by simpa using hci
    have hcn : (E != 0) = true := by simpa using h0
    have hce : (((E : Nat) : Int) == ((E : Nat) : Int)) = true := by simp
    clear h0;go_wp2_with fail
    go_returns;exact ⟨rfl, HB.out⟩
   ·subst h0;obtain rfl : b = qtxt q := ba_ext (by rw [qtxt_list]; exact hq);have HC : Hid (∀ j, j < n → s j = qtxt (c j)) := lH (fun j hj => ba_ext (by rw [qtxt_list]; exact hcc j hj));have HRC : Hid (∀ j, j < n → RL 12 (c j)) := lH (fun j hj => rl_size (hcc j hj) (HS12.out j hj));have HRQ : Hid (RL 12 q) := lH (rl_size hq HB12.out);have HP := lH hP;have HN := lH hN;have HVA : Hid (TS w9 (.slice A n c0) n (fun j => qtxt (c j))) := lH ((HA.out.1.below HB.out).congr HC.out);have K0 := lH k0;have K1 := lH k1;have K2 := lH k2;have K3 := lH k3;clear hcc hq hP hN k0 k1 k2 k3 HC;go_wp2_with fail
    go_wp2_with fail
    have HRG : Hid (Below w9.heap.size w9 w9) := lH (Below.refl _ _);have glK0 := cell_lt K0.out;have g0K0 := K0.out;have glK1 := cell_lt K1.out;have g0K1 := K1.out;have glK2 := cell_lt K2.out;have g0K2 := K2.out;have glK3 := cell_lt K3.out;have g0K3 := K3.out;have KS := lH (kC g0K0 (kC g0K1 (kC g0K2 (kN g0K3))));clear glK0 g0K0 glK1 g0K1 glK2 g0K2 glK3 g0K3;refine rL KS.out (fun i => false) ?_;have hh := KS.out _ HRG.out;refine tK 0 (some 61) hh ?_;refine tK 1 (some 62) hh ?_;refine tK 2 (some 63) hh ?_;refine tK 3 (some 64) hh ?_;refine tK 4 (some 65) hh ?_;refine tK 5 (some 66) hh ?_;refine tK 6 (some 67) hh ?_;refine tK 7 (some 68) hh ?_;refine tK 8 (some 69) hh ?_;refine tK 9 (some 70) hh ?_;refine tK 10 (some 71) hh ?_;refine tK 11 (some 72) hh ?_;refine tK 12 (some 73) hh ?_;refine rD 13 (fun K hK => ?_);go_simp;refine (equal_same _ _ n _ _ (by exact HP.out) (by exact HVA.out) (by have := HN6.out; omega)).mono ?_;rintro e w10 ⟨rfl, hb10⟩;have hb10 : Below w9.heap.size w9 w10 := bD hb10;replace HP := lH (HP.out.below hb10);replace HN := lH (HN.out.below hb10);replace HVA := lH (HVA.out.below hb10);replace K0 := lH (cell_below hb10 K0.out);replace K1 := lH (cell_below hb10 K1.out);replace K2 := lH (cell_below hb10 K2.out);replace K3 := lH (cell_below hb10 K3.out);replace HB := bT HB hb10;replace HRG := bT HRG hb10;clear hh hb10;have hh := KS.out _ HRG.out;refine hK.out _ _ (fun _ => hh) ?_;clear hK K;refine tK 14 (some 75) hh ?_;refine tK 15 (some 76) hh ?_;refine tK 16 (some 77) hh ?_;refine tK 17 (some 78) hh ?_;refine tK 18 (some 79) hh ?_;refine tK 19 (some 80) hh ?_;refine tK 20 (some 81) hh ?_;refine wpAnyE_taked (i := 21) (v := .bool true) (some 82) rfl (by rfl) (by kernel_rfl) (by kernel_rfl) (by kernel_rfl) (by kernel_rfl) (fun _ _ _ h => h) (Or.inl ⟨by rfl, ?_⟩) hh ?_
    ·(intro w' hSw; clear hSw; go_simp; skip)
    simp only [Act.put, List.setIfInBounds_toArray, List.set_cons_zero, List.set_cons_succ];refine tK 22 (some 83) hh ?_;refine tK 23 (some 84) hh ?_;refine tK 24 (some 85) hh ?_;refine tK 25 (some 86) hh ?_;refine tK 26 (some 87) hh ?_;refine tK 27 (some 88) hh ?_;refine tK 28 (some 89) hh ?_;refine rD 29 (fun K hK => ?_);go_simp;refine (negative_walk _ n c 12 _ (by exact HVA.out) (by have := HN6.out; omega) HRC.out (by decide)).mono ?_;rintro e w11 ⟨vN, rfl, hoN, hb11⟩;have hb11 : Below w10.heap.size w10 w11 := bD hb11;replace HP := lH (HP.out.below hb11);replace HN := lH (HN.out.below hb11);replace HVA := lH (HVA.out.below hb11);replace K0 := lH (cell_below hb11 K0.out);replace K1 := lH (cell_below hb11 K1.out);replace K2 := lH (cell_below hb11 K2.out);replace K3 := lH (cell_below hb11 K3.out);replace HB := bT HB hb11;replace HRG := bT HRG hb11;have HON := lH (OwnS.ts hoN);clear hoN;clear hh hb11;have hh := KS.out _ HRG.out;refine hK.out _ _ (fun _ => hh) ?_;clear hK K;refine rD 30 (fun K hK => ?_);go_simp;refine (equal_same _ _ n _ _ (by exact HN.out) (by exact HON.out) (by have := HN6.out; omega)).mono ?_;rintro e w12 ⟨rfl, hb12⟩;have hb12 : Below w11.heap.size w11 w12 := bD hb12;replace HP := lH (HP.out.below hb12);replace HN := lH (HN.out.below hb12);replace HVA := lH (HVA.out.below hb12);replace HON := lH (HON.out.below hb12);replace K0 := lH (cell_below hb12 K0.out);replace K1 := lH (cell_below hb12 K1.out);replace K2 := lH (cell_below hb12 K2.out);replace K3 := lH (cell_below hb12 K3.out);replace HB := bT HB hb12;replace HRG := bT HRG hb12;clear hh hb12;have hh := KS.out _ HRG.out;refine hK.out _ _ (fun _ => hh) ?_;clear hK K;refine tK 31 (some 92) hh ?_;refine tK 32 (some 93) hh ?_;refine tK 33 (some 94) hh ?_;refine tK 34 (some 95) hh ?_;refine tK 35 (some 96) hh ?_;refine tK 36 (some 97) hh ?_;refine tK 37 (some 98) hh ?_;refine rD 38 (fun K hK => ?_);go_simp;refine (tneg_walk q 12 _ HRQ.out (by decide)).mono ?_;rintro e w13 ⟨rfl, hb13⟩;have hb13 : Below w12.heap.size w12 w13 := bD hb13;replace HP := lH (HP.out.below hb13);replace HN := lH (HN.out.below hb13);replace HVA := lH (HVA.out.below hb13);replace HON := lH (HON.out.below hb13);replace K0 := lH (cell_below hb13 K0.out);replace K1 := lH (cell_below hb13 K1.out);replace K2 := lH (cell_below hb13 K2.out);replace K3 := lH (cell_below hb13 K3.out);replace HB := bT HB hb13;replace HRG := bT HRG hb13;clear hh hb13;have hh := KS.out _ HRG.out;refine hK.out _ _ (fun _ => hh) ?_;clear hK K;refine wpAnyE_taked (i := 39) (v := .bool true) (some 100) rfl (by rfl) (by kernel_rfl) (by kernel_rfl) (by kernel_rfl) (by kernel_rfl) (fun _ _ _ h => h) (Or.inl ⟨by rfl, ?_⟩) hh ?_
    ·(intro w' hSw; clear hSw; go_simp; skip)
    simp only [Act.put, List.setIfInBounds_toArray, List.set_cons_zero, List.set_cons_succ];refine tK 40 (some 101) hh ?_;refine tK 41 (some 6) hh ?_;refine dN ?_ _;clear hh KS HRG;go_wp2_with fail
    go_returns;exact ⟨rfl, HB.out⟩
  ·obtain ⟨w5, hw5⟩ := eX (w4.alloc (.cells #[.string ⟨#[49]⟩] 30));obtain ⟨g5, hg5⟩ := eX (w4.heap.size);have hb5 : Below w4.heap.size w4 w5 := by rw [hw5]; exact below_new _ _
   have R5 : Hid (Row w5 g5 30 [.string ⟨#[49]⟩]) := lH (by rw [hw5, hg5]; exact heap_new _ _);replace HB := bT HB hb5;clear hb5;go_wp2_with fail
   rw [← hg5, ← hw5];clear hg5 hw5;refine (repeat_walk g5 0 1 97 ⟨#[49]⟩ _ (R5.out.at_ 0 rfl) (by decide) (by decide)).mono ?_;rintro e w6 ⟨g6, rfl, hsk, _, hb⟩;have HSK := lH hsk;replace HB := bT HB hb;clear hb hsk;go_wp2_with fail
   refine (equation_walk (.slice (some ⟨g6, 0, none⟩) 97 97) 97 (fun _ => ⟨#[49]⟩) b 12 _ (HSK.out.ts (Nat.le_refl _) (by unfold maxLen; decide)) (by decide) (by decide) (fun j _ => by show (1 : Nat) ≤ 12; decide) HB12.out (HGL.out.below HB.out) (HTB.out.below HB.out)).mono ?_;rintro e w7 ⟨hr, hb⟩;replace HB := bT HB hb;clear hb;have h6 : equE 97 (fun _ => ⟨#[49]⟩) b = 6 := by unfold equE; rw [if_pos (by decide)]
   rcases hr with ⟨_, rfl⟩ | ⟨h0, _⟩
   ·rw [h6];clear h6;go_wp2_with fail
    go_returns;exact ⟨rfl, HB.out⟩
   ·rw [h6] at h0; cases h0
 ·go_wp2_with fail
  refine (known_walk _ (HGL.out.below HB.out) (HTB.out.below HB.out)).mono ?_;rintro e w5 ⟨rfl, hb⟩;replace HB := bT HB hb;clear hb;go_wp2_with fail
  go_returns;exact ⟨rfl, HB.out⟩
end Go.Proofs.YtdefghfjhgmpfaaGreatDoor
