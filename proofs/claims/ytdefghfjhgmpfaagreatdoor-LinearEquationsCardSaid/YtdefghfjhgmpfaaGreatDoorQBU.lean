/- The statement LinearEquationsCardSaid: for every input the call of dowellaw06.LinearEquations returns true and each argument reads behind it as it read before. Conditions: none but those of the given row. -/
import Derived.Test.YtdefghfjhgmpfaaGreatDoorQAY
import Derived.Test.YtdefghfjhgmpfaaGreatDoorQBT
namespace Go.Proofs.YtdefghfjhgmpfaaGreatDoor
namespace cEquations
open Go.ChangeShapes Go.WideShapes Go.ChangeAt Go.RowKit
open Go.ChangeMaps (open_string)
set_option maxRecDepth 100000 in
theorem contract (H : Type) (enc : TypeId × Value → H) (W : World) (base : Nat) (args : Array Value) (ds gs : List (DataW H)) (before : List MemPlace)
  (hval : ∀ (j : Nat) t v, Tryz.f9.params[j]? = some t → args[j]? = some v → Value.okWide Tryz.prog W .any base t v)
  (hW : DataW.Whole enc Tryz.prog Tryz.f9.params.toList Rows.linearEquationsSpec.vars false W args.toList ds gs before) (hL : laidMetH Tryz.prog Rows.linearEquationsRow.laid W) (hS : W.ShapedOpen Tryz.prog) :
  Calls Tryz.prog 9 args W fun e W' => ∃ v, e = .returned v ∧ Rows.linearEquationsSpec.post enc Tryz.prog Tryz.f9 false true false false W args v W' := by
 have hW' := hW;obtain ⟨p, q, hA0, hV, rfl, hfz, hnd⟩ := hW;have hA : DataW.TrodAll enc Tryz.prog W 0 (fun _ => true) true Tryz.f9.params.toList args.toList ds p := hA0;have hA2 := hA;rw [Tryz.params9] at hA hval;obtain ⟨v0, v1, v2, d0, d1, d2, p0, p1, p2, rfl, rfl, rfl, h0, h1, h2⟩ := trodAll_three hA;obtain ⟨rfl, rfl⟩ := trodVars_none hV;rw [List.append_nil] at hW';obtain ⟨n0, s0, x0⟩ := open_texts (hval 0 22 v0 rfl rfl) h0;obtain ⟨x1, rfl⟩ := okWide_string Tryz.underlying30 (hval 1 30 v1 rfl rfl);obtain ⟨x2, rfl⟩ := okWide_bool Tryz.underlying4 (hval 2 4 v2 rfl rfl);have hT : Tab W := tab_of (show laidMet Tryz.prog Rows.linearEquationsRow.laid W from hL);refine (Equations_law v0 n0 s0 x1 x2 W x0 (glob_of hS) hT).mono fun e W' ⟨he, hb⟩ => ?_
 subst he;exact ⟨_, rfl, post_kept hW' laidOut (by kernel_rfl) rfl hA2 rfl rfl (fun _ _ _ => trodAll_cons_mk (shut_bool Tryz.underlying4 _) trodAll_mk0) hb (ok_one (by kernel_rfl) rfl (okWide_bool_mk Tryz.underlying4 _))⟩
theorem reads (os : Os) {H : Type} (enc : TypeId × Value → H) : ∃ places, DataW.whole enc Tryz.prog ((laidWorld os).forCall (fun _ _ => 0) ⟨#[], #[.slice none 0 0, .string ⟨#[]⟩, .bool false], []⟩).memory Tryz.f9.params.toList Rows.linearEquationsSpec.vars false (#[.slice none 0 0, .string ⟨#[]⟩, .bool false] : Array Value).toList 8 = some ([.nil, .lit (.string []), .lit (.bool false)], [], places) :=
 ⟨[], by kernel_rfl⟩
set_option maxRecDepth 100000 in
theorem lifted (os : Os) (started : os.Started) (H : Type) (enc : TypeId × Value → H) (F : Stop.Interp) :
  ReturnsInHanded {} Tryz.checked os 9 .any ((OpenSpec.ofChange Rows.linearEquationsSpec).preRow enc Tryz.prog Tryz.f9 Rows.linearEquationsRow.domain false Rows.linearEquationsRow.laid) (((OpenSpec.ofChange Rows.linearEquationsSpec).at F).post enc Tryz.prog Tryz.f9 false true false false) := by
 obtain ⟨places, hx⟩ := reads os enc
 refine returnsInHanded_of_row (C := Tryz.checked) (s := OpenSpec.ofChange Rows.linearEquationsSpec) own started (by kernel_rfl) Tryz.func9
  (witness_row_atRef (enc := enc) (C := Tryz.checked) false (laidWorld os) #[.slice none 0 0, .string ⟨#[]⟩, .bool false] rfl (by kernel_rfl) (by kernel_rfl) (by kernel_rfl)
   (OpenSpec.preRow_of_cond 8 hx (by kernel_rfl) (fun k hk => by cases hk) (by kernel_rfl) (laid7 os _))) ?_
 intro W base args ds gs before hval hW _ _ _ hL hS _;exact contract H enc W base args ds gs before hval hW hL hS
set_option maxRecDepth 100000 in
theorem f_inP : Rows.linearEquationsRow.inPlace = Tryz.prog.inPlace 9 := by kernel_rfl
set_option maxRecDepth 100000 in
theorem f_unf : Rows.linearEquationsRow.unfollowed = Tryz.prog.unfollowed 9 := by kernel_rfl
set_option maxRecDepth 100000 in
theorem f_rec : Rows.linearEquationsRow.recurses = Tryz.prog.recurses 9 := by kernel_rfl
set_option maxRecDepth 100000 in
theorem f_nam : Rows.linearEquationsRow.named = Tryz.prog.varsNamed 9 := by kernel_rfl
set_option maxRecDepth 100000 in
theorem joined : joinedFacts Tryz.prog 9 Tryz.f9 Rows.linearEquationsSpec Rows.linearEquationsRow = true := joined_of f_inP f_unf f_rec f_nam rfl rfl (by kernel_rfl)
set_option maxRecDepth 100000 in
theorem said : Rows.LinearEquationsSaid :=
 OpenClaim.holds_of_cond 9 Tryz.f9 rfl rfl rfl rfl rfl rfl rfl ⟨rfl, rfl, rfl, rfl, rfl⟩ rfl rfl rfl rfl rfl (by kernel_rfl) Tryz.func9 joined
  (of_decide_eq_true (by kernel_rfl)) (by unfold Func.isWrapper; first | (rw [if_pos (by decide +kernel)]; kernel_rfl) | (rw [if_neg (by decide +kernel)]; exact ⟨rfl, rfl⟩))
  (fun os started H enc _ F => by rw [OpenClaim.pre_eq_preRow]; exact lifted os started H enc F)
theorem plain (f : FuncId) (fn : Func) (hf : Tryz.pinned.checked.prog.funcNamed "dowel/dowellaw06.LinearEquations" = some f) (hfn : Tryz.pinned.checked.prog.funcs[f]? = some fn) :
  true = Tryz.pinned.checked.prog.looks [] ∧ ∀ (j : Nat) t, fn.params[j]? = some t → Tryz.pinned.checked.prog.wantsStandIn t = false := by
 obtain rfl : f = 9 := Option.some.inj ((show Tryz.prog.funcNamed "dowel/dowellaw06.LinearEquations" = some 9 by kernel_rfl).symm.trans hf) |>.symm
 obtain rfl : fn = Tryz.f9 := (Option.some.inj (Tryz.func9.symm.trans hfn)).symm;refine ⟨by kernel_rfl, fun j t ht => ?_⟩;rw [Tryz.params9] at ht;have hm := Array.mem_of_getElem? ht;have hm : t = 22 ∨ t = 30 ∨ t = 4 := by simpa using hm
 rcases hm with rfl | rfl | rfl
 ·exact (show Tryz.prog.wantsStandIn 22 = false by kernel_rfl)
 ·exact (show Tryz.prog.wantsStandIn 30 = false by kernel_rfl)
 ·exact (show Tryz.prog.wantsStandIn 4 = false by kernel_rfl)
theorem card : Rows.LinearEquationsCardSaid :=
 Claim7.holds_tied_plain_at .later [] _ _ _ _ said (fun _ h => by cases h) (by kernel_rfl) (fun _ h => by cases h) linearEquations_row_tie rfl ⟨rfl, rfl⟩ (by kernel_rfl) rfl plain (by kernel_rfl)
#print axioms card
end cEquations
end Go.Proofs.YtdefghfjhgmpfaaGreatDoor
