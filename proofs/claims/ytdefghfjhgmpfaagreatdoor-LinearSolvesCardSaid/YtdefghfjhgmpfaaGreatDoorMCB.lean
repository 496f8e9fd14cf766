/- The statement LinearSolvesCardSaid: for every input the call of dowellaw06.LinearSolves returns true and each argument reads behind it as it read before. Conditions: none but those of the given row. -/
import Derived.Test.YtdefghfjhgmpfaaGreatDoorMAV
import Derived.Test.YtdefghfjhgmpfaaGreatDoorMBA
import Derived.Test.YtdefghfjhgmpfaaGreatDoorMCA
namespace Go.Proofs.YtdefghfjhgmpfaaGreatDoor
namespace cSolves
open Go.ChangeShapes Go.WideShapes Go.ChangeAt Go.RowKit
open Go.ChangeMaps (open_string)
set_option maxRecDepth 100000 in
theorem contract(H:Type)(enc:TypeId × Value -> H)(W:World)(base:Nat)(args:Array Value)(C O:List (DataW H))(M:List MemPlace)
  (G:∀ (j:Nat) t v,Tryz.f15.params[j]? =some t -> args[j]? =some v -> Value.okWide Tryz.prog W .any base t v)
  (E:DataW.Whole enc Tryz.prog Tryz.f15.params.toList Rows.linearSolvesSpec.vars false W args.toList C O M) (R:laidMetH Tryz.prog Rows.linearSolvesRow.laid W) (T:W.ShapedOpen Tryz.prog):
  Calls Tryz.prog 15 args W fun e r=>∃v,e= .returned v /\ Rows.linearSolvesSpec.post enc Tryz.prog Tryz.f15 false true false false W args v r:=by
 have F:=E;obtain⟨p,q,hA0,V,rfl,a4,a5⟩:=E;have h:DataW.TrodAll enc Tryz.prog W 0 (fun _=>true) true Tryz.f15.params.toList args.toList C p:=hA0;have hA2:=h;rw[Tryz.params15] at h G;obtain⟨v0,d0,rfl,rfl,h0⟩:=trodAll_one h;obtain⟨rfl,rfl⟩:=trodVars_none V;rw[List.append_nil] at F;obtain⟨a0,a1,n0,o0,m0,Z,t0,b0,rfl,a2,a3⟩:=IQ (G 0 25 v0 rfl rfl) h0;have U:Tab W:=Aw (show laidMet Tryz.prog Rows.linearSolvesRow.laid W from R);refine(Kg a0 a1 n0 m0 Z o0 t0 b0 W a2 a3 (Al T) U).mono fun e r ⟨Y,X⟩=> ?_
 subst Y;exact⟨_,rfl,zZ F laidOut kR rfl hA2 rfl rfl (fun _ _ _=>trodAll_cons_mk (shut_bool Tryz.underlying4 _) trodAll_mk0) X (ok_one kR rfl (okWide_bool_mk Tryz.underlying4 _))⟩
theorem reads(h:Os){H:Type}(enc:TypeId × Value -> H):∃r,DataW.whole enc Tryz.prog ((qZ h).forCall (fun _ _=>0) ⟨#[], #[.agg #[.slice none 0 0, .slice none 0 0]],[]⟩).memory Tryz.f15.params.toList Rows.linearSolvesSpec.vars false (#[.agg #[.slice none 0 0, .slice none 0 0]]:Array Value).toList 8=some ([.agg [.nil, .nil]],[],r):=
 ⟨[],by kernel_rfl⟩
set_option maxRecDepth 100000 in
theorem lifted(h:Os)(V:h.Started)(H:Type)(enc:TypeId × Value -> H)(F:Stop.Interp):
  ReturnsInHanded {} Tryz.checked h 15 .any ((OpenSpec.ofChange Rows.linearSolvesSpec).preRow enc Tryz.prog Tryz.f15 Rows.linearSolvesRow.domain false Rows.linearSolvesRow.laid) (((OpenSpec.ofChange Rows.linearSolvesSpec).at F).post enc Tryz.prog Tryz.f15 false true false false):=by
 obtain⟨X,U⟩:=reads h enc
 refine returnsInHanded_of_row (C:=Tryz.checked) (s:=OpenSpec.ofChange Rows.linearSolvesSpec) own V kR Tryz.func15
  (witness_row_atRef (enc:=enc) (C:=Tryz.checked) false (qZ h) #[.agg #[.slice none 0 0, .slice none 0 0]] rfl kR kR kR
   (OpenSpec.preRow_of_cond 8 U kR (fun k R=>by cases R) kR (AA h _))) ?_
 intro W base args t E r T O _ _ _ G M _;exact contract H enc W base args t E r T O G M
set_option maxRecDepth 100000 in
theorem wP:Rows.linearSolvesRow.inPlace=Tryz.prog.inPlace 15:=by kernel_rfl
set_option maxRecDepth 100000 in
theorem wR:Rows.linearSolvesRow.unfollowed=Tryz.prog.unfollowed 15:=by kernel_rfl
set_option maxRecDepth 100000 in
theorem wT:Rows.linearSolvesRow.recurses=Tryz.prog.recurses 15:=by kernel_rfl
set_option maxRecDepth 100000 in
theorem wU:Rows.linearSolvesRow.named=Tryz.prog.varsNamed 15:=by kernel_rfl
set_option maxRecDepth 100000 in
theorem joined:joinedFacts Tryz.prog 15 Tryz.f15 Rows.linearSolvesSpec Rows.linearSolvesRow=true:=AB wP wR wT wU rfl rfl kR
set_option maxRecDepth 100000 in
theorem said:Rows.LinearSolvesSaid:=
 OpenClaim.holds_of_cond 15 Tryz.f15 rfl rfl rfl rfl rfl rfl rfl ⟨rfl,rfl,rfl,rfl,rfl⟩ rfl rfl rfl rfl rfl kR Tryz.func15 joined
  (of_decide_eq_true kR) (by unfold Func.isWrapper;first | (rw[if_pos (by decide+kernel)];kernel_rfl) | (rw[if_neg (by decide+kernel)];exact⟨rfl,rfl⟩))
  (fun h r H enc _ F=>by rw[OpenClaim.pre_eq_preRow];exact lifted h r H enc F)
theorem plain(f:FuncId)(h:Func)(E:Tryz.pinned.checked.prog.funcNamed "dowel/dowellaw06.LinearSolves" =some f)(F:Tryz.pinned.checked.prog.funcs[f]? =some h):
  true=Tryz.pinned.checked.prog.looks [] /\ ∀ (j:Nat) t,h.params[j]? =some t -> Tryz.pinned.checked.prog.wantsStandIn t=false:=by
 obtain rfl:f=15:=Option.some.inj ((show Tryz.prog.funcNamed "dowel/dowellaw06.LinearSolves" =some 15 by kernel_rfl).symm.trans E) |>.symm
 obtain rfl:h=Tryz.f15:=(Option.some.inj (Tryz.func15.symm.trans F)).symm;refine⟨by kernel_rfl,fun j t C=> ?_⟩;rw[Tryz.params15] at C;have r:= Array.mem_of_getElem? C;have r:t=25:=by simpa using r
 subst r;exact(show Tryz.prog.wantsStandIn 25=false by kernel_rfl)
theorem card:Rows.LinearSolvesCardSaid:=
 Claim7.holds_tied_plain_at .later [] _ _ _ _ said (fun _ h=>by cases h) kR (fun _ h=>by cases h) linearSolves_row_tie rfl ⟨rfl,rfl⟩ kR rfl plain kR
#print axioms card
end cSolves
end Go.Proofs.YtdefghfjhgmpfaaGreatDoor
