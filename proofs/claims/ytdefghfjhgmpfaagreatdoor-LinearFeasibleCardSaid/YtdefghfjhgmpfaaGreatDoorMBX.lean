/- The statement LinearFeasibleCardSaid: for every input the call of dowellaw06.LinearFeasible returns true and each argument reads behind it as it read before. Conditions: none but those of the given row. -/
import Derived.Test.YtdefghfjhgmpfaaGreatDoorMAV
import Derived.Test.YtdefghfjhgmpfaaGreatDoorMAZ
import Derived.Test.YtdefghfjhgmpfaaGreatDoorMBW
namespace Go.Proofs.YtdefghfjhgmpfaaGreatDoor
namespace cFeasible
open Go.ChangeShapes Go.WideShapes Go.ChangeAt Go.RowKit
open Go.ChangeMaps (open_string)
set_option maxRecDepth 100000 in
theorem contract(H:Type)(enc:TypeId × Value -> H)(W:World)(base:Nat)(args:Array Value)(E R:List (DataW H))(O:List MemPlace)
  (r:∀ (j:Nat) t v,Tryz.f4.params[j]? =some t -> args[j]? =some v -> Value.okWide Tryz.prog W .any base t v)
  (F:DataW.Whole enc Tryz.prog Tryz.f4.params.toList Rows.linearFeasibleSpec.vars false W args.toList E R O) (T:laidMetH Tryz.prog Rows.linearFeasibleRow.laid W) (U:W.ShapedOpen Tryz.prog):
  Calls Tryz.prog 4 args W fun e C=>∃v,e= .returned v /\ Rows.linearFeasibleSpec.post enc Tryz.prog Tryz.f4 false true false false W args v C:=by
 have G:=F;obtain⟨p,q,hA0,X,rfl,a0,a1⟩:=F;have h:DataW.TrodAll enc Tryz.prog W 0 (fun _=>true) true Tryz.f4.params.toList args.toList E p:=hA0;have hA2:=h;rw[Tryz.params4] at h r;obtain⟨v0,v1,d0,d1,p0,p1,rfl,rfl,rfl,h0,h1⟩:=trodAll_two h;obtain⟨rfl,rfl⟩:=trodVars_none X;rw[List.append_nil] at G;obtain⟨x0,rfl⟩:=okWide_int Tryz.underlying3 (r 0 3 v0 rfl rfl);obtain⟨m1,k1,t1,M,x1⟩:=IK (r 1 23 v1 rfl rfl) h1;have V:Tab W:=Aw (show laidMet Tryz.prog Rows.linearFeasibleRow.laid W from T);refine(JY x0 v1 m1 k1 t1 M W x1 (Al U) V).mono fun e C ⟨Z,Y⟩=> ?_
 subst Z;exact⟨_,rfl,zZ G laidOut kR rfl hA2 rfl rfl (fun _ _ _=>trodAll_cons_mk (shut_bool Tryz.underlying4 _) trodAll_mk0) Y (ok_one kR rfl (okWide_bool_mk Tryz.underlying4 _))⟩
theorem reads(h:Os){H:Type}(enc:TypeId × Value -> H):∃r,DataW.whole enc Tryz.prog ((qZ h).forCall (fun _ _=>0) ⟨#[], #[.int .i64 0, .slice none 0 0],[]⟩).memory Tryz.f4.params.toList Rows.linearFeasibleSpec.vars false (#[.int .i64 0, .slice none 0 0]:Array Value).toList 8=some ([.lit (.int .i64 0), .nil],[],r):=
 ⟨[],by kernel_rfl⟩
set_option maxRecDepth 100000 in
theorem lifted(h:Os)(V:h.Started)(H:Type)(enc:TypeId × Value -> H)(F:Stop.Interp):
  ReturnsInHanded {} Tryz.checked h 4 .any ((OpenSpec.ofChange Rows.linearFeasibleSpec).preRow enc Tryz.prog Tryz.f4 Rows.linearFeasibleRow.domain false Rows.linearFeasibleRow.laid) (((OpenSpec.ofChange Rows.linearFeasibleSpec).at F).post enc Tryz.prog Tryz.f4 false true false false):=by
 obtain⟨X,U⟩:=reads h enc
 refine returnsInHanded_of_row (C:=Tryz.checked) (s:=OpenSpec.ofChange Rows.linearFeasibleSpec) own V kR Tryz.func4
  (witness_row_atRef (enc:=enc) (C:=Tryz.checked) false (qZ h) #[.int .i64 0, .slice none 0 0] rfl kR kR kR
   (OpenSpec.preRow_of_cond 8 U kR (fun k R=>by cases R) kR (AA h _))) ?_
 intro W base args t E r T O _ _ _ G M _;exact contract H enc W base args t E r T O G M
set_option maxRecDepth 100000 in
theorem wP:Rows.linearFeasibleRow.inPlace=Tryz.prog.inPlace 4:=by kernel_rfl
set_option maxRecDepth 100000 in
theorem wR:Rows.linearFeasibleRow.unfollowed=Tryz.prog.unfollowed 4:=by kernel_rfl
set_option maxRecDepth 100000 in
theorem wT:Rows.linearFeasibleRow.recurses=Tryz.prog.recurses 4:=by kernel_rfl
set_option maxRecDepth 100000 in
theorem wU:Rows.linearFeasibleRow.named=Tryz.prog.varsNamed 4:=by kernel_rfl
set_option maxRecDepth 100000 in
theorem joined:joinedFacts Tryz.prog 4 Tryz.f4 Rows.linearFeasibleSpec Rows.linearFeasibleRow=true:=AB wP wR wT wU rfl rfl kR
set_option maxRecDepth 100000 in
theorem said:Rows.LinearFeasibleSaid:=
 OpenClaim.holds_of_cond 4 Tryz.f4 rfl rfl rfl rfl rfl rfl rfl ⟨rfl,rfl,rfl,rfl,rfl⟩ rfl rfl rfl rfl rfl kR Tryz.func4 joined
  (of_decide_eq_true kR) (by unfold Func.isWrapper;first | (rw[if_pos (by decide+kernel)];kernel_rfl) | (rw[if_neg (by decide+kernel)];exact⟨rfl,rfl⟩))
  (fun h r H enc _ F=>by rw[OpenClaim.pre_eq_preRow];exact lifted h r H enc F)
theorem plain(f:FuncId)(h:Func)(E:Tryz.pinned.checked.prog.funcNamed "dowel/dowellaw06.LinearFeasible" =some f)(F:Tryz.pinned.checked.prog.funcs[f]? =some h):
  true=Tryz.pinned.checked.prog.looks [] /\ ∀ (j:Nat) t,h.params[j]? =some t -> Tryz.pinned.checked.prog.wantsStandIn t=false:=by
 obtain rfl:f=4:=Option.some.inj ((show Tryz.prog.funcNamed "dowel/dowellaw06.LinearFeasible" =some 4 by kernel_rfl).symm.trans E) |>.symm
 obtain rfl:h=Tryz.f4:=(Option.some.inj (Tryz.func4.symm.trans F)).symm;refine⟨by kernel_rfl,fun j t C=> ?_⟩;rw[Tryz.params4] at C;have r:= Array.mem_of_getElem? C;have r:t=3 \/ t=23:=by simpa using r
 rcases r with rfl | rfl
 ·exact(show Tryz.prog.wantsStandIn 3=false by kernel_rfl)
 ·exact(show Tryz.prog.wantsStandIn 23=false by kernel_rfl)
theorem card:Rows.LinearFeasibleCardSaid:=
 Claim7.holds_tied_plain_at .later [] _ _ _ _ said (fun _ h=>by cases h) kR (fun _ h=>by cases h) linearFeasible_row_tie rfl ⟨rfl,rfl⟩ kR rfl plain kR
#print axioms card
end cFeasible
end Go.Proofs.YtdefghfjhgmpfaaGreatDoor
