/- The statement LinearReducesCardSaid: for every input the call of dowellaw06.LinearReduces returns true and each argument reads behind it as it read before. Conditions: none but those of the given row. -/
import Derived.Test.YtdefghfjhgmpfaaGreatDoorMAV
import Derived.Test.YtdefghfjhgmpfaaGreatDoorMAZ
import Derived.Test.YtdefghfjhgmpfaaGreatDoorMCS
namespace Go.Proofs.YtdefghfjhgmpfaaGreatDoor
namespace cReduces
open Go.ChangeShapes Go.WideShapes Go.ChangeAt Go.RowKit
open Go.ChangeMaps (open_string)
set_option maxRecDepth 100000 in
theorem contract(H:Type)(enc:TypeId × Value -> H)(W:World)(base:Nat)(args:Array Value)(E R:List (DataW H))(O:List MemPlace)
  (r:∀ (j:Nat) t v,Tryz.f11.params[j]? =some t -> args[j]? =some v -> Value.okWide Tryz.prog W .any base t v)
  (F:DataW.Whole enc Tryz.prog Tryz.f11.params.toList Rows.linearReducesSpec.vars false W args.toList E R O) (T:laidMetH Tryz.prog Rows.linearReducesRow.laid W) (U:W.ShapedOpen Tryz.prog):
  Calls Tryz.prog 11 args W fun e C=>∃v,e= .returned v /\ Rows.linearReducesSpec.post enc Tryz.prog Tryz.f11 false true false false W args v C:=by
 have G:=F;obtain⟨p,q,hA0,X,rfl,a0,a1⟩:=F;have h:DataW.TrodAll enc Tryz.prog W 0 (fun _=>true) true Tryz.f11.params.toList args.toList E p:=hA0;have hA2:=h;rw[Tryz.params11] at h r;obtain⟨v0,v1,d0,d1,p0,p1,rfl,rfl,rfl,h0,h1⟩:=trodAll_two h;obtain⟨rfl,rfl⟩:=trodVars_none X;rw[List.append_nil] at G;obtain⟨x0,rfl⟩:=okWide_int Tryz.underlying3 (r 0 3 v0 rfl rfl);obtain⟨m1,k1,t1,M,x1⟩:=IK (r 1 23 v1 rfl rfl) h1;have V:Tab W:=Aw (show laidMet Tryz.prog Rows.linearReducesRow.laid W from T);refine(MG x0 v1 m1 k1 t1 M W x1 (Al U) V).mono fun e C ⟨Z,Y⟩=> ?_
 subst Z;exact⟨_,rfl,zZ G laidOut kR rfl hA2 rfl rfl (fun _ _ _=>trodAll_cons_mk (shut_bool Tryz.underlying4 _) trodAll_mk0) Y (ok_one kR rfl (okWide_bool_mk Tryz.underlying4 _))⟩
theorem reads(h:Os){H:Type}(enc:TypeId × Value -> H):∃r,DataW.whole enc Tryz.prog ((qZ h).forCall (fun _ _=>0) ⟨#[], #[.int .i64 0, .slice none 0 0],[]⟩).memory Tryz.f11.params.toList Rows.linearReducesSpec.vars false (#[.int .i64 0, .slice none 0 0]:Array Value).toList 8=some ([.lit (.int .i64 0), .nil],[],r):=
 ⟨[],by kernel_rfl⟩
set_option maxRecDepth 100000 in
theorem lifted(h:Os)(V:h.Started)(H:Type)(enc:TypeId × Value -> H)(F:Stop.Interp):
  ReturnsInHanded {} Tryz.checked h 11 .any ((OpenSpec.ofChange Rows.linearReducesSpec).preRow enc Tryz.prog Tryz.f11 Rows.linearReducesRow.domain false Rows.linearReducesRow.laid) (((OpenSpec.ofChange Rows.linearReducesSpec).at F).post enc Tryz.prog Tryz.f11 false true false false):=by
 obtain⟨X,U⟩:=reads h enc
 refine returnsInHanded_of_row (C:=Tryz.checked) (s:=OpenSpec.ofChange Rows.linearReducesSpec) own V kR Tryz.func11
  (witness_row_atRef (enc:=enc) (C:=Tryz.checked) false (qZ h) #[.int .i64 0, .slice none 0 0] rfl kR kR kR
   (OpenSpec.preRow_of_cond 8 U kR (fun k R=>by cases R) kR (AA h _))) ?_
 intro W base args t E r T O _ _ _ G M _;exact contract H enc W base args t E r T O G M
set_option maxRecDepth 100000 in
theorem wP:Rows.linearReducesRow.inPlace=Tryz.prog.inPlace 11:=by kernel_rfl
set_option maxRecDepth 100000 in
theorem wR:Rows.linearReducesRow.unfollowed=Tryz.prog.unfollowed 11:=by kernel_rfl
set_option maxRecDepth 100000 in
theorem wT:Rows.linearReducesRow.recurses=Tryz.prog.recurses 11:=by kernel_rfl
set_option maxRecDepth 100000 in
theorem wU:Rows.linearReducesRow.named=Tryz.prog.varsNamed 11:=by kernel_rfl
set_option maxRecDepth 100000 in
theorem joined:joinedFacts Tryz.prog 11 Tryz.f11 Rows.linearReducesSpec Rows.linearReducesRow=true:=AB wP wR wT wU rfl rfl kR
set_option maxRecDepth 100000 in
theorem said:Rows.LinearReducesSaid:=
 OpenClaim.holds_of_cond 11 Tryz.f11 rfl rfl rfl rfl rfl rfl rfl ⟨rfl,rfl,rfl,rfl,rfl⟩ rfl rfl rfl rfl rfl kR Tryz.func11 joined
  (of_decide_eq_true kR) (by unfold Func.isWrapper;first | (rw[if_pos (by decide+kernel)];kernel_rfl) | (rw[if_neg (by decide+kernel)];exact⟨rfl,rfl⟩))
  (fun h r H enc _ F=>by rw[OpenClaim.pre_eq_preRow];exact lifted h r H enc F)
theorem plain(f:FuncId)(fn:Func)(C:Tryz.pinned.checked.prog.funcNamed "dowel/dowellaw06.LinearReduces" =some f)(E:Tryz.pinned.checked.prog.funcs[f]? =some fn):
  true=Tryz.pinned.checked.prog.looks [] /\ ∀ (j:Nat) t,fn.params[j]? =some t -> Tryz.pinned.checked.prog.wantsStandIn t=false:=by
 obtain rfl:f=11:=Option.some.inj ((show Tryz.prog.funcNamed "dowel/dowellaw06.LinearReduces" =some 11 by kernel_rfl).symm.trans C) |>.symm
 obtain rfl:fn=Tryz.f11:=(Option.some.inj (Tryz.func11.symm.trans E)).symm;refine⟨by kernel_rfl,fun j t r=> ?_⟩;rw[Tryz.params11] at r;have h:= Array.mem_of_getElem? r;have h:t=3 \/ t=23:=by simpa using h
 rcases h with rfl | rfl
 ·exact(show Tryz.prog.wantsStandIn 3=false by kernel_rfl)
 ·exact(show Tryz.prog.wantsStandIn 23=false by kernel_rfl)
theorem card:Rows.LinearReducesCardSaid:=
 Claim7.holds_tied_plain_at .later [] _ _ _ _ said (fun _ h=>by cases h) kR (fun _ h=>by cases h) linearReduces_row_tie rfl ⟨rfl,rfl⟩ kR rfl plain kR
#print axioms card
end cReduces
end Go.Proofs.YtdefghfjhgmpfaaGreatDoor
