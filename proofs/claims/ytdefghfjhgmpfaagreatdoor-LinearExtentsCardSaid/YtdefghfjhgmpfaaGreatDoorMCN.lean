/- The statement LinearExtentsCardSaid: for every input the call of dowellaw06.LinearExtents returns true and each argument reads behind it as it read before. Conditions: none but those of the given row. -/
import Derived.Test.YtdefghfjhgmpfaaGreatDoorMAV
import Derived.Test.YtdefghfjhgmpfaaGreatDoorMAZ
import Derived.Test.YtdefghfjhgmpfaaGreatDoorMCM
namespace Go.Proofs.YtdefghfjhgmpfaaGreatDoor
namespace cExtents
open Go.ChangeShapes Go.WideShapes Go.ChangeAt Go.RowKit
open Go.ChangeMaps (open_string)
set_option maxRecDepth 100000 in
theorem contract(H:Type)(enc:TypeId × Value -> H)(W:World)(base:Nat)(args:Array Value)(E R:List (DataW H))(O:List MemPlace)
  (r:∀ (j:Nat) t v,Tryz.f5.params[j]? =some t -> args[j]? =some v -> Value.okWide Tryz.prog W .any base t v)
  (F:DataW.Whole enc Tryz.prog Tryz.f5.params.toList Rows.linearExtentsSpec.vars false W args.toList E R O) (T:laidMetH Tryz.prog Rows.linearExtentsRow.laid W) (U:W.ShapedOpen Tryz.prog):
  Calls Tryz.prog 5 args W fun e C=>∃v,e= .returned v /\ Rows.linearExtentsSpec.post enc Tryz.prog Tryz.f5 false true false false W args v C:=by
 have G:=F;obtain⟨p,q,hA0,X,rfl,a0,a1⟩:=F;have h:DataW.TrodAll enc Tryz.prog W 0 (fun _=>true) true Tryz.f5.params.toList args.toList E p:=hA0;have hA2:=h;rw[Tryz.params5] at h r;obtain⟨v0,v1,d0,d1,p0,p1,rfl,rfl,rfl,h0,h1⟩:=trodAll_two h;obtain⟨rfl,rfl⟩:=trodVars_none X;rw[List.append_nil] at G;obtain⟨n0,s0,x0⟩:=K4 (r 0 22 v0 rfl rfl) h0;obtain⟨m1,k1,t1,M,x1⟩:=IK (r 1 23 v1 rfl rfl) h1;have V:Tab W:=Aw (show laidMet Tryz.prog Rows.linearExtentsRow.laid W from T);refine(Lg v0 v1 n0 m1 k1 s0 t1 M W x0 x1 (Al U) V).mono fun e C ⟨Z,Y⟩=> ?_
 subst Z;exact⟨_,rfl,zZ G laidOut kR rfl hA2 rfl rfl (fun _ _ _=>trodAll_cons_mk (shut_bool Tryz.underlying4 _) trodAll_mk0) Y (ok_one kR rfl (okWide_bool_mk Tryz.underlying4 _))⟩
theorem reads(h:Os){H:Type}(enc:TypeId × Value -> H):∃r,DataW.whole enc Tryz.prog ((qZ h).forCall (fun _ _=>0) ⟨#[], #[.slice none 0 0, .slice none 0 0],[]⟩).memory Tryz.f5.params.toList Rows.linearExtentsSpec.vars false (#[.slice none 0 0, .slice none 0 0]:Array Value).toList 8=some ([.nil, .nil],[],r):=
 ⟨[],by kernel_rfl⟩
set_option maxRecDepth 100000 in
theorem lifted(h:Os)(V:h.Started)(H:Type)(enc:TypeId × Value -> H)(F:Stop.Interp):
  ReturnsInHanded {} Tryz.checked h 5 .any ((OpenSpec.ofChange Rows.linearExtentsSpec).preRow enc Tryz.prog Tryz.f5 Rows.linearExtentsRow.domain false Rows.linearExtentsRow.laid) (((OpenSpec.ofChange Rows.linearExtentsSpec).at F).post enc Tryz.prog Tryz.f5 false true false false):=by
 obtain⟨X,U⟩:=reads h enc
 refine returnsInHanded_of_row (C:=Tryz.checked) (s:=OpenSpec.ofChange Rows.linearExtentsSpec) own V kR Tryz.func5
  (witness_row_atRef (enc:=enc) (C:=Tryz.checked) false (qZ h) #[.slice none 0 0, .slice none 0 0] rfl kR kR kR
   (OpenSpec.preRow_of_cond 8 U kR (fun k R=>by cases R) kR (AA h _))) ?_
 intro W base args t E r T O _ _ _ G M _;exact contract H enc W base args t E r T O G M
set_option maxRecDepth 100000 in
theorem wP:Rows.linearExtentsRow.inPlace=Tryz.prog.inPlace 5:=by kernel_rfl
set_option maxRecDepth 100000 in
theorem wR:Rows.linearExtentsRow.unfollowed=Tryz.prog.unfollowed 5:=by kernel_rfl
set_option maxRecDepth 100000 in
theorem wT:Rows.linearExtentsRow.recurses=Tryz.prog.recurses 5:=by kernel_rfl
set_option maxRecDepth 100000 in
theorem wU:Rows.linearExtentsRow.named=Tryz.prog.varsNamed 5:=by kernel_rfl
set_option maxRecDepth 100000 in
theorem joined:joinedFacts Tryz.prog 5 Tryz.f5 Rows.linearExtentsSpec Rows.linearExtentsRow=true:=AB wP wR wT wU rfl rfl kR
set_option maxRecDepth 100000 in
theorem said:Rows.LinearExtentsSaid:=
 OpenClaim.holds_of_cond 5 Tryz.f5 rfl rfl rfl rfl rfl rfl rfl ⟨rfl,rfl,rfl,rfl,rfl⟩ rfl rfl rfl rfl rfl kR Tryz.func5 joined
  (of_decide_eq_true kR) (by unfold Func.isWrapper;first | (rw[if_pos (by decide+kernel)];kernel_rfl) | (rw[if_neg (by decide+kernel)];exact⟨rfl,rfl⟩))
  (fun h r H enc _ F=>by rw[OpenClaim.pre_eq_preRow];exact lifted h r H enc F)
theorem plain(f:FuncId)(h:Func)(E:Tryz.pinned.checked.prog.funcNamed "dowel/dowellaw06.LinearExtents" =some f)(F:Tryz.pinned.checked.prog.funcs[f]? =some h):
  true=Tryz.pinned.checked.prog.looks [] /\ ∀ (j:Nat) t,h.params[j]? =some t -> Tryz.pinned.checked.prog.wantsStandIn t=false:=by
 obtain rfl:f=5:=Option.some.inj ((show Tryz.prog.funcNamed "dowel/dowellaw06.LinearExtents" =some 5 by kernel_rfl).symm.trans E) |>.symm
 obtain rfl:h=Tryz.f5:=(Option.some.inj (Tryz.func5.symm.trans F)).symm;refine⟨by kernel_rfl,fun j t C=> ?_⟩;rw[Tryz.params5] at C;have r:= Array.mem_of_getElem? C;have r:t=22 \/ t=23:=by simpa using r
 rcases r with rfl | rfl
 ·exact(show Tryz.prog.wantsStandIn 22=false by kernel_rfl)
 ·exact(show Tryz.prog.wantsStandIn 23=false by kernel_rfl)
theorem card:Rows.LinearExtentsCardSaid:=
 Claim7.holds_tied_plain_at .later [] _ _ _ _ said (fun _ h=>by cases h) kR (fun _ h=>by cases h) linearExtents_row_tie rfl ⟨rfl,rfl⟩ kR rfl plain kR
#print axioms card
end cExtents
end Go.Proofs.YtdefghfjhgmpfaaGreatDoor
