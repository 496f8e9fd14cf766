/- The statement StackupChecksCardSaid: for every input the call of dowellaw40.StackupChecks returns true and each argument reads behind it as it read before. Conditions: none but those of the given row. -/
import Derived.Test.YtokagbahdkfagaaGreatDoorMAR
import Derived.Test.YtokagbahdkfagaaGreatDoorMCD
import Derived.Test.YtokagbahdkfagaaGreatDoorMCE
namespace Go.Proofs.YtokagbahdkfagaaGreatDoor
namespace cChecks
open Go.ChangeShapes Go.WideShapes Go.ChangeAt Go.RowKit
open Go.ChangeMaps (open_string)
set_option maxRecDepth 100000 in
theorem contract(H:Type)(enc:TypeId × Value -> H)(W:World)(base:Nat)(args:Array Value)(E X:List (DataW H))(V:List MemPlace)
  (O:∀ (j:Nat) t v,Tryz.f13.params[j]? =some t -> args[j]? =some v -> Value.okWide Tryz.prog W .any base t v)
  (G:DataW.Whole enc Tryz.prog Tryz.f13.params.toList Rows.stackupChecksSpec.vars false W args.toList E X V) (Y:laidMetH Tryz.prog Rows.stackupChecksRow.laid W) (Z:W.ShapedOpen Tryz.prog):
  Calls Tryz.prog 13 args W fun e r=>∃v,e= .returned v /\ Rows.stackupChecksSpec.post enc Tryz.prog Tryz.f13 false true false false W args v r:=by
 have M:=G;obtain⟨p,q,hA0,hV,rfl,a2,a3⟩:=G;have h:DataW.TrodAll enc Tryz.prog W 0 (fun _=>true) true Tryz.f13.params.toList args.toList E p:=hA0;have hA2:=h;rw[Tryz.params13] at h O;obtain⟨v0,d0,rfl,rfl,h0⟩:=trodAll_one h;obtain⟨rfl,rfl⟩:=trodVars_none hV;rw[List.append_nil] at M;obtain⟨U,R,T,a0,a1,rfl,x0⟩:=KF (O 0 58 v0 rfl rfl) h0;have hT:Tab W:=Fb (show laidMet Tryz.prog Rows.stackupChecksRow.laid W from Y);refine(KZ U R T a0 a1 W x0 (Fa Z) hT).mono fun e r ⟨he,hb⟩=> ?_
 subst he;exact⟨_,rfl,F8 M laidOut kR rfl hA2 rfl rfl (fun _ _ _=>trodAll_cons_mk (shut_bool Tryz.underlying4 _) trodAll_mk0) hb (ok_one kR rfl (okWide_bool_mk Tryz.underlying4 _))⟩
theorem reads(h:Os){H:Type}(enc:TypeId × Value -> H):∃r,DataW.whole enc Tryz.prog ((uj h).forCall (fun _ _=>0) ⟨#[], #[.agg #[.slice none 0 0, .slice none 0 0]],[]⟩).memory Tryz.f13.params.toList Rows.stackupChecksSpec.vars false (#[.agg #[.slice none 0 0, .slice none 0 0]]:Array Value).toList 8=some ([.agg [.nil, .nil]],[],r):=
 ⟨[],by kernel_rfl⟩
set_option maxRecDepth 100000 in
theorem lifted(h:Os)(V:h.Started)(H:Type)(enc:TypeId × Value -> H)(F:Stop.Interp):
  ReturnsInHanded {} Tryz.checked h 13 .any ((OpenSpec.ofChange Rows.stackupChecksSpec).preRow enc Tryz.prog Tryz.f13 Rows.stackupChecksRow.domain false Rows.stackupChecksRow.laid) (((OpenSpec.ofChange Rows.stackupChecksSpec).at F).post enc Tryz.prog Tryz.f13 false true false false):=by
 obtain⟨X,U⟩:=reads h enc
 refine returnsInHanded_of_row (C:=Tryz.checked) (s:=OpenSpec.ofChange Rows.stackupChecksSpec) own V kR Tryz.func13
  (witness_row_atRef (enc:=enc) (C:=Tryz.checked) false (uj h) #[.agg #[.slice none 0 0, .slice none 0 0]] rfl kR kR kR
   (OpenSpec.preRow_of_cond 8 U kR (fun k R=>by cases R) kR (Fe h _))) ?_
 intro W base args t E r T O _ _ _ G M _;exact contract H enc W base args t E r T O G M
set_option maxRecDepth 100000 in
theorem IP:Rows.stackupChecksRow.inPlace=Tryz.prog.inPlace 13:=by kernel_rfl
set_option maxRecDepth 100000 in
theorem IQ:Rows.stackupChecksRow.unfollowed=Tryz.prog.unfollowed 13:=by kernel_rfl
set_option maxRecDepth 100000 in
theorem IR:Rows.stackupChecksRow.recurses=Tryz.prog.recurses 13:=by kernel_rfl
set_option maxRecDepth 100000 in
theorem IU:Rows.stackupChecksRow.named=Tryz.prog.varsNamed 13:=by kernel_rfl
set_option maxRecDepth 100000 in
theorem joined:joinedFacts Tryz.prog 13 Tryz.f13 Rows.stackupChecksSpec Rows.stackupChecksRow=true:=Fq IP IQ IR IU rfl rfl kR
set_option maxRecDepth 100000 in
theorem said:Rows.StackupChecksSaid:=
 OpenClaim.holds_of_cond 13 Tryz.f13 rfl rfl rfl rfl rfl rfl rfl ⟨rfl,rfl,rfl,rfl,rfl⟩ rfl rfl rfl rfl rfl kR Tryz.func13 joined
  (of_decide_eq_true kR) (by unfold Func.isWrapper;first | (rw[if_pos (by decide+kernel)];kernel_rfl) | (rw[if_neg (by decide+kernel)];exact⟨rfl,rfl⟩))
  (fun h r H enc _ F=>by rw[OpenClaim.pre_eq_preRow];exact lifted h r H enc F)
theorem plain(f:FuncId)(h:Func)(G:Tryz.pinned.checked.prog.funcNamed "dowel/dowellaw40.StackupChecks" =some f)(M:Tryz.pinned.checked.prog.funcs[f]? =some h):
  true=Tryz.pinned.checked.prog.looks [] /\ ∀ (j:Nat) t,h.params[j]? =some t -> Tryz.pinned.checked.prog.wantsStandIn t=false:=by
 obtain rfl:f=13:=Option.some.inj ((show Tryz.prog.funcNamed "dowel/dowellaw40.StackupChecks" =some 13 by kernel_rfl).symm.trans G) |>.symm
 obtain rfl:h=Tryz.f13:=(Option.some.inj (Tryz.func13.symm.trans M)).symm;refine⟨by kernel_rfl,fun j t E=> ?_⟩;rw[Tryz.params13] at E;have r:= Array.mem_of_getElem? E;have r:t=58:=by simpa using r
 subst r;exact(show Tryz.prog.wantsStandIn 58=false by kernel_rfl)
theorem card:Rows.StackupChecksCardSaid:=
 Claim7.holds_tied_plain_at .later [] _ _ _ _ said (fun _ h=>by cases h) kR (fun _ h=>by cases h) stackupChecks_row_tie rfl ⟨rfl,rfl⟩ kR rfl plain kR
#print axioms card
end cChecks
end Go.Proofs.YtokagbahdkfagaaGreatDoor
