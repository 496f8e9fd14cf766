/- The statement StackupBoundsCardSaid: for every input the call of dowellaw40.StackupBounds returns true and each argument reads behind it as it read before. Conditions: none but those of the given row. -/
import Derived.Test.YtokagbahdkfagaaGreatDoorMAR
import Derived.Test.YtokagbahdkfagaaGreatDoorMBT
import Derived.Test.YtokagbahdkfagaaGreatDoorMCB
namespace Go.Proofs.YtokagbahdkfagaaGreatDoor
namespace cBounds
open Go.ChangeShapes Go.WideShapes Go.ChangeAt Go.RowKit
open Go.ChangeMaps (open_string)
set_option maxRecDepth 100000 in
theorem contract(H:Type)(enc:TypeId × Value -> H)(W:World)(base:Nat)(args:Array Value)(G Z:List (DataW H))(X:List MemPlace)
  (r:∀ (j:Nat) t v,Tryz.f7.params[j]? =some t -> args[j]? =some v -> Value.okWide Tryz.prog W .any base t v)
  (M:DataW.Whole enc Tryz.prog Tryz.f7.params.toList Rows.stackupBoundsSpec.vars false W args.toList G Z X) (hL:laidMetH Tryz.prog Rows.stackupBoundsRow.laid W) (hS:W.ShapedOpen Tryz.prog):
  Calls Tryz.prog 7 args W fun e E=>∃v,e= .returned v /\ Rows.stackupBoundsSpec.post enc Tryz.prog Tryz.f7 false true false false W args v E:=by
 have O:=M;obtain⟨p,q,hA0,hV,rfl,a5,a6⟩:=M;have h:DataW.TrodAll enc Tryz.prog W 0 (fun _=>true) true Tryz.f7.params.toList args.toList G p:=hA0;have hA2:=h;rw[Tryz.params7] at h r;obtain⟨v0,v1,d0,d1,p0,p1,rfl,rfl,rfl,h0,h1⟩:=trodAll_two h;obtain⟨rfl,rfl⟩:=trodVars_none hV;rw[List.append_nil] at O;obtain⟨Y,U,T,R,V,a3,a2,a1,a4,rfl,x0⟩:=JB (r 0 49 v0 rfl rfl) h0;obtain⟨a0,rfl,x1⟩:=JC (r 1 64 v1 rfl rfl) h1;have hT:Tab W:=Fb (show laidMet Tryz.prog Rows.stackupBoundsRow.laid W from hL);refine(K3 Y U T R V a3 a2 a1 a4 a0 W x0 x1 (Fa hS) hT).mono fun e E ⟨he,hb⟩=> ?_
 subst he;exact⟨_,rfl,F8 O laidOut kR rfl hA2 rfl rfl (fun _ _ _=>trodAll_cons_mk (shut_bool Tryz.underlying4 _) trodAll_mk0) hb (ok_one kR rfl (okWide_bool_mk Tryz.underlying4 _))⟩
theorem reads(h:Os){H:Type}(enc:TypeId × Value -> H):∃r,DataW.whole enc Tryz.prog ((uj h).forCall (fun _ _=>0) ⟨#[], #[.agg #[.slice none 0 0, .slice none 0 0, .slice none 0 0, .slice none 0 0], .agg #[.int .u8 0, .int .u8 0, .int .u8 0, .int .u8 0, .int .u8 0]],[]⟩).memory Tryz.f7.params.toList Rows.stackupBoundsSpec.vars false (#[.agg #[.slice none 0 0, .slice none 0 0, .slice none 0 0, .slice none 0 0], .agg #[.int .u8 0, .int .u8 0, .int .u8 0, .int .u8 0, .int .u8 0]]:Array Value).toList 8=some ([.agg [.nil, .nil, .nil, .nil], .agg [.lit (.int .u8 0), .lit (.int .u8 0), .lit (.int .u8 0), .lit (.int .u8 0), .lit (.int .u8 0)]],[],r):=
 ⟨[],by kernel_rfl⟩
set_option maxRecDepth 100000 in
theorem lifted(h:Os)(V:h.Started)(H:Type)(enc:TypeId × Value -> H)(F:Stop.Interp):
  ReturnsInHanded {} Tryz.checked h 7 .any ((OpenSpec.ofChange Rows.stackupBoundsSpec).preRow enc Tryz.prog Tryz.f7 Rows.stackupBoundsRow.domain false Rows.stackupBoundsRow.laid) (((OpenSpec.ofChange Rows.stackupBoundsSpec).at F).post enc Tryz.prog Tryz.f7 false true false false):=by
 obtain⟨X,U⟩:=reads h enc
 refine returnsInHanded_of_row (C:=Tryz.checked) (s:=OpenSpec.ofChange Rows.stackupBoundsSpec) own V kR Tryz.func7
  (witness_row_atRef (enc:=enc) (C:=Tryz.checked) false (uj h) #[.agg #[.slice none 0 0, .slice none 0 0, .slice none 0 0, .slice none 0 0], .agg #[.int .u8 0, .int .u8 0, .int .u8 0, .int .u8 0, .int .u8 0]] rfl kR kR kR
   (OpenSpec.preRow_of_cond 8 U kR (fun k R=>by cases R) kR (Fe h _))) ?_
 intro W base args t E r T O _ _ _ G M _;exact contract H enc W base args t E r T O G M
set_option maxRecDepth 100000 in
theorem IP:Rows.stackupBoundsRow.inPlace=Tryz.prog.inPlace 7:=by kernel_rfl
set_option maxRecDepth 100000 in
theorem IQ:Rows.stackupBoundsRow.unfollowed=Tryz.prog.unfollowed 7:=by kernel_rfl
set_option maxRecDepth 100000 in
theorem IR:Rows.stackupBoundsRow.recurses=Tryz.prog.recurses 7:=by kernel_rfl
set_option maxRecDepth 100000 in
theorem IU:Rows.stackupBoundsRow.named=Tryz.prog.varsNamed 7:=by kernel_rfl
set_option maxRecDepth 100000 in
theorem joined:joinedFacts Tryz.prog 7 Tryz.f7 Rows.stackupBoundsSpec Rows.stackupBoundsRow=true:=Fq IP IQ IR IU rfl rfl kR
set_option maxRecDepth 100000 in
theorem said:Rows.StackupBoundsSaid:=
 OpenClaim.holds_of_cond 7 Tryz.f7 rfl rfl rfl rfl rfl rfl rfl ⟨rfl,rfl,rfl,rfl,rfl⟩ rfl rfl rfl rfl rfl kR Tryz.func7 joined
  (of_decide_eq_true kR) (by unfold Func.isWrapper;first | (rw[if_pos (by decide+kernel)];kernel_rfl) | (rw[if_neg (by decide+kernel)];exact⟨rfl,rfl⟩))
  (fun h r H enc _ F=>by rw[OpenClaim.pre_eq_preRow];exact lifted h r H enc F)
theorem plain(f:FuncId)(h:Func)(G:Tryz.pinned.checked.prog.funcNamed "dowel/dowellaw40.StackupBounds" =some f)(M:Tryz.pinned.checked.prog.funcs[f]? =some h):
  true=Tryz.pinned.checked.prog.looks [] /\ ∀ (j:Nat) t,h.params[j]? =some t -> Tryz.pinned.checked.prog.wantsStandIn t=false:=by
 obtain rfl:f=7:=Option.some.inj ((show Tryz.prog.funcNamed "dowel/dowellaw40.StackupBounds" =some 7 by kernel_rfl).symm.trans G) |>.symm
 obtain rfl:h=Tryz.f7:=(Option.some.inj (Tryz.func7.symm.trans M)).symm;refine⟨by kernel_rfl,fun j t E=> ?_⟩;rw[Tryz.params7] at E;have r:= Array.mem_of_getElem? E;have r:t=49 \/ t=64:=by simpa using r
 rcases r with rfl | rfl
 ·exact(show Tryz.prog.wantsStandIn 49=false by kernel_rfl)
 ·exact(show Tryz.prog.wantsStandIn 64=false by kernel_rfl)
theorem card:Rows.StackupBoundsCardSaid:=
 Claim7.holds_tied_plain_at .later [] _ _ _ _ said (fun _ h=>by cases h) kR (fun _ h=>by cases h) stackupBounds_row_tie rfl ⟨rfl,rfl⟩ kR rfl plain kR
#print axioms card
end cBounds
end Go.Proofs.YtokagbahdkfagaaGreatDoor
