/- The statement StackupCornersCardSaid: for every input the call of dowellaw40.StackupCorners returns true and each argument reads behind it as it read before. Conditions: none but those of the given row. -/
import Derived.Test.YtokagbahdkfagaaGreatDoorMAR
import Derived.Test.YtokagbahdkfagaaGreatDoorMBT
import Derived.Test.YtokagbahdkfagaaGreatDoorMCJ
namespace Go.Proofs.YtokagbahdkfagaaGreatDoor
namespace cCorners
open Go.ChangeShapes Go.WideShapes Go.ChangeAt Go.RowKit
open Go.ChangeMaps (open_string)
set_option maxRecDepth 100000 in
theorem contract(H:Type)(enc:TypeId × Value -> H)(W:World)(base:Nat)(args:Array Value)(E Z:List (DataW H))(X:List MemPlace)
  (O:∀ (j:Nat) t v,Tryz.f6.params[j]? =some t -> args[j]? =some v -> Value.okWide Tryz.prog W .any base t v)
  (G:DataW.Whole enc Tryz.prog Tryz.f6.params.toList Rows.stackupCornersSpec.vars false W args.toList E Z X) (hL:laidMetH Tryz.prog Rows.stackupCornersRow.laid W) (hS:W.ShapedOpen Tryz.prog):
  Calls Tryz.prog 6 args W fun e r=>∃v,e= .returned v /\ Rows.stackupCornersSpec.post enc Tryz.prog Tryz.f6 false true false false W args v r:=by
 have M:=G;obtain⟨p,q,hA0,hV,rfl,a4,a5⟩:=G;have h:DataW.TrodAll enc Tryz.prog W 0 (fun _=>true) true Tryz.f6.params.toList args.toList E p:=hA0;have hA2:=h;rw[Tryz.params6] at h O;obtain⟨v0,d0,rfl,rfl,h0⟩:=trodAll_one h;obtain⟨rfl,rfl⟩:=trodVars_none hV;rw[List.append_nil] at M;obtain⟨Y,U,T,R,V,a2,a1,a0,a3,rfl,x0⟩:=JB (O 0 49 v0 rfl rfl) h0;have hT:Tab W:=Fb (show laidMet Tryz.prog Rows.stackupCornersRow.laid W from hL);refine(Mw Y U T R V a2 a1 a0 a3 W x0 (Fa hS) hT).mono fun e r ⟨he,hb⟩=> ?_
 subst he;exact⟨_,rfl,F8 M laidOut kR rfl hA2 rfl rfl (fun _ _ _=>trodAll_cons_mk (shut_bool Tryz.underlying4 _) trodAll_mk0) hb (ok_one kR rfl (okWide_bool_mk Tryz.underlying4 _))⟩
theorem reads(h:Os){H:Type}(enc:TypeId × Value -> H):∃r,DataW.whole enc Tryz.prog ((uj h).forCall (fun _ _=>0) ⟨#[], #[.agg #[.slice none 0 0, .slice none 0 0, .slice none 0 0, .slice none 0 0]],[]⟩).memory Tryz.f6.params.toList Rows.stackupCornersSpec.vars false (#[.agg #[.slice none 0 0, .slice none 0 0, .slice none 0 0, .slice none 0 0]]:Array Value).toList 8=some ([.agg [.nil, .nil, .nil, .nil]],[],r):=
 ⟨[],by kernel_rfl⟩
set_option maxRecDepth 100000 in
theorem lifted(h:Os)(V:h.Started)(H:Type)(enc:TypeId × Value -> H)(F:Stop.Interp):
  ReturnsInHanded {} Tryz.checked h 6 .any ((OpenSpec.ofChange Rows.stackupCornersSpec).preRow enc Tryz.prog Tryz.f6 Rows.stackupCornersRow.domain false Rows.stackupCornersRow.laid) (((OpenSpec.ofChange Rows.stackupCornersSpec).at F).post enc Tryz.prog Tryz.f6 false true false false):=by
 obtain⟨X,U⟩:=reads h enc
 refine returnsInHanded_of_row (C:=Tryz.checked) (s:=OpenSpec.ofChange Rows.stackupCornersSpec) own V kR Tryz.func6
  (witness_row_atRef (enc:=enc) (C:=Tryz.checked) false (uj h) #[.agg #[.slice none 0 0, .slice none 0 0, .slice none 0 0, .slice none 0 0]] rfl kR kR kR
   (OpenSpec.preRow_of_cond 8 U kR (fun k R=>by cases R) kR (Fe h _))) ?_
 intro W base args t E r T O _ _ _ G M _;exact contract H enc W base args t E r T O G M
set_option maxRecDepth 100000 in
theorem IP:Rows.stackupCornersRow.inPlace=Tryz.prog.inPlace 6:=by kernel_rfl
set_option maxRecDepth 100000 in
theorem IQ:Rows.stackupCornersRow.unfollowed=Tryz.prog.unfollowed 6:=by kernel_rfl
set_option maxRecDepth 100000 in
theorem IR:Rows.stackupCornersRow.recurses=Tryz.prog.recurses 6:=by kernel_rfl
set_option maxRecDepth 100000 in
theorem IU:Rows.stackupCornersRow.named=Tryz.prog.varsNamed 6:=by kernel_rfl
set_option maxRecDepth 100000 in
theorem joined:joinedFacts Tryz.prog 6 Tryz.f6 Rows.stackupCornersSpec Rows.stackupCornersRow=true:=Fq IP IQ IR IU rfl rfl kR
set_option maxRecDepth 100000 in
theorem said:Rows.StackupCornersSaid:=
 OpenClaim.holds_of_cond 6 Tryz.f6 rfl rfl rfl rfl rfl rfl rfl ⟨rfl,rfl,rfl,rfl,rfl⟩ rfl rfl rfl rfl rfl kR Tryz.func6 joined
  (of_decide_eq_true kR) (by unfold Func.isWrapper;first | (rw[if_pos (by decide+kernel)];kernel_rfl) | (rw[if_neg (by decide+kernel)];exact⟨rfl,rfl⟩))
  (fun h r H enc _ F=>by rw[OpenClaim.pre_eq_preRow];exact lifted h r H enc F)
theorem plain(f:FuncId)(h:Func)(G:Tryz.pinned.checked.prog.funcNamed "dowel/dowellaw40.StackupCorners" =some f)(M:Tryz.pinned.checked.prog.funcs[f]? =some h):
  true=Tryz.pinned.checked.prog.looks [] /\ ∀ (j:Nat) t,h.params[j]? =some t -> Tryz.pinned.checked.prog.wantsStandIn t=false:=by
 obtain rfl:f=6:=Option.some.inj ((show Tryz.prog.funcNamed "dowel/dowellaw40.StackupCorners" =some 6 by kernel_rfl).symm.trans G) |>.symm
 obtain rfl:h=Tryz.f6:=(Option.some.inj (Tryz.func6.symm.trans M)).symm;refine⟨by kernel_rfl,fun j t E=> ?_⟩;rw[Tryz.params6] at E;have r:= Array.mem_of_getElem? E;have r:t=49:=by simpa using r
 subst r;exact(show Tryz.prog.wantsStandIn 49=false by kernel_rfl)
theorem card:Rows.StackupCornersCardSaid:=
 Claim7.holds_tied_plain_at .later [] _ _ _ _ said (fun _ h=>by cases h) kR (fun _ h=>by cases h) stackupCorners_row_tie rfl ⟨rfl,rfl⟩ kR rfl plain kR
#print axioms card
end cCorners
end Go.Proofs.YtokagbahdkfagaaGreatDoor
