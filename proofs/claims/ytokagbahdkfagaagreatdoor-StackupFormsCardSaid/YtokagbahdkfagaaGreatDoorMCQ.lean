/- The statement StackupFormsCardSaid: for every input the call of dowellaw40.StackupForms returns true and each argument reads behind it as it read before. Conditions: none but those of the given row. -/
import Derived.Test.YtokagbahdkfagaaGreatDoorMAR
import Derived.Test.YtokagbahdkfagaaGreatDoorMCP
namespace Go.Proofs.YtokagbahdkfagaaGreatDoor
namespace cForms
open Go.ChangeShapes Go.WideShapes Go.ChangeAt Go.RowKit
open Go.ChangeMaps (open_string)
set_option maxRecDepth 100000 in
theorem contract(H:Type)(enc:TypeId × Value -> H)(W:World)(base:Nat)(args:Array Value)(G gs:List (DataW H))(X:List MemPlace)
  (h:∀ (j:Nat) t v,Tryz.f9.params[j]? =some t -> args[j]? =some v -> Value.okWide Tryz.prog W .any base t v)
  (M:DataW.Whole enc Tryz.prog Tryz.f9.params.toList Rows.stackupFormsSpec.vars false W args.toList G gs X) (hL:laidMetH Tryz.prog Rows.stackupFormsRow.laid W) (hS:W.ShapedOpen Tryz.prog):
  Calls Tryz.prog 9 args W fun e E=>∃v,e= .returned v /\ Rows.stackupFormsSpec.post enc Tryz.prog Tryz.f9 false true false false W args v E:=by
 have O:=M;obtain⟨p,q,hA0,hV,rfl,a0,a1⟩:=M;have r:DataW.TrodAll enc Tryz.prog W 0 (fun _=>true) true Tryz.f9.params.toList args.toList G p:=hA0;have hA2:=r;rw[Tryz.params9] at r h;obtain⟨v0,v1,v2,d0,d1,d2,p0,p1,p2,rfl,rfl,rfl,h0,h1,h2⟩:=trodAll_three r;obtain⟨rfl,rfl⟩:=trodVars_none hV;rw[List.append_nil] at O;obtain⟨R,U,Y,rfl,x0⟩:=Fv (h 0 25 v0 rfl rfl) h0;obtain⟨T,V,Z,rfl,x1⟩:=Fv (h 1 25 v1 rfl rfl) h1;obtain⟨x2,rfl⟩:=okWide_string Tryz.underlying22 (h 2 22 v2 rfl rfl);have hT:Tab W:=Fb (show laidMet Tryz.prog Rows.stackupFormsRow.laid W from hL);refine(Nz R T U V Y Z x2 W x0 x1 (Fa hS) hT).mono fun e E ⟨he,hb⟩=> ?_
 subst he;exact⟨_,rfl,F8 O laidOut kR rfl hA2 rfl rfl (fun _ _ _=>trodAll_cons_mk (shut_bool Tryz.underlying4 _) trodAll_mk0) hb (ok_one kR rfl (okWide_bool_mk Tryz.underlying4 _))⟩
theorem reads(h:Os){H:Type}(enc:TypeId × Value -> H):∃r,DataW.whole enc Tryz.prog ((uj h).forCall (fun _ _=>0) ⟨#[], #[.agg #[.string ⟨#[]⟩, .slice none 0 0], .agg #[.string ⟨#[]⟩, .slice none 0 0], .string ⟨#[]⟩],[]⟩).memory Tryz.f9.params.toList Rows.stackupFormsSpec.vars false (#[.agg #[.string ⟨#[]⟩, .slice none 0 0], .agg #[.string ⟨#[]⟩, .slice none 0 0], .string ⟨#[]⟩]:Array Value).toList 8=some ([.agg [.lit (.string []), .nil], .agg [.lit (.string []), .nil], .lit (.string [])],[],r):=
 ⟨[],by kernel_rfl⟩
set_option maxRecDepth 100000 in
theorem lifted(h:Os)(V:h.Started)(H:Type)(enc:TypeId × Value -> H)(F:Stop.Interp):
  ReturnsInHanded {} Tryz.checked h 9 .any ((OpenSpec.ofChange Rows.stackupFormsSpec).preRow enc Tryz.prog Tryz.f9 Rows.stackupFormsRow.domain false Rows.stackupFormsRow.laid) (((OpenSpec.ofChange Rows.stackupFormsSpec).at F).post enc Tryz.prog Tryz.f9 false true false false):=by
 obtain⟨X,U⟩:=reads h enc
 refine returnsInHanded_of_row (C:=Tryz.checked) (s:=OpenSpec.ofChange Rows.stackupFormsSpec) own V kR Tryz.func9
  (witness_row_atRef (enc:=enc) (C:=Tryz.checked) false (uj h) #[.agg #[.string ⟨#[]⟩, .slice none 0 0], .agg #[.string ⟨#[]⟩, .slice none 0 0], .string ⟨#[]⟩] rfl kR kR kR
   (OpenSpec.preRow_of_cond 8 U kR (fun k R=>by cases R) kR (Fe h _))) ?_
 intro W base args t E r T O _ _ _ G M _;exact contract H enc W base args t E r T O G M
set_option maxRecDepth 100000 in
theorem IP:Rows.stackupFormsRow.inPlace=Tryz.prog.inPlace 9:=by kernel_rfl
set_option maxRecDepth 100000 in
theorem IQ:Rows.stackupFormsRow.unfollowed=Tryz.prog.unfollowed 9:=by kernel_rfl
set_option maxRecDepth 100000 in
theorem IR:Rows.stackupFormsRow.recurses=Tryz.prog.recurses 9:=by kernel_rfl
set_option maxRecDepth 100000 in
theorem IU:Rows.stackupFormsRow.named=Tryz.prog.varsNamed 9:=by kernel_rfl
set_option maxRecDepth 100000 in
theorem joined:joinedFacts Tryz.prog 9 Tryz.f9 Rows.stackupFormsSpec Rows.stackupFormsRow=true:=Fq IP IQ IR IU rfl rfl kR
set_option maxRecDepth 100000 in
theorem said:Rows.StackupFormsSaid:=
 OpenClaim.holds_of_cond 9 Tryz.f9 rfl rfl rfl rfl rfl rfl rfl ⟨rfl,rfl,rfl,rfl,rfl⟩ rfl rfl rfl rfl rfl kR Tryz.func9 joined
  (of_decide_eq_true kR) (by unfold Func.isWrapper;first | (rw[if_pos (by decide+kernel)];kernel_rfl) | (rw[if_neg (by decide+kernel)];exact⟨rfl,rfl⟩))
  (fun h r H enc _ F=>by rw[OpenClaim.pre_eq_preRow];exact lifted h r H enc F)
theorem plain(f:FuncId)(h:Func)(G:Tryz.pinned.checked.prog.funcNamed "dowel/dowellaw40.StackupForms" =some f)(M:Tryz.pinned.checked.prog.funcs[f]? =some h):
  true=Tryz.pinned.checked.prog.looks [] /\ ∀ (j:Nat) t,h.params[j]? =some t -> Tryz.pinned.checked.prog.wantsStandIn t=false:=by
 obtain rfl:f=9:=Option.some.inj ((show Tryz.prog.funcNamed "dowel/dowellaw40.StackupForms" =some 9 by kernel_rfl).symm.trans G) |>.symm
 obtain rfl:h=Tryz.f9:=(Option.some.inj (Tryz.func9.symm.trans M)).symm;refine⟨by kernel_rfl,fun j t E=> ?_⟩;rw[Tryz.params9] at E;have r:= Array.mem_of_getElem? E;have r:t=25 \/ t=22:=by simpa using r
 rcases r with rfl | rfl
 ·exact(show Tryz.prog.wantsStandIn 25=false by kernel_rfl)
 ·exact(show Tryz.prog.wantsStandIn 22=false by kernel_rfl)
theorem card:Rows.StackupFormsCardSaid:=
 Claim7.holds_tied_plain_at .later [] _ _ _ _ said (fun _ h=>by cases h) kR (fun _ h=>by cases h) stackupForms_row_tie rfl ⟨rfl,rfl⟩ kR rfl plain kR
#print axioms card
end cForms
end Go.Proofs.YtokagbahdkfagaaGreatDoor
