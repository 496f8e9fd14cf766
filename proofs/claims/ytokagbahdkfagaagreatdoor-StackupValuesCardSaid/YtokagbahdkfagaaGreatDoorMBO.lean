/- The statement StackupValuesCardSaid: for every input the call of dowellaw40.StackupValues returns true and each argument reads behind it as it read before. Conditions: none but those of the given row. -/
import Derived.Test.YtokagbahdkfagaaGreatDoorMAR
import Derived.Test.YtokagbahdkfagaaGreatDoorMBN
namespace Go.Proofs.YtokagbahdkfagaaGreatDoor
namespace cValues
open Go.ChangeShapes Go.WideShapes Go.ChangeAt Go.RowKit
open Go.ChangeMaps (open_string)
set_option maxRecDepth 100000 in
theorem contract(H:Type)(enc:TypeId × Value -> H)(W:World)(base:Nat)(args:Array Value)(E V:List (DataW H))(T:List MemPlace)
  (h:∀ (j:Nat) t v,Tryz.f3.params[j]? =some t -> args[j]? =some v -> Value.okWide Tryz.prog W .any base t v)
  (G:DataW.Whole enc Tryz.prog Tryz.f3.params.toList Rows.stackupValuesSpec.vars false W args.toList E V T) (Y:laidMetH Tryz.prog Rows.stackupValuesRow.laid W) (Z:W.ShapedOpen Tryz.prog):
  Calls Tryz.prog 3 args W fun e C=>∃v,e= .returned v /\ Rows.stackupValuesSpec.post enc Tryz.prog Tryz.f3 false true false false W args v C:=by
 have M:=G;obtain⟨p,q,hA0,hV,rfl,a0,a1⟩:=G;have r:DataW.TrodAll enc Tryz.prog W 0 (fun _=>true) true Tryz.f3.params.toList args.toList E p:=hA0;have hA2:=r;rw[Tryz.params3] at r h;obtain⟨v0,v1,v2,d0,d1,d2,p0,p1,p2,rfl,rfl,rfl,h0,h1,X⟩:=trodAll_three r;obtain⟨rfl,rfl⟩:=trodVars_none hV;rw[List.append_nil] at M;obtain⟨x0,rfl⟩:=okWide_int Tryz.underlying3 (h 0 3 v0 rfl rfl);obtain⟨O,R,U,rfl,x1⟩:=Fv (h 1 25 v1 rfl rfl) h1;obtain⟨n2,s2,x2⟩:=F9 (h 2 26 v2 rfl rfl) X;have hT:Tab W:=Fb (show laidMet Tryz.prog Rows.stackupValuesRow.laid W from Y);refine(IM x0 O R U v2 n2 s2 W x1 x2.1 (Fa Z) hT).mono fun e C ⟨he,hb⟩=> ?_
 subst he;exact⟨_,rfl,F8 M laidOut kR rfl hA2 rfl rfl (fun _ _ _=>trodAll_cons_mk (shut_bool Tryz.underlying4 _) trodAll_mk0) hb (ok_one kR rfl (okWide_bool_mk Tryz.underlying4 _))⟩
theorem reads(h:Os){H:Type}(enc:TypeId × Value -> H):∃r,DataW.whole enc Tryz.prog ((uj h).forCall (fun _ _=>0) ⟨#[], #[.int .i64 0, .agg #[.string ⟨#[]⟩, .slice none 0 0], .slice none 0 0],[]⟩).memory Tryz.f3.params.toList Rows.stackupValuesSpec.vars false (#[.int .i64 0, .agg #[.string ⟨#[]⟩, .slice none 0 0], .slice none 0 0]:Array Value).toList 8=some ([.lit (.int .i64 0), .agg [.lit (.string []), .nil], .nil],[],r):=
 ⟨[],by kernel_rfl⟩
set_option maxRecDepth 100000 in
theorem lifted(h:Os)(V:h.Started)(H:Type)(enc:TypeId × Value -> H)(F:Stop.Interp):
  ReturnsInHanded {} Tryz.checked h 3 .any ((OpenSpec.ofChange Rows.stackupValuesSpec).preRow enc Tryz.prog Tryz.f3 Rows.stackupValuesRow.domain false Rows.stackupValuesRow.laid) (((OpenSpec.ofChange Rows.stackupValuesSpec).at F).post enc Tryz.prog Tryz.f3 false true false false):=by
 obtain⟨X,U⟩:=reads h enc
 refine returnsInHanded_of_row (C:=Tryz.checked) (s:=OpenSpec.ofChange Rows.stackupValuesSpec) own V kR Tryz.func3
  (witness_row_atRef (enc:=enc) (C:=Tryz.checked) false (uj h) #[.int .i64 0, .agg #[.string ⟨#[]⟩, .slice none 0 0], .slice none 0 0] rfl kR kR kR
   (OpenSpec.preRow_of_cond 8 U kR (fun k R=>by cases R) kR (Fe h _))) ?_
 intro W base args t E r T O _ _ _ G M _;exact contract H enc W base args t E r T O G M
set_option maxRecDepth 100000 in
theorem IP:Rows.stackupValuesRow.inPlace=Tryz.prog.inPlace 3:=by kernel_rfl
set_option maxRecDepth 100000 in
theorem IQ:Rows.stackupValuesRow.unfollowed=Tryz.prog.unfollowed 3:=by kernel_rfl
set_option maxRecDepth 100000 in
theorem IR:Rows.stackupValuesRow.recurses=Tryz.prog.recurses 3:=by kernel_rfl
set_option maxRecDepth 100000 in
theorem IU:Rows.stackupValuesRow.named=Tryz.prog.varsNamed 3:=by kernel_rfl
set_option maxRecDepth 100000 in
theorem joined:joinedFacts Tryz.prog 3 Tryz.f3 Rows.stackupValuesSpec Rows.stackupValuesRow=true:=Fq IP IQ IR IU rfl rfl kR
set_option maxRecDepth 100000 in
theorem said:Rows.StackupValuesSaid:=
 OpenClaim.holds_of_cond 3 Tryz.f3 rfl rfl rfl rfl rfl rfl rfl ⟨rfl,rfl,rfl,rfl,rfl⟩ rfl rfl rfl rfl rfl kR Tryz.func3 joined
  (of_decide_eq_true kR) (by unfold Func.isWrapper;first | (rw[if_pos (by decide+kernel)];kernel_rfl) | (rw[if_neg (by decide+kernel)];exact⟨rfl,rfl⟩))
  (fun h r H enc _ F=>by rw[OpenClaim.pre_eq_preRow];exact lifted h r H enc F)
theorem plain(f:FuncId)(h:Func)(E:Tryz.pinned.checked.prog.funcNamed "dowel/dowellaw40.StackupValues" =some f)(G:Tryz.pinned.checked.prog.funcs[f]? =some h):
  true=Tryz.pinned.checked.prog.looks [] /\ ∀ (j:Nat) t,h.params[j]? =some t -> Tryz.pinned.checked.prog.wantsStandIn t=false:=by
 obtain rfl:f=3:=Option.some.inj ((show Tryz.prog.funcNamed "dowel/dowellaw40.StackupValues" =some 3 by kernel_rfl).symm.trans E) |>.symm
 obtain rfl:h=Tryz.f3:=(Option.some.inj (Tryz.func3.symm.trans G)).symm;refine⟨by kernel_rfl,fun j t C=> ?_⟩;rw[Tryz.params3] at C;have r:= Array.mem_of_getElem? C;have r:t=3 \/ t=25 \/ t=26:=by simpa using r
 rcases r with rfl | rfl | rfl
 ·exact(show Tryz.prog.wantsStandIn 3=false by kernel_rfl)
 ·exact(show Tryz.prog.wantsStandIn 25=false by kernel_rfl)
 ·exact(show Tryz.prog.wantsStandIn 26=false by kernel_rfl)
theorem card:Rows.StackupValuesCardSaid:=
 Claim7.holds_tied_plain_at .later [] _ _ _ _ said (fun _ h=>by cases h) kR (fun _ h=>by cases h) stackupValues_row_tie rfl ⟨rfl,rfl⟩ kR rfl plain kR
#print axioms card
end cValues
end Go.Proofs.YtokagbahdkfagaaGreatDoor
