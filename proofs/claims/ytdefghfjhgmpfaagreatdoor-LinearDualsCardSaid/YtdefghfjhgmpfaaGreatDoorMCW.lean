/- The statement LinearDualsCardSaid: for every input the call of dowellaw06.LinearDuals returns true and each argument reads behind it as it read before. Conditions: none but those of the given row. -/
import Derived.Test.YtdefghfjhgmpfaaGreatDoorMAV
import Derived.Test.YtdefghfjhgmpfaaGreatDoorMBA
import Derived.Test.YtdefghfjhgmpfaaGreatDoorMCV
namespace Go.Proofs.YtdefghfjhgmpfaaGreatDoor
namespace cDuals
open Go.ChangeShapes Go.WideShapes Go.ChangeAt Go.RowKit
open Go.ChangeMaps (open_string)
set_option maxRecDepth 100000 in
theorem contract(H:Type)(enc:TypeId × Value -> H)(W:World)(base:Nat)(args:Array Value)(F T:List (DataW H))(R:List MemPlace)
  (O:∀ (j:Nat) t v,Tryz.f3.params[j]? =some t -> args[j]? =some v -> Value.okWide Tryz.prog W .any base t v)
  (G:DataW.Whole enc Tryz.prog Tryz.f3.params.toList Rows.linearDualsSpec.vars false W args.toList F T R) (U:laidMetH Tryz.prog Rows.linearDualsRow.laid W) (V:W.ShapedOpen Tryz.prog):
  Calls Tryz.prog 3 args W fun e E=>∃v,e= .returned v /\ Rows.linearDualsSpec.post enc Tryz.prog Tryz.f3 false true false false W args v E:=by
 have M:=G;obtain⟨p,q,hA0,Y,rfl,a4,a5⟩:=G;have h:DataW.TrodAll enc Tryz.prog W 0 (fun _=>true) true Tryz.f3.params.toList args.toList F p:=hA0;have hA2:=h;rw[Tryz.params3] at h O;obtain⟨v0,d0,rfl,rfl,h0⟩:=trodAll_one h;obtain⟨rfl,rfl⟩:=trodVars_none Y;rw[List.append_nil] at M;obtain⟨a0,a1,n0,o0,m0,k0,t0,b0,rfl,a2,a3⟩:=IQ (O 0 25 v0 rfl rfl) h0;have X:Tab W:=Aw (show laidMet Tryz.prog Rows.linearDualsRow.laid W from U);refine(Nr a0 a1 n0 m0 k0 o0 t0 b0 W a2 a3 (Al V) X).mono fun e E ⟨he,Z⟩=> ?_
 subst he;exact⟨_,rfl,zZ M laidOut kR rfl hA2 rfl rfl (fun _ _ _=>trodAll_cons_mk (shut_bool Tryz.underlying4 _) trodAll_mk0) Z (ok_one kR rfl (okWide_bool_mk Tryz.underlying4 _))⟩
theorem reads(h:Os){H:Type}(enc:TypeId × Value -> H):∃t,DataW.whole enc Tryz.prog ((qZ h).forCall (fun _ _=>0) ⟨#[], #[.agg #[.slice none 0 0, .slice none 0 0]],[]⟩).memory Tryz.f3.params.toList Rows.linearDualsSpec.vars false (#[.agg #[.slice none 0 0, .slice none 0 0]]:Array Value).toList 8=some ([.agg [.nil, .nil]],[],t):=
 ⟨[],by kernel_rfl⟩
set_option maxRecDepth 100000 in
theorem lifted(h:Os)(X:h.Started)(H:Type)(enc:TypeId × Value -> H)(F:Stop.Interp):
  ReturnsInHanded {} Tryz.checked h 3 .any ((OpenSpec.ofChange Rows.linearDualsSpec).preRow enc Tryz.prog Tryz.f3 Rows.linearDualsRow.domain false Rows.linearDualsRow.laid) (((OpenSpec.ofChange Rows.linearDualsSpec).at F).post enc Tryz.prog Tryz.f3 false true false false):=by
 obtain⟨Y,V⟩:=reads h enc
 refine returnsInHanded_of_row (C:=Tryz.checked) (s:=OpenSpec.ofChange Rows.linearDualsSpec) own X kR Tryz.func3
  (witness_row_atRef (enc:=enc) (C:=Tryz.checked) false (qZ h) #[.agg #[.slice none 0 0, .slice none 0 0]] rfl kR kR kR
   (OpenSpec.preRow_of_cond 8 V kR (fun k T=>by cases T) kR (AA h _))) ?_
 intro W base args E G t U R _ _ _ M O _;exact contract H enc W base args E G t U R M O
set_option maxRecDepth 100000 in
theorem wP:Rows.linearDualsRow.inPlace=Tryz.prog.inPlace 3:=by kernel_rfl
set_option maxRecDepth 100000 in
theorem wR:Rows.linearDualsRow.unfollowed=Tryz.prog.unfollowed 3:=by kernel_rfl
set_option maxRecDepth 100000 in
theorem wT:Rows.linearDualsRow.recurses=Tryz.prog.recurses 3:=by kernel_rfl
set_option maxRecDepth 100000 in
theorem wU:Rows.linearDualsRow.named=Tryz.prog.varsNamed 3:=by kernel_rfl
set_option maxRecDepth 100000 in
theorem joined:joinedFacts Tryz.prog 3 Tryz.f3 Rows.linearDualsSpec Rows.linearDualsRow=true:=AB wP wR wT wU rfl rfl kR
set_option maxRecDepth 100000 in
theorem said:Rows.LinearDualsSaid:=
 OpenClaim.holds_of_cond 3 Tryz.f3 rfl rfl rfl rfl rfl rfl rfl ⟨rfl,rfl,rfl,rfl,rfl⟩ rfl rfl rfl rfl rfl kR Tryz.func3 joined
  (of_decide_eq_true kR) (by unfold Func.isWrapper;first | (rw[if_pos (by decide+kernel)];kernel_rfl) | (rw[if_neg (by decide+kernel)];exact⟨rfl,rfl⟩))
  (fun h t H enc _ F=>by rw[OpenClaim.pre_eq_preRow];exact lifted h t H enc F)
theorem plain(f:FuncId)(fn:Func)(F:Tryz.pinned.checked.prog.funcNamed "dowel/dowellaw06.LinearDuals" =some f)(G:Tryz.pinned.checked.prog.funcs[f]? =some fn):
  true=Tryz.pinned.checked.prog.looks [] /\ ∀ (j:Nat) t,fn.params[j]? =some t -> Tryz.pinned.checked.prog.wantsStandIn t=false:=by
 obtain rfl:f=3:=Option.some.inj ((show Tryz.prog.funcNamed "dowel/dowellaw06.LinearDuals" =some 3 by kernel_rfl).symm.trans F) |>.symm
 obtain rfl:fn=Tryz.f3:=(Option.some.inj (Tryz.func3.symm.trans G)).symm;refine⟨by kernel_rfl,fun j t E=> ?_⟩;rw[Tryz.params3] at E;have h:= Array.mem_of_getElem? E;have h:t=25:=by simpa using h
 subst h;exact(show Tryz.prog.wantsStandIn 25=false by kernel_rfl)
theorem card:Rows.LinearDualsCardSaid:=
 Claim7.holds_tied_plain_at .later [] _ _ _ _ said (fun _ h=>by cases h) kR (fun _ h=>by cases h) linearDuals_row_tie rfl ⟨rfl,rfl⟩ kR rfl plain kR
#print axioms card
end cDuals
end Go.Proofs.YtdefghfjhgmpfaaGreatDoor
