/- The statement LinearMovesCardSaid: for every input the call of dowellaw06.LinearMoves returns true and each argument reads behind it as it read before. Conditions: none but those of the given row. -/
import Derived.Test.YtdefghfjhgmpfaaGreatDoorMAV
import Derived.Test.YtdefghfjhgmpfaaGreatDoorMBA
import Derived.Test.YtdefghfjhgmpfaaGreatDoorMCC
import Derived.Test.YtdefghfjhgmpfaaGreatDoorMCY
namespace Go.Proofs.YtdefghfjhgmpfaaGreatDoor
namespace cMoves
open Go.ChangeShapes Go.WideShapes Go.ChangeAt Go.RowKit
open Go.ChangeMaps (open_string)
set_option maxRecDepth 100000 in
theorem contract(H:Type)(enc:TypeId × Value -> H)(W:World)(base:Nat)(args:Array Value)(G T:List (DataW H))(R:List MemPlace)
  (h:∀ (j:Nat) t v,Tryz.f6.params[j]? =some t -> args[j]? =some v -> Value.okWide Tryz.prog W .any base t v)
  (M:DataW.Whole enc Tryz.prog Tryz.f6.params.toList Rows.linearMovesSpec.vars false W args.toList G T R) (U:laidMetH Tryz.prog Rows.linearMovesRow.laid W) (X:W.ShapedOpen Tryz.prog):
  Calls Tryz.prog 6 args W fun e F=>∃v,e= .returned v /\ Rows.linearMovesSpec.post enc Tryz.prog Tryz.f6 false true false false W args v F:=by
 have O:=M;obtain⟨p,q,hA0,Z,rfl,a5,a6⟩:=M;have E:DataW.TrodAll enc Tryz.prog W 0 (fun _=>true) true Tryz.f6.params.toList args.toList G p:=hA0;have hA2:=E;rw[Tryz.params6] at E h;obtain⟨v0,v1,v2,d0,d1,d2,p0,p1,p2,rfl,rfl,rfl,h0,h1,h2⟩:=trodAll_three E;obtain⟨rfl,rfl⟩:=trodVars_none Z;rw[List.append_nil] at O;obtain⟨a1,a2,n0,o0,m0,k0,t0,b0,rfl,a3,a4⟩:=IQ (h 0 25 v0 rfl rfl) h0;obtain⟨x1,rfl,a0⟩:=NE (h 1 5 v1 rfl rfl) h1;obtain⟨x2,rfl⟩:=okWide_string Tryz.underlying30 (h 2 30 v2 rfl rfl);have Y:Tab W:=Aw (show laidMet Tryz.prog Rows.linearMovesRow.laid W from U);refine(NZ a1 a2 n0 m0 k0 o0 t0 b0 x1 x2 W a3 a4 a0 (Al X) Y).mono fun e F ⟨he,hb⟩=> ?_
 subst he;exact⟨_,rfl,zZ O laidOut kR rfl hA2 rfl rfl (fun _ _ _=>trodAll_cons_mk (shut_bool Tryz.underlying4 _) trodAll_mk0) hb (ok_one kR rfl (okWide_bool_mk Tryz.underlying4 _))⟩
theorem reads(h:Os){H:Type}(enc:TypeId × Value -> H):∃t,DataW.whole enc Tryz.prog ((qZ h).forCall (fun _ _=>0) ⟨#[], #[.agg #[.slice none 0 0, .slice none 0 0], .int .u8 0, .string ⟨#[]⟩],[]⟩).memory Tryz.f6.params.toList Rows.linearMovesSpec.vars false (#[.agg #[.slice none 0 0, .slice none 0 0], .int .u8 0, .string ⟨#[]⟩]:Array Value).toList 8=some ([.agg [.nil, .nil], .lit (.int .u8 0), .lit (.string [])],[],t):=
 ⟨[],by kernel_rfl⟩
set_option maxRecDepth 100000 in
theorem lifted(h:Os)(Y:h.Started)(H:Type)(enc:TypeId × Value -> H)(F:Stop.Interp):
  ReturnsInHanded {} Tryz.checked h 6 .any ((OpenSpec.ofChange Rows.linearMovesSpec).preRow enc Tryz.prog Tryz.f6 Rows.linearMovesRow.domain false Rows.linearMovesRow.laid) (((OpenSpec.ofChange Rows.linearMovesSpec).at F).post enc Tryz.prog Tryz.f6 false true false false):=by
 obtain⟨Z,X⟩:=reads h enc
 refine returnsInHanded_of_row (C:=Tryz.checked) (s:=OpenSpec.ofChange Rows.linearMovesSpec) own Y kR Tryz.func6
  (witness_row_atRef (enc:=enc) (C:=Tryz.checked) false (qZ h) #[.agg #[.slice none 0 0, .slice none 0 0], .int .u8 0, .string ⟨#[]⟩] rfl kR kR kR
   (OpenSpec.preRow_of_cond 8 X kR (fun k T=>by cases T) kR (AA h _))) ?_
 intro W base args E G t U R _ _ _ M O _;exact contract H enc W base args E G t U R M O
set_option maxRecDepth 100000 in
theorem wP:Rows.linearMovesRow.inPlace=Tryz.prog.inPlace 6:=by kernel_rfl
set_option maxRecDepth 100000 in
theorem wR:Rows.linearMovesRow.unfollowed=Tryz.prog.unfollowed 6:=by kernel_rfl
set_option maxRecDepth 100000 in
theorem wT:Rows.linearMovesRow.recurses=Tryz.prog.recurses 6:=by kernel_rfl
set_option maxRecDepth 100000 in
theorem wU:Rows.linearMovesRow.named=Tryz.prog.varsNamed 6:=by kernel_rfl
set_option maxRecDepth 100000 in
theorem joined:joinedFacts Tryz.prog 6 Tryz.f6 Rows.linearMovesSpec Rows.linearMovesRow=true:=AB wP wR wT wU rfl rfl kR
set_option maxRecDepth 100000 in
theorem said:Rows.LinearMovesSaid:=
 OpenClaim.holds_of_cond 6 Tryz.f6 rfl rfl rfl rfl rfl rfl rfl ⟨rfl,rfl,rfl,rfl,rfl⟩ rfl rfl rfl rfl rfl kR Tryz.func6 joined
  (of_decide_eq_true kR) (by unfold Func.isWrapper;first | (rw[if_pos (by decide+kernel)];kernel_rfl) | (rw[if_neg (by decide+kernel)];exact⟨rfl,rfl⟩))
  (fun h t H enc _ F=>by rw[OpenClaim.pre_eq_preRow];exact lifted h t H enc F)
theorem plain(f:FuncId)(fn:Func)(F:Tryz.pinned.checked.prog.funcNamed "dowel/dowellaw06.LinearMoves" =some f)(G:Tryz.pinned.checked.prog.funcs[f]? =some fn):
  true=Tryz.pinned.checked.prog.looks [] /\ ∀ (j:Nat) t,fn.params[j]? =some t -> Tryz.pinned.checked.prog.wantsStandIn t=false:=by
 obtain rfl:f=6:=Option.some.inj ((show Tryz.prog.funcNamed "dowel/dowellaw06.LinearMoves" =some 6 by kernel_rfl).symm.trans F) |>.symm
 obtain rfl:fn=Tryz.f6:=(Option.some.inj (Tryz.func6.symm.trans G)).symm;refine⟨by kernel_rfl,fun j t E=> ?_⟩;rw[Tryz.params6] at E;have h:= Array.mem_of_getElem? E;have h:t=25 \/ t=5 \/ t=30:=by simpa using h
 rcases h with rfl | rfl | rfl
 ·exact(show Tryz.prog.wantsStandIn 25=false by kernel_rfl)
 ·exact(show Tryz.prog.wantsStandIn 5=false by kernel_rfl)
 ·exact(show Tryz.prog.wantsStandIn 30=false by kernel_rfl)
theorem card:Rows.LinearMovesCardSaid:=
 Claim7.holds_tied_plain_at .later [] _ _ _ _ said (fun _ h=>by cases h) kR (fun _ h=>by cases h) linearMoves_row_tie rfl ⟨rfl,rfl⟩ kR rfl plain kR
#print axioms card
end cMoves
end Go.Proofs.YtdefghfjhgmpfaaGreatDoor
