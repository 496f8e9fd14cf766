/- LinearInnerCardSaid. -/
import Derived.Test.YtdefghfjhgmpfaaGreatDoorMDD
namespace Go.Proofs.YtdefghfjhgmpfaaGreatDoor
namespace cInner
set_option maxRecDepth 100000
open Go.ChangeShapes Go.WideShapes Go.ChangeAt Go.RowKit
open Go.ChangeMaps (open_string)
theorem contract(H:Type)(enc:TypeId × Value -> H)(W:World)(base:Nat)(args:Array Value)(M X:List (DataW H))(U:List MemPlace)
  (E:∀ (j:Nat) t v,Tryz.f7.params[j]? =some t -> args[j]? =some v -> Value.okWide Tryz.prog W .any base t v)
  (O:DataW.Whole enc Tryz.prog Tryz.f7.params.toList Rows.linearInnerSpec.vars false W args.toList M X U) (Y:laidMetH Tryz.prog Rows.linearInnerRow.laid W) (Z:W.ShapedOpen Tryz.prog):
  Calls Tryz.prog 7 args W fun e G=>∃v,e= .returned v /\ Rows.linearInnerSpec.post enc Tryz.prog Tryz.f7 false true false false W args v G:=by
 have R:=O;obtain⟨p,q,hA0,hV,rfl,a0,a1⟩:=O;have h:DataW.TrodAll enc Tryz.prog W 0 (fun _=>true) true Tryz.f7.params.toList args.toList M p:=hA0;have hA2:=h;rw[Tryz.params7] at h E;obtain⟨v0,v1,d0,d1,p0,p1,rfl,rfl,rfl,h0,h1⟩:=trodAll_two h;obtain⟨rfl,rfl⟩:=trodVars_none hV;rw[List.append_nil] at R;obtain⟨x0,rfl⟩:=okWide_int Tryz.underlying3 (E 0 3 v0 rfl rfl);obtain⟨m1,k1,t1,T,x1⟩:=IK (E 1 23 v1 rfl rfl) h1;have hT:Tab W:=Aw (show laidMet Tryz.prog Rows.linearInnerRow.laid W from Y);refine(OM x0 v1 m1 k1 t1 T W x1 (Al Z) hT).mono fun e G ⟨he,hb⟩=> ?_
 subst he;exact⟨_,rfl,zZ R laidOut kR rfl hA2 rfl rfl (fun _ _ _=>trodAll_cons_mk (shut_bool Tryz.underlying4 _) trodAll_mk0) hb (ok_one kR rfl (okWide_bool_mk Tryz.underlying4 _))⟩
theorem reads(h:Os){H:Type}(enc:TypeId × Value -> H):∃t,DataW.whole enc Tryz.prog ((qZ h).forCall (fun _ _=>0) ⟨#[], #[.int .i64 0, .slice none 0 0],[]⟩).memory Tryz.f7.params.toList Rows.linearInnerSpec.vars false (#[.int .i64 0, .slice none 0 0]:Array Value).toList 8=some ([.lit (.int .i64 0), .nil],[],t):=
 ⟨[],by kernel_rfl⟩
theorem lifted(h:Os)(Y:h.Started)(H:Type)(enc:TypeId × Value -> H)(F:Stop.Interp):
  ReturnsInHanded {} Tryz.checked h 7 .any ((OpenSpec.ofChange Rows.linearInnerSpec).preRow enc Tryz.prog Tryz.f7 Rows.linearInnerRow.domain false Rows.linearInnerRow.laid) (((OpenSpec.ofChange Rows.linearInnerSpec).at F).post enc Tryz.prog Tryz.f7 false true false false):=by
 obtain⟨Z,X⟩:=reads h enc
 refine returnsInHanded_of_row (C:=Tryz.checked) (s:=OpenSpec.ofChange Rows.linearInnerSpec) own Y kR Tryz.func7
  (witness_row_atRef (enc:=enc) (C:=Tryz.checked) false (qZ h) #[.int .i64 0, .slice none 0 0] rfl kR kR kR
   (OpenSpec.preRow_of_cond 8 X kR (fun k T=>by cases T) kR (AA h _))) ?_
 intro W base args E G t U R _ _ _ M O _;exact contract H enc W base args E G t U R M O
theorem joined:joinedFacts Tryz.prog 7 Tryz.f7 Rows.linearInnerSpec Rows.linearInnerRow=true:=AB kR kR kR kR rfl rfl kR
theorem said:Rows.LinearInnerSaid:=
 OpenClaim.holds_of_cond 7 Tryz.f7 rfl rfl rfl rfl rfl rfl rfl ⟨rfl,rfl,rfl,rfl,rfl⟩ rfl rfl rfl rfl rfl kR Tryz.func7 joined
  (of_decide_eq_true kR) (by unfold Func.isWrapper;first | (rw[if_pos (by decide+kernel)];kernel_rfl) | (rw[if_neg (by decide+kernel)];exact⟨rfl,rfl⟩))
  (fun h t H enc _ F=>by rw[OpenClaim.pre_eq_preRow];exact lifted h t H enc F)
theorem plain(f:FuncId)(fn:Func)(G:Tryz.pinned.checked.prog.funcNamed "dowel/dowellaw06.LinearInner" =some f)(M:Tryz.pinned.checked.prog.funcs[f]? =some fn):
  true=Tryz.pinned.checked.prog.looks [] /\ ∀ (j:Nat) t,fn.params[j]? =some t -> Tryz.pinned.checked.prog.wantsStandIn t=false:=by
 obtain rfl:f=7:=Option.some.inj ((show Tryz.prog.funcNamed "dowel/dowellaw06.LinearInner" =some 7 by kernel_rfl).symm.trans G) |>.symm
 obtain rfl:fn=Tryz.f7:=(Option.some.inj (Tryz.func7.symm.trans M)).symm;refine⟨by kernel_rfl,fun j t E=> ?_⟩;rw[Tryz.params7] at E;have h:= Array.mem_of_getElem? E;have h:t=3 \/ t=23:=by simpa using h
 rcases h with rfl | rfl
 ·exact(show Tryz.prog.wantsStandIn 3=false by kernel_rfl)
 ·exact(show Tryz.prog.wantsStandIn 23=false by kernel_rfl)
theorem card:Rows.LinearInnerCardSaid:=
 Claim7.holds_tied_plain_at .later [] _ _ _ _ said (fun _ h=>by cases h) kR (fun _ h=>by cases h) linearInner_row_tie rfl ⟨rfl,rfl⟩ kR rfl plain kR
#print axioms card
end cInner
end Go.Proofs.YtdefghfjhgmpfaaGreatDoor
