/- The statement LinearHoldsCardSaid: for every input the call of dowellaw06.LinearHolds returns true and each argument reads behind it as it read before. Conditions: none but those of the given row. -/
import Derived.Test.YtdefghfjhgmpfaaGreatDoorQBA
import Derived.Test.YtdefghfjhgmpfaaGreatDoorQBK
import Derived.Test.YtdefghfjhgmpfaaGreatDoorQBX
namespace Go.Proofs.YtdefghfjhgmpfaaGreatDoor
namespace cHolds
open Go.ChangeShapes Go.WideShapes Go.ChangeAt Go.RowKit
open Go.ChangeMaps (open_string)
set_option maxRecDepth 100000 in
theorem contract(H:Type)(enc:TypeId × Value -> H)(W:World)(base:Nat)(args:Array Value)(ds gs:List (DataW H))(before:List MemPlace)
  (hval:∀ (j:Nat) t v,Tryz.f8.params[j]? =some t -> args[j]? =some v -> Value.okWide Tryz.prog W .any base t v)
  (hW:DataW.Whole enc Tryz.prog Tryz.f8.params.toList Rows.linearHoldsSpec.vars false W args.toList ds gs before) (hL:laidMetH Tryz.prog Rows.linearHoldsRow.laid W) (hS:W.ShapedOpen Tryz.prog):
  Calls Tryz.prog 8 args W fun e W'=>∃v,e= .returned v /\ Rows.linearHoldsSpec.post enc Tryz.prog Tryz.f8 false true false false W args v W':=by
 have hW':=hW;obtain⟨p,q,hA0,hV,rfl,hfz,hnd⟩:=hW;have hA:DataW.TrodAll enc Tryz.prog W 0 (fun _=>true) true Tryz.f8.params.toList args.toList ds p:=hA0;have hA2:=hA;rw[Tryz.params8] at hA hval;obtain⟨v0,v1,d0,d1,p0,p1,rfl,rfl,rfl,h0,h1⟩:=trodAll_two hA;obtain⟨rfl,rfl⟩:=trodVars_none hV;rw[List.append_nil] at hW';obtain⟨n0,s0,x0⟩:=open_texts (hval 0 22 v0 rfl rfl) h0;obtain⟨m1,k1,t1,b1,x1⟩:=open_rows (hval 1 23 v1 rfl rfl) h1;have hT:Tab W:=tab_of (show laidMet Tryz.prog Rows.linearHoldsRow.laid W from hL);refine(Holds_law v0 v1 n0 m1 k1 s0 t1 b1 W x0 x1 (glob_of hS) hT).mono fun e W' ⟨he,hb⟩=> ?_
 subst he;exact⟨_,rfl,post_kept hW' laidOut (by kernel_rfl) rfl hA2 rfl rfl (fun _ _ _=>trodAll_cons_mk (shut_bool Tryz.underlying4 _) trodAll_mk0) hb (ok_one (by kernel_rfl) rfl (okWide_bool_mk Tryz.underlying4 _))⟩
theorem reads(os:Os){H:Type}(enc:TypeId × Value -> H):∃places,DataW.whole enc Tryz.prog ((laidWorld os).forCall (fun _ _=>0) ⟨#[], #[.slice none 0 0, .slice none 0 0],[]⟩).memory Tryz.f8.params.toList Rows.linearHoldsSpec.vars false (#[.slice none 0 0, .slice none 0 0]:Array Value).toList 8=some ([.nil, .nil],[],places):=
 ⟨[],by kernel_rfl⟩
set_option maxRecDepth 100000 in
theorem lifted(os:Os)(started:os.Started)(H:Type)(enc:TypeId × Value -> H)(F:Stop.Interp):
  ReturnsInHanded {} Tryz.checked os 8 .any ((OpenSpec.ofChange Rows.linearHoldsSpec).preRow enc Tryz.prog Tryz.f8 Rows.linearHoldsRow.domain false Rows.linearHoldsRow.laid) (((OpenSpec.ofChange Rows.linearHoldsSpec).at F).post enc Tryz.prog Tryz.f8 false true false false):=by
 obtain⟨places,hx⟩:=reads os enc
 refine returnsInHanded_of_row (C:=Tryz.checked) (s:=OpenSpec.ofChange Rows.linearHoldsSpec) own started (by kernel_rfl) Tryz.func8
  (witness_row_atRef (enc:=enc) (C:=Tryz.checked) false (laidWorld os) #[.slice none 0 0, .slice none 0 0] rfl (by kernel_rfl) (by kernel_rfl) (by kernel_rfl)
   (OpenSpec.preRow_of_cond 8 hx (by kernel_rfl) (fun k hk=>by cases hk) (by kernel_rfl) (laid7 os _))) ?_
 intro W base args ds gs before hval hW _ _ _ hL hS _;exact contract H enc W base args ds gs before hval hW hL hS
set_option maxRecDepth 100000 in
theorem f_inP:Rows.linearHoldsRow.inPlace=Tryz.prog.inPlace 8:=by kernel_rfl
set_option maxRecDepth 100000 in
theorem f_unf:Rows.linearHoldsRow.unfollowed=Tryz.prog.unfollowed 8:=by kernel_rfl
set_option maxRecDepth 100000 in
theorem f_rec:Rows.linearHoldsRow.recurses=Tryz.prog.recurses 8:=by kernel_rfl
set_option maxRecDepth 100000 in
theorem f_nam:Rows.linearHoldsRow.named=Tryz.prog.varsNamed 8:=by kernel_rfl
set_option maxRecDepth 100000 in
theorem joined:joinedFacts Tryz.prog 8 Tryz.f8 Rows.linearHoldsSpec Rows.linearHoldsRow=true:=joined_of f_inP f_unf f_rec f_nam rfl rfl (by kernel_rfl)
set_option maxRecDepth 100000 in
theorem said:Rows.LinearHoldsSaid:=
 OpenClaim.holds_of_cond 8 Tryz.f8 rfl rfl rfl rfl rfl rfl rfl ⟨rfl,rfl,rfl,rfl,rfl⟩ rfl rfl rfl rfl rfl (by kernel_rfl) Tryz.func8 joined
  (of_decide_eq_true (by kernel_rfl)) (by unfold Func.isWrapper;first | (rw[if_pos (by decide+kernel)];kernel_rfl) | (rw[if_neg (by decide+kernel)];exact⟨rfl,rfl⟩))
  (fun os started H enc _ F=>by rw[OpenClaim.pre_eq_preRow];exact lifted os started H enc F)
theorem plain(f:FuncId)(fn:Func)(hf:Tryz.pinned.checked.prog.funcNamed "dowel/dowellaw06.LinearHolds" =some f)(hfn:Tryz.pinned.checked.prog.funcs[f]? =some fn):
  true=Tryz.pinned.checked.prog.looks [] /\ ∀ (j:Nat) t,fn.params[j]? =some t -> Tryz.pinned.checked.prog.wantsStandIn t=false:=by
 obtain rfl:f=8:=Option.some.inj ((show Tryz.prog.funcNamed "dowel/dowellaw06.LinearHolds" =some 8 by kernel_rfl).symm.trans hf) |>.symm
 obtain rfl:fn=Tryz.f8:=(Option.some.inj (Tryz.func8.symm.trans hfn)).symm;refine⟨by kernel_rfl,fun j t ht=> ?_⟩;rw[Tryz.params8] at ht;have hm:= Array.mem_of_getElem? ht;have hm:t=22 \/ t=23:=by simpa using hm
 rcases hm with rfl | rfl
 ·exact(show Tryz.prog.wantsStandIn 22=false by kernel_rfl)
 ·exact(show Tryz.prog.wantsStandIn 23=false by kernel_rfl)
theorem card:Rows.LinearHoldsCardSaid:=
 Claim7.holds_tied_plain_at .later [] _ _ _ _ said (fun _ h=>by cases h) (by kernel_rfl) (fun _ h=>by cases h) linearHolds_row_tie rfl ⟨rfl,rfl⟩ (by kernel_rfl) rfl plain (by kernel_rfl)
#print axioms card
end cHolds
end Go.Proofs.YtdefghfjhgmpfaaGreatDoor
