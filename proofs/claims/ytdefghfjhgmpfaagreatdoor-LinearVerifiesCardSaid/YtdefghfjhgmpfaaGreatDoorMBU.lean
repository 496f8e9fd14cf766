/- The statement LinearVerifiesCardSaid: for every input the call of dowellaw06.LinearVerifies returns true and each argument reads behind it as it read before. Conditions: none but those of the given row. -/
import Derived.Test.YtdefghfjhgmpfaaGreatDoorMAV
import Derived.Test.YtdefghfjhgmpfaaGreatDoorMBA
import Derived.Test.YtdefghfjhgmpfaaGreatDoorMBT
namespace Go.Proofs.YtdefghfjhgmpfaaGreatDoor
namespace cVerifies
open Go.ChangeShapes Go.WideShapes Go.ChangeAt Go.RowKit
open Go.ChangeMaps (open_string)
set_option maxRecDepth 100000 in
theorem contract(H:Type)(enc:TypeId × Value -> H)(W:World)(base:Nat)(args:Array Value)(E R:List (DataW H))(O:List MemPlace)
  (r:∀ (j:Nat) t v,Tryz.f12.params[j]? =some t -> args[j]? =some v -> Value.okWide Tryz.prog W .any base t v)
  (F:DataW.Whole enc Tryz.prog Tryz.f12.params.toList Rows.linearVerifiesSpec.vars false W args.toList E R O) (T:laidMetH Tryz.prog Rows.linearVerifiesRow.laid W) (U:W.ShapedOpen Tryz.prog):
  Calls Tryz.prog 12 args W fun e C=>∃v,e= .returned v /\ Rows.linearVerifiesSpec.post enc Tryz.prog Tryz.f12 false true false false W args v C:=by
 have G:=F;obtain⟨p,q,hA0,X,rfl,a4,a5⟩:=F;have h:DataW.TrodAll enc Tryz.prog W 0 (fun _=>true) true Tryz.f12.params.toList args.toList E p:=hA0;have hA2:=h;rw[Tryz.params12] at h r;obtain⟨v0,v1,d0,d1,p0,p1,rfl,rfl,rfl,h0,h1⟩:=trodAll_two h;obtain⟨rfl,rfl⟩:=trodVars_none X;rw[List.append_nil] at G;obtain⟨a0,a1,n0,o0,m0,k0,t0,b0,rfl,a2,a3⟩:=IQ (r 0 25 v0 rfl rfl) h0;obtain⟨M,x1⟩:=IR (r 1 32 v1 rfl rfl) h1;have V:Tab W:=Aw (show laidMet Tryz.prog Rows.linearVerifiesRow.laid W from T);refine(JU a0 a1 v1 n0 m0 k0 o0 t0 b0 M W a2 a3 x1 (Al U) V).mono fun e C ⟨Z,Y⟩=> ?_
 subst Z;exact⟨_,rfl,zZ G laidOut kR rfl hA2 rfl rfl (fun _ _ _=>trodAll_cons_mk (shut_bool Tryz.underlying4 _) trodAll_mk0) Y (ok_one kR rfl (okWide_bool_mk Tryz.underlying4 _))⟩
theorem reads(h:Os){H:Type}(enc:TypeId × Value -> H):∃r,DataW.whole enc Tryz.prog ((qZ h).forCall (fun _ _=>0) ⟨#[], #[.agg #[.slice none 0 0, .slice none 0 0], .agg #[.int .i64 0, .string ⟨#[]⟩, .slice none 0 0, .slice none 0 0, .slice none 0 0]],[]⟩).memory Tryz.f12.params.toList Rows.linearVerifiesSpec.vars false (#[.agg #[.slice none 0 0, .slice none 0 0], .agg #[.int .i64 0, .string ⟨#[]⟩, .slice none 0 0, .slice none 0 0, .slice none 0 0]]:Array Value).toList 8=some ([.agg [.nil, .nil], .agg [.lit (.int .i64 0), .lit (.string []), .nil, .nil, .nil]],[],r):=
 ⟨[],by kernel_rfl⟩
set_option maxRecDepth 100000 in
theorem lifted(h:Os)(V:h.Started)(H:Type)(enc:TypeId × Value -> H)(F:Stop.Interp):
  ReturnsInHanded {} Tryz.checked h 12 .any ((OpenSpec.ofChange Rows.linearVerifiesSpec).preRow enc Tryz.prog Tryz.f12 Rows.linearVerifiesRow.domain false Rows.linearVerifiesRow.laid) (((OpenSpec.ofChange Rows.linearVerifiesSpec).at F).post enc Tryz.prog Tryz.f12 false true false false):=by
 obtain⟨X,U⟩:=reads h enc
 refine returnsInHanded_of_row (C:=Tryz.checked) (s:=OpenSpec.ofChange Rows.linearVerifiesSpec) own V kR Tryz.func12
  (witness_row_atRef (enc:=enc) (C:=Tryz.checked) false (qZ h) #[.agg #[.slice none 0 0, .slice none 0 0], .agg #[.int .i64 0, .string ⟨#[]⟩, .slice none 0 0, .slice none 0 0, .slice none 0 0]] rfl kR kR kR
   (OpenSpec.preRow_of_cond 8 U kR (fun k R=>by cases R) kR (AA h _))) ?_
 intro W base args t E r T O _ _ _ G M _;exact contract H enc W base args t E r T O G M
set_option maxRecDepth 100000 in
theorem wP:Rows.linearVerifiesRow.inPlace=Tryz.prog.inPlace 12:=by kernel_rfl
set_option maxRecDepth 100000 in
theorem wR:Rows.linearVerifiesRow.unfollowed=Tryz.prog.unfollowed 12:=by kernel_rfl
set_option maxRecDepth 100000 in
theorem wT:Rows.linearVerifiesRow.recurses=Tryz.prog.recurses 12:=by kernel_rfl
set_option maxRecDepth 100000 in
theorem wU:Rows.linearVerifiesRow.named=Tryz.prog.varsNamed 12:=by kernel_rfl
set_option maxRecDepth 100000 in
theorem joined:joinedFacts Tryz.prog 12 Tryz.f12 Rows.linearVerifiesSpec Rows.linearVerifiesRow=true:=AB wP wR wT wU rfl rfl kR
set_option maxRecDepth 100000 in
theorem said:Rows.LinearVerifiesSaid:=
 OpenClaim.holds_of_cond 12 Tryz.f12 rfl rfl rfl rfl rfl rfl rfl ⟨rfl,rfl,rfl,rfl,rfl⟩ rfl rfl rfl rfl rfl kR Tryz.func12 joined
  (of_decide_eq_true kR) (by unfold Func.isWrapper;first | (rw[if_pos (by decide+kernel)];kernel_rfl) | (rw[if_neg (by decide+kernel)];exact⟨rfl,rfl⟩))
  (fun h r H enc _ F=>by rw[OpenClaim.pre_eq_preRow];exact lifted h r H enc F)
theorem plain(f:FuncId)(h:Func)(E:Tryz.pinned.checked.prog.funcNamed "dowel/dowellaw06.LinearVerifies" =some f)(F:Tryz.pinned.checked.prog.funcs[f]? =some h):
  true=Tryz.pinned.checked.prog.looks [] /\ ∀ (j:Nat) t,h.params[j]? =some t -> Tryz.pinned.checked.prog.wantsStandIn t=false:=by
 obtain rfl:f=12:=Option.some.inj ((show Tryz.prog.funcNamed "dowel/dowellaw06.LinearVerifies" =some 12 by kernel_rfl).symm.trans E) |>.symm
 obtain rfl:h=Tryz.f12:=(Option.some.inj (Tryz.func12.symm.trans F)).symm;refine⟨by kernel_rfl,fun j t C=> ?_⟩;rw[Tryz.params12] at C;have r:= Array.mem_of_getElem? C;have r:t=25 \/ t=32:=by simpa using r
 rcases r with rfl | rfl
 ·exact(show Tryz.prog.wantsStandIn 25=false by kernel_rfl)
 ·exact(show Tryz.prog.wantsStandIn 32=false by kernel_rfl)
theorem card:Rows.LinearVerifiesCardSaid:=
 Claim7.holds_tied_plain_at .later [] _ _ _ _ said (fun _ h=>by cases h) kR (fun _ h=>by cases h) linearVerifies_row_tie rfl ⟨rfl,rfl⟩ kR rfl plain kR
#print axioms card
end cVerifies
end Go.Proofs.YtdefghfjhgmpfaaGreatDoor
