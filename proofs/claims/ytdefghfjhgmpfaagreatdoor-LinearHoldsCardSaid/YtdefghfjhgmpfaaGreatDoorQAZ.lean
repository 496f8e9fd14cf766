/- Parts of this proof: FrameL. -/
import Derived.Test.YtdefghfjhgmpfaaGreatDoorCards
import Derived.Test.YtdefghfjhgmpfaaGreatDoorTie
import Derived.Test.YtdefghfjhgmpfaaGreatDoorQAA
import Derived.Test.YtdefghfjhgmpfaaGreatDoorQAT
import Derived.Test.YtdefghfjhgmpfaaGreatDoorQAU
import Derived.Test.YtdefghfjhgmpfaaGreatDoorQAY
import Derived.ProofKit
import Derived.OpenShut
import Derived.WideKeyArgs
import Derived.Deep.Strs
import Derived.Deep.DeepHandedRow
import Derived.Deep.DeepWitnessRowRef
import Derived.Lib.LaidTab
import Derived.Lib.LaidIn
import Derived.Stop.LaidErr
namespace Go.Proofs.YtdefghfjhgmpfaaGreatDoor
open Go.ChangeShapes Go.WideShapes Go.ChangeAt Go.RowKit
theorem own:ownKnob Tryz.prog.godebug=none:=by kernel_rfl
theorem gPow:Tryz.prog.globalNamed "internal/strconv.uint64pow10" =some 1:=by kernel_rfl
theorem gPowT:(Tryz.prog.globals[1]?).map (·.type)=some 261:=by kernel_rfl
theorem laidOut:laidOutB Tryz.prog=true:=by kernel_rfl
section
variable {H:Type} {enc:TypeId × Value -> H} {P:Program}
theorem trodAll_stays(hl:laidOutB P=true){W W':World}(hb:Below W.heap.size W W'){sp':Nat -> Bool}:∀ {ts:List TypeId} {vs:List Value} {ds:List (DataW H)} {ps:List MemPlace},
  (ts.all fun t=>P.readableRec t && decide (t<P.types.size))=true -> DataW.TrodAll enc P W 0 (fun _=>true) true ts vs ds ps -> (∀p ∈ ps,p.block<W.heap.size /\ sp' p.block=true) -> DataW.TrodAll enc P W' 0 sp' true ts vs ds ps
 | [],_,_,_,_,h,_=>by
  obtain⟨rfl,rfl,rfl⟩:=trodAll_nil h;exact h
 | t::ts,_,_,_,hts,h,hp=>by
  obtain⟨v,vs1,d,ds1,a,b,rfl,rfl,rfl,h1,h2⟩:=trodAll_cons h;simp only[List.all_cons,Bool.and_eq_true,decide_eq_true_eq] at hts;refine⟨a,b,WideElems.Trod_stays hl hts.1.1 hts.1.2 h1 (fun x hx=>hb.same (hp x (by simp[hx])).1) (fun x hx=>(hp x (by simp[hx])).2),?_,rfl⟩;exact trodAll_stays hl hb hts.2 h2 (fun x hx=>hp x (by simp[hx]))
theorem post_kept{f:Func}{s:ChangeSpec}{apart fresh handsOn again:Bool}{W W':World}{args:Array Value}{v:Value}{ds gs:List (DataW H)}{before:List MemPlace}
  (hW:DataW.Whole enc P f.params.toList s.vars apart W args.toList ds gs before) (hl:laidOutB P=true) (hts:(f.params.toList.all fun t=>P.readableRec t && decide (t<P.types.size))=true)
  (hv:s.vars= []) (hA:DataW.TrodAll enc P W 0 (fun _=>true) true f.params.toList args.toList ds before) (hargs:(s.fn H (ds++gs)).args=ds) (hvs:(s.fn H (ds++gs)).vars= [])
  (hres:∀ (b:Nat) (sp:Nat -> Bool) (hd:Bool),DataW.TrodAll enc P W' b sp hd f.resultTypes.toList (v.resultList f.resultTypes.size) (s.fn H (ds++gs)).results [])
  (hb:Below W.heap.size W W')
  (hok:∀ (j:Nat) (t:TypeId) (r:Value),f.resultTypes[j]? =some t -> (v.resultList f.resultTypes.size)[j]? =some r -> Value.okWide P W' .any 0 t r):
  s.post enc P f apart fresh handsOn again W args v W':=by
 have hlt:∀p ∈ before,p.block<W.heap.size:=fun p hp=>hW.lt p hp
 have hold:∀p ∈ before,p.block<W.heap.size /\ (fun b=>decide (b<W.heap.size)) p.block=true:=fun p hp=>⟨hlt p hp,by simpa using hlt p hp⟩
 have hvars:∀sp:Nat -> Bool,DataW.TrodVars enc P W' sp s.vars (s.fn H (ds++gs)).vars []:=fun sp=>by rw[hv,hvs];exact rfl
 have hA1:∀sp':Nat -> Bool,(∀p ∈ before,sp' p.block=true) -> DataW.TrodAll enc P W' 0 sp' true f.params.toList args.toList (s.fn H (ds++gs)).args before:=fun sp' h=>by
  rw[hargs];exact trodAll_stays hl hb hts hA (fun p hp=>⟨hlt p hp,h p hp⟩)
 refine⟨ds,gs,before,[],before,[],hW,hres _ _ _,hA1 _ (fun p hp=>(hold p hp).2),hvars _,hb.frame _,fun _=> ?_⟩
 ·obtain⟨_,_,_,_,he,hz,hn⟩:=hW;refine⟨hok,_,_,([]++before)++ [],⟨[]++before,[],trodAll_append (hA1 _ (fun _ _=>rfl)) (hres _ _ _),hvars _,rfl,?_,?_⟩,?_⟩
  ·intro b off hp;have hp':MemPlace.cell b off ∈ before:=by simpa using hp
   rw[hb.frozen (by exact hlt _ hp')];exact hz b off hp'
  ·intro ha
   simpa using hn ha
  ·intro p hp _
   simpa using hp
end
set_option maxRecDepth 100000 in
theorem open_texts{W:World}{base:Nat}{v:Value}{H:Type}{enc:TypeId × Value -> H}{d:DataW H}{ps:List MemPlace}(hval:Value.okWide Tryz.prog W .any base 22 v)(hd:DataW.Trod enc Tryz.prog W 0 (fun _=>true) true 22 v d ps):
  ∃n s,TSA W v n s:=by
 obtain⟨a,n,c,rfl⟩:=okWide_slice Tryz.underlying22 hval;obtain⟨fuel,hf⟩:=hd
 have hok:Cell.ok Tryz.prog W .any base 22 (.slice a n c):=by
  unfold Value.okWide Cell.okWide at hval;rw[Tryz.underlying22] at hval;exact hval
 unfold Cell.ok at hok;rw[Tryz.underlying22] at hok
 rcases Go.Deep.open_strs Tryz.underlying22 Tryz.underlying30 (by kernel_rfl) hf with ⟨h0,_⟩ | ⟨a',len,cap,m,Sx,h0,_,hl,hm,hmm,_,hc⟩
 ·simp[Value.cells] at h0;obtain⟨rfl,rfl,rfl⟩:=h0;exact⟨0,fun _=>⟨#[]⟩,⟨_,_,rfl,Nat.le_refl _,Nat.zero_le _, .inl rfl⟩, .inl ⟨rfl,rfl⟩⟩
 ·simp[Value.cells] at h0;obtain⟨rfl,rfl,rfl⟩:=h0;obtain⟨_,_,_,hsp,_⟩:=hok;obtain⟨b,o,spt⟩:=a';simp only at hsp;subst hsp;refine⟨n,Sx,⟨_,_,rfl,hl,hm, .inr ⟨b,o,rfl,fun j hj=> ?_⟩⟩, .inr (.inl ⟨b,o,c,rfl⟩)⟩;have h1:=(hc j (by rw[hmm];split <;> omega)).1
  have h2:(⟨b,o,none⟩:Addr).add j=⟨b,o+j,none⟩:=by
   unfold Addr.add;by_cases e:j=0
   ·rw[if_pos e,e];rfl
   ·rw[if_neg e]
  rw[<- h2];exact h1
theorem glob_of{W:World}(h:W.ShapedOpen Tryz.prog):Glob W:=Tryz.laysM145.s1_3 W h
theorem tab_of{W:World}{rest:List (String × DataW Unit)}(h:laidMet Tryz.prog (("math/bits.deBruijn32tab",Rows.laid_math_bits_deBruijn32tab):: ("math/bits.deBruijn64tab",Rows.laid_math_bits_deBruijn64tab):: ("internal/strconv.uint64pow10",Rows.laid_internal_strconv_uint64pow10)::rest) W):Tab W:=
 Lib.tabIs_of_head (rest:=rest) (k:= .u64) (zs:=Lib.pow10Tab) (n:=20) gPow gPowT Tryz.underlying261 Tryz.underlying163 (by kernel_rfl) (by kernel_rfl) h.tail.tail
noncomputable def laidWorld(os:Os):World:=
 let N:=(World.holding Tryz.prog default ⟨#[], #[],[]⟩).heap.size
 let w0:=World.holding Tryz.prog os ⟨#[.cells #[.string ⟨#[105,110,118,97,108,105,100,32,115,121,110,116,97,120]⟩] 274, .cells #[.string ⟨#[118,97,108,117,101,32,111,117,116,32,111,102,32,114,97,110,103,101]⟩] 274], #[],[]⟩
 let put (h:Array Obj) (g:Nat) (cs:Array Value):Array Obj:=h.modify g fun
  | .cells _ t frozen=> .cells cs t frozen
  | o=>o
 let u8s (l:List Int):Array Value:=(l.map fun z=>Value.int .u8 z).toArray
 let h0:=put (put w0.heap 4 #[.iface 272 (.pointer (some ⟨N,0,none⟩))]) 5 #[.iface 272 (.pointer (some ⟨N+1,0,none⟩))]
 let h1:=put h0 1 (Lib.pow10Tab.map fun z=>Value.int .u64 z).toArray
 let h2:=put h1 6 (u8s [0,1,28,2,29,14,24,3,30,22,20,15,25,17,4,8,31,27,13,23,21,19,16,7,26,12,18,6,11,5,10,9])
 let h3:=put h2 7 (u8s [0,1,56,2,57,49,28,3,61,58,42,50,38,29,17,4,62,47,59,36,45,43,51,22,53,39,33,30,24,18,12,5,63,55,48,27,60,41,37,16,46,35,44,21,52,32,23,11,54,26,40,15,34,20,31,10,25,14,19,9,13,8,7,6])
 let h4:=put h3 3 (u8s ([128,191,160,191,128,159,144,191,128,143]++List.replicate 22 0))
 let h5:=put h4 2 (u8s (Go.Pinned.utf8FirstZ.map fun(n:Nat)=>(n:Int)))
 {w0 with heap:=h5}
theorem laid7(os:Os)(args:Array Value):laidMet Tryz.prog Rows.linearEquationsRow.laid ((laidWorld os).forCall (fun _ _=>0) ⟨#[],args,[]⟩).memory:=
 laidMet_of_run' 8 (by kernel_rfl) (by kernel_rfl)
end Go.Proofs.YtdefghfjhgmpfaaGreatDoor
