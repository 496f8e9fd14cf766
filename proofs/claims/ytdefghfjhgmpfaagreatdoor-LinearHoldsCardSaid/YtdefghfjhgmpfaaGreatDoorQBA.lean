/- Parts of this proof: FrameJ. -/
import Derived.Test.YtdefghfjhgmpfaaGreatDoorQAZ
namespace Go.Proofs.YtdefghfjhgmpfaaGreatDoor
open Go.ChangeShapes
theorem jMaps:mapsRowed Tryz.prog=true:=by kernel_rfl
theorem jHeard:Tryz.prog.stopsHeard=true:=by kernel_rfl
theorem jEnter:Tryz.prog.mayEnter=true:=by kernel_rfl
theorem jLift:Tryz.prog.liftsFinal=Rows.linearEquationsRow.lifted:=by kernel_rfl
theorem jKeys:Tryz.prog.plainKeys=Rows.linearEquationsRow.plainKeys:=by kernel_rfl
set_option maxRecDepth 100000 in
theorem joined_of{f:FuncId}{fn:Func}{s:ChangeSpec}{c:OpenClaim}(h1:c.inPlace=Tryz.prog.inPlace f)(h2:c.unfollowed=Tryz.prog.unfollowed f)(h3:c.recurses=Tryz.prog.recurses f)(h4:c.named=Tryz.prog.varsNamed f)
  (h5:c.lifted=Rows.linearEquationsRow.lifted) (h6:c.plainKeys=Rows.linearEquationsRow.plainKeys)
  (h:(c.wf (OpenSpec.ofChange s) && fn.params.all (Tryz.prog.readableRec ·) && namedTie Tryz.prog c.named s.vars && (c.stops== []) && (Tryz.prog.stops== []) && (c.knobs== []) && (Tryz.prog.stopKnobs== []) &&
   (c.maps== (fn.params.toList++s.plain.varTypes Tryz.prog).any (Tryz.prog.mapsRec ·)) && (c.ifaces== (fn.params.toList++s.plain.varTypes Tryz.prog).any (Tryz.prog.ifacesRec ·)) && (c.mapsOut==Tryz.prog.mapsAmong fn.resultTypes.toList) &&
   (c.loops== (fn.params.toList++s.plain.varTypes Tryz.prog).any (Tryz.prog.loopsFrom ·)) && (c.wideKeys== (fn.params.toList++s.plain.varTypes Tryz.prog++fn.resultTypes.toList).any (Tryz.prog.wideKeysFrom ·)) &&
   s.vars.all (Tryz.prog.varReadable ·) && fn.resultTypes.all (fun t=>Tryz.prog.readableRec t && decide (t<Tryz.prog.types.size)) && (c.ifacesOut==fn.resultTypes.toList.any (Tryz.prog.ifacesRec ·)) && (c.loopsOut==fn.resultTypes.toList.any (Tryz.prog.loopsFrom ·)) && c.shortTexts.isNone && (Tryz.prog.make==some c.make) && (c.kinds== (if c.domain.isEmpty then [] else fn.params.toList.map fun t=>match Tryz.prog.underlying t with | some (.int k)=>some k | _=>none)) && (c.pinned==c.pinnedBy) &&
   (c.veiled== (fn.params.toList++s.plain.varTypes Tryz.prog++fn.resultTypes.toList).any (Tryz.prog.veiledRec ·)) && c.veiledFits Tryz.prog fn.params.toList (fn.params.toList++s.plain.varTypes Tryz.prog++fn.resultTypes.toList))=true):joinedFacts Tryz.prog f fn s c=true:=by
 simp only[Bool.and_eq_true] at h;simp only[joinedFacts,Bool.and_eq_true];obtain⟨⟨⟨⟨⟨⟨⟨⟨⟨⟨⟨⟨⟨⟨⟨⟨⟨⟨⟨⟨⟨a1,a2⟩,a3⟩,a4⟩,a5⟩,a6⟩,a7⟩,a8⟩,a9⟩,a10⟩,a11⟩,a12⟩,a13⟩,a14⟩,a15⟩,a16⟩,a17⟩,a18⟩,a19⟩,a20⟩,a21⟩,a22⟩:=h;have q:∀ {α:Type} [BEq α] [LawfulBEq α] {x y:α},x=y -> (x==y)=true:=fun h=>by rw[h];simp
 exact⟨⟨⟨⟨⟨⟨⟨⟨⟨⟨⟨⟨⟨⟨⟨⟨⟨⟨⟨⟨⟨⟨⟨⟨⟨⟨⟨⟨⟨⟨⟨a1,laidOut⟩,jMaps⟩,a2⟩,a3⟩,a4⟩,a5⟩,a6⟩,a7⟩,q h1⟩,q h2⟩,q h3⟩,q h4⟩,a8⟩,a9⟩,a10⟩,a11⟩,a12⟩,a13⟩,a14⟩,a15⟩,a16⟩,by rw[h6,jKeys];simp⟩,a17⟩,jHeard⟩,jEnter⟩,by rw[h5,jLift];simp⟩,a18⟩,a19⟩,a20⟩,a21⟩,a22⟩
end Go.Proofs.YtdefghfjhgmpfaaGreatDoor
