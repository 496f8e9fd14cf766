/- Parts of this proof: Text LimQ FrameS FrameSJ SData FrameF Reads. -/
import Derived.Test.YtokagbahdkfagaaGreatDoorMAF
import Derived.Test.YtokagbahdkfagaaGreatDoorMAD
import Derived.Test.YtokagbahdkfagaaGreatDoorMAA
import Derived.Deep.LoopGhost
import Derived.Lib.AppendIntMem
import Derived.WalkKit
import Derived.Laws.IdiomCopy
import Derived.Deep.Upon
import Derived.Lib.EndianMore
import Derived.Test.YtokagbahdkfagaaGreatDoorMAP
import Derived.Test.YtokagbahdkfagaaGreatDoorCards
import Derived.Test.YtokagbahdkfagaaGreatDoorTie
import Derived.Test.YtokagbahdkfagaaGreatDoorMAQ
import Derived.ProofKit
import Derived.OpenShut
import Derived.WideKeyArgs
import Derived.Deep.Strs
import Derived.Deep.DeepHandedRow
import Derived.Deep.DeepWitnessRowRef
import Derived.Lib.LaidTab
import Derived.Lib.LaidIn
import Derived.Stop.LaidErr
import Derived.Deep.SlicePairs
import Derived.Lib.SmallJoins
namespace Go.Proofs.YtokagbahdkfagaaGreatDoor
open Go.Proofs.Tryz
section
open Go.RowKit
theorem EU:(prog.info? 9).map (fun i=>(i.zero,i.size,i.bytes))=some (some (.string ⟨#[]⟩),1,16):=by kernel_rfl
theorem oo{P:Program}{w w':World}{r:String}{k:IntKind}{zs:List Int}(h:Lib.TabIs P w r k zs)(t:Below w.heap.size w w'):Lib.TabIs P w' r k zs:=by
 unfold Lib.TabIs World.var? at*;cases hg:P.globalNamed r with
 | none=>rw[hg] at h;simp at h
 | some g=>
  rw[hg] at h;simp only[Option.bind_some] at h ⊢
  rcases Nat.lt_or_ge g w.heap.size with E | C
  ·rw[t.block g E];exact h
  ·rw[Array.getElem?_eq_none C] at h;simp at h
def ko(l:List UInt8):Value:= .string ⟨l.toArray⟩
theorem yA{w w':World}{base size n:Nat}{e:TypeId}{v:Value}{xs:List Value}(h:w.ownsRow base e size v n xs)(C:Below w.heap.size w w'):w'.ownsRow base e size v n xs:=by
 refine⟨h.1,?_⟩
 rcases h.2 with G | ⟨g,cap,t,rfl,E,r,rest⟩
 ·exact .inl G
 ·exact .inr ⟨g,cap,t,rfl,E,(C.block g (Array.getElem?_eq_some_iff.1 r).1).trans r,rest⟩
theorem EW{w:World}{base t n:Nat}{v:Value}{r:List (List UInt8)}{l:List Nat}(h:w.ownsRow base 9 1 v n (r.map ko))(V:0<n)(R:U32 w (some ⟨t,0,none⟩) l)(M:0<l.length):v.ownBlock≠some t:=by
 intro E;have O:n*1=(r.map ko).length:=by have:=h.1;omega
 have C: w.cell? ⟨t,0,none⟩=some (.int .u32 (dg l 0:Nat)):=by
  rcases R with h0 | ⟨b',W,G,C,_⟩
  ·omega
  ·simp only[Option.some.injEq,Addr.mk.injEq,and_true] at G;obtain⟨rfl,rfl⟩:=G;exact C 0 M
 rcases h.2 with ⟨rfl,_⟩ | ⟨g,cap,U,T,_⟩
 ·simp[Value.ownBlock] at E
 ·subst T;simp only[Value.ownBlock,Option.some.injEq] at E;subst E;have h0:=World.ownsRow.cellAt h 0 oM;rw[C] at h0
  rcases r with _ | ⟨x,r⟩
  ·simp at O;omega
  ·simp[ko] at h0
theorem EX{w:World}{base t:Nat}{v:Value}{r:List (List UInt8)}{l:List Nat}(h:w.ownsRow base 9 1 v r.length (r.map ko))(G:r= [] -> v= .slice none 0 0)(M:U32 w (some ⟨t,0,none⟩) l)(E:0<l.length):v.ownBlock≠some t:=by
 by_cases C:r= []
 ·rw[G C];simp[Value.ownBlock]
 ·exact EW h (List.length_pos_iff.2 C) M E
theorem Cells.EY{w w':World}{b t n:Nat}{r:Option Nat}{f:Nat -> Value}(h:Cells w (some ⟨b,t,none⟩) n f)(E:w.grownBy w' r)(G:r≠some b):Cells w' (some ⟨b,t,none⟩) n f:=by
 rcases h with h | ⟨b',T,C,O,M⟩
 ·exact .inl h
 ·simp only[Option.some.injEq,Addr.mk.injEq,and_true] at C;obtain⟨rfl,rfl⟩:=C;refine .inr ⟨b,t,rfl,fun j R=>E.cell (O j R) (Ne.symm G),M.mD (E.block b ?_ (Ne.symm G))⟩;obtain⟨_,_,_,h1,_⟩:=M;exact(Array.getElem?_eq_some_iff.1 h1).1
set_option maxHeartbeats 1600000 in
theorem EZ(va:Value)(a:Int)(w:World)(ha:eT w va a)(aM:(ek a.natAbs).length<1099511627776)(aw:(Lib.decDigits a.natAbs).length <= 1000000000)(ay:Lib.TabIs prog w "internal/strconv.uint64pow10" .u64 Lib.pow10Tab):
  Calls prog 62 #[va] w fun e w'=>e= .returned (.string (txt a)) /\ Below w.heap.size w w':=by
 obtain⟨A,O,rfl,aJ,bQ,ap⟩:=ha;obtain⟨i0,bg,bs,bu,bw⟩:=info_parts EU;obtain⟨s,hs⟩:=eX (decide (a<0));rw[<- hs];obtain⟨n,hn⟩:=eX (a.natAbs);rw[<- hn] at ap aM aw aJ ⊢;by_cases hz:(ek n).length=0
 ·have aY:((((ek n).length:Nat):Int)==0)=true:=by rw[hz];rfl
  have bi:n=0:=oL.1 hz
  have bp:txt a=⟨#[48]⟩:=by
   rw[show a=0 by omega];unfold txt Lib.itoa;rw[if_neg oM];show(⟨(Lib.decDigits 0).toArray⟩:ByteArray)=_;rw[Lib.decDigits_one oM];rfl
  rw[bp];clear hz ap hs hn bi bp aw ay;go_enter func62,ntmps62;go_wp2_with fail
  go_returns;exact⟨rfl,by go_grown⟩
 ·have aY:((((ek n).length:Nat):Int)==0)=false:=by rw[beq_eq_false_iff_ne];omega
  obtain⟨W,hW⟩:=eX (w.alloc (.cells #[.bool s, .slice A (ek n).length O] 38));have r1:=(jy w (.cells #[.bool s, .slice A (ek n).length O] 38)).1;have aG:=(jy w (.cells #[.bool s, .slice A (ek n).length O] 38)).2.1;have av:=(jy w (.cells #[.bool s, .slice A (ek n).length O] 38)).2.2;rw[<- hW] at r1 av aG;have r1:Row W w.heap.size 38 [.bool s, .slice A (ek n).length O]:=r1;have e0:=r1.at_ 0 rfl;have e1:=r1.at_ 1 rfl
  have b8:∀b a5,A=some ⟨b,a5,none⟩ -> b<w.heap.size \/ a5=0:=by
   obtain⟨b,a5,hA,hb,_⟩:=Cells.at_ ap oM;intro b' cj e;rw[hA] at e;simp only[Option.some.injEq,Addr.mk.injEq,and_true] at e
   left;omega
  have bx:=lH b8;have b6:=lH ay;clear b8;have b7:=lH av;have bY:=lH aG;have HU:=lH (Cells.below ap av);have R1:=lH r1;have HS:=lH hs;have HN:=lH hn;clear av ap r1 hz hs hn aG;go_enter func62,ntmps62;go_wp2_with fail
  rw[<- hW];clear hW;go_wp2_with fail
  have bL:=lH (oo ay b7.o);have ad:=lH aw;have bA:=lH aJ;have bG:=lH aM;have bi:0<n:=kI.1 (by have:=aY;rw[beq_eq_false_iff_ne] at this;omega);clear ay aw aJ aM aY
  go_loopg [3,4] n (fun g gv mv wr=>∃ (m:Nat) (r:List (List UInt8)) (A':Option Addr) (c':Nat),mv= .slice A' (ek m).length c' /\ Hid (g=m) /\ (ek m).length <= c' /\ c' <= maxLen /\ U32 wr A' (ek m) /\ Hid (∀b a5,A'=some ⟨b,a5,none⟩ -> b<w.heap.size \/ a5=0) /\ Hid (wr.ownsRow (w.heap.size+1) 9 1 gv r.length (r.map ko)) /\
   Hid (Lib.decDigits n=ahead m++r.reverse.flatten) /\ Hid (r.length <= r.reverse.flatten.length) /\ Hid (r= [] -> gv= .slice none 0 0) /\ Hid (m=0 -> r≠ []) /\ Hid (Row wr w.heap.size 38 [.bool s, .slice A (ek n).length O]) /\ Hid ((ek m).length <= (ek n).length) /\ Hid (Below w.heap.size w wr) /\ Hid (Lib.TabIs prog wr "internal/strconv.uint64pow10" .u64 Lib.pow10Tab))
  case atStart=>
   refine⟨n,[],A,O,rfl,lH rfl,bA.o,bQ,HU.o,bx,lH (World.ownsRow_nil _ _ _ _),lH ?_,lH (by simp),lH (fun _=>rfl),lH (fun h=>by omega),R1,lH (Nat.le_refl _),b7,bL⟩;unfold ahead;rw[if_neg oM];simp
  case round=>
   obtain⟨m,r,A',c',rfl,bd,c6,c7,br,bZ,ax,ah,aj,bU,aO,a7,aL,af,bq⟩:=hrel;have bM:=lH br;clear br;by_cases hm:(0:Int)<(((ek m).length:Nat):Int)
   ·have a4:0<m:=kI.1 oM;have cd:0<(ek m).length:=oM
    obtain⟨E,aQ⟩:=eX (m / 1000000000);obtain⟨t,aV⟩:=eX (m%1000000000);have cf:t<1000000000:=oM
    have a8:=wY A' c' 1000000000 (ek m) wr bM.o (fV m) (by have:=aL.o;have:=bG.o;omega) oM oM;rw[fC, <- aQ, <- aV] at a8;have b4:=lH a8;have a3:=lH aQ;have b1:=lH aV;clear aQ aV a8;by_cases hq:(0:Int)<(((ek E).length:Nat):Int)
    ·have bk:0<(ek E).length:=oM
     have bR:=nW 8 t oM;obtain⟨d,hd⟩:∃d:Nat,(9:Int)-(((Lib.decDigits t).length:Nat):Int)=(d:Nat):=⟨9-(Lib.decDigits t).length,by omega⟩
     have cb:((d:Nat):Int) <= 9:=oM
     have bc:d=8+1-(Lib.decDigits t).length:=oM
     have bE:=lH bc;clear bc;go_wp2_with fail
     refine b4.o.mono ?_;rintro e C ⟨v,rfl,⟨aN,a8⟩,R⟩;obtain⟨gq,nq,cq,rfl⟩:=a8;obtain⟨Aq,bO,hv,aR,aS,an⟩:=aN;simp only[Value.slice.injEq] at hv;obtain⟨rfl,rfl,rfl⟩:=hv;have a1:=lH R;have aC:=lH an;clear R an;go_wp2_with fail
     refine(Tryz.strconv_Itoa ((t:Nat):Int) oM oM C (oo bq.o a1.o)).mono ?_;rintro e w3 ⟨rfl,k3,bW,ar⟩;have Z:Below C.heap.size C w3:=by rw[ar];exact Lib.below_grow _ _ (Nat.le_refl _) _ _
     rw[Lib.itoa_nonneg];have a9:=lH Z;clear Z ar;go_wp2_with fail
     refine(Tryz.strings_Repeat ⟨#[48]⟩ d w3 oM (by show 1*d <= _;omega)).mono ?_;rintro e w4 ⟨rfl,b9⟩;have aZ:=lH b9;clear b9;obtain⟨S1,au⟩:∃S1:ByteArray,S1=⟨(Lib.repeatL (⟨#[48]⟩:ByteArray).data.toList d).toArray⟩:=⟨_,rfl⟩
     rw[<- au];obtain⟨M,Y⟩:∃M:ByteArray,M=⟨(Lib.decDigits t).toArray⟩:=⟨_,rfl⟩
     try rw[<- Y]
     have bK:=lH au;have aE:=lH Y
     have ci:((S1.size:Nat):Int) <= 9:=by
      rw[au];show(((Lib.repeatL [48] d).toArray.size:Nat):Int) <= 9;rw[List.size_toArray,Lib.repeatL_length];simp;omega
     have bV:((M.size:Nat):Int) <= 9:=by
      rw[Y];show(((Lib.decDigits t).toArray.size:Nat):Int) <= 9;rw[List.size_toArray];omega
     have bv:S1.size+M.size <= 9223372036854775807:=oM
     clear au Y
     go_upto_region 10 with (fail)
     obtain⟨V,a6⟩:=eX (S1++M);rw[<- a6]
     have aq:Value.string V=ko (jc m):=by
      rw[a6,bK.o,aE.o];unfold ko jc;rw[if_neg (by rw[<- a3.o];have:=kI.1 bk;omega), <- b1.o, <- Cm 8 t oM, <- bE.o];refine congrArg Value.string ?_;apply ByteArray.ext;simp
     have aF:=lH aq;obtain⟨G,a0⟩:=eX (w4);rw[<- a0];have ae:Below wr.heap.size wr G:=by rw[a0];exact a1.o.trans ((a9.o.mono a1.o.size).trans (aZ.o.mono (Nat.le_trans a1.o.size a9.o.size)))
     have U:=lH ae;have ao:U32 G (some ⟨gq,0,none⟩) (ek E):=by rw[a0];exact(aC.o.below a9.o).below aZ.o
     have aD:=lH ao;clear a6 aq a0 ae ao
     have ac:r.length <= 1000000000:=by
      have h1:=congrArg List.length ah.o;rw[List.length_append] at h1;have X:=aj.o;have h3:=ad.o;omega
     have am:=yA ax.o U.o;have a2:=lH am;clear am
     go_wp2_with (at_builtin;refine wpList_append_own _ rfl (.tmp 35) (.tmp 37) 168 rfl (w.heap.size+1) 9 i0 (.string ⟨#[]⟩) 1 16 underlying168 bg bs bu bw rfl dC _ _ _ rfl (a2.o.alloc _) ⟨G.heap.size,0,none⟩ 1 1 [.string V] rfl rfl ?c1 ?c2 ?c3 ?c4 ?c5 ?_)
     case c1=>
      intro j u T
      rcases j with _ | j
      ·simp at T;subst T;simp[Addr.add]
      ·simp at T
     case c2=>intro u hu;simp at hu;subst hu;rfl
     case c3=>unfold maxLen;omega
     case c4=>omega
     case c5=>
      have h1:=a7.o.lt;have X:=U.o.size;have h3:=(jy G (.cells #[.string V] 9)).2.1;omega
     ·intro v' w1 al ai ak;have aB:=lH al;have aa:=lH ai;have bH:=lH ak;clear al ai ak;go_wp2_with fail
      go_roundg E
      case measure=>rw[bd.o,a3.o];exact Nat.div_lt_self a4 dC
      case rel=>
       have ab:=(jy G (.cells #[.string V] 9)).2.2;have aO:=EX a2.o bU.o aD.o bk;have aT:=Cells.EY (U32.below aD.o ab) aa.o aO
       have ag:Below w.heap.size w w1:=by
        have h0:=af.o.trans (U.o.mono af.o.size);have h1:=h0.trans (ab.mono h0.size);refine h1.grown aa.o h1.size ?_;intro k hk;have:=(a2.o.lt k hk).1;omega
       have aW:Row w1 w.heap.size 38 [.bool s, .slice A (ek n).length O]:=by
        have h0:=(a7.o.below U.o a7.o.lt);have h1:=h0.below ab h0.lt;refine(aa.o.block w.heap.size h1.lt ?_).trans h1;intro he;have:=(a2.o.lt _ he.symm).1;omega
       have aP:w1.ownsRow (w.heap.size+1) 9 1 v' (r++ [jc m]).length ((r++ [jc m]).map ko):=by
        have h0:=aB.o;rw[aF.o] at h0;rw[List.length_append,List.map_append];exact h0
       refine⟨E,r++ [jc m],some ⟨gq,0,none⟩,cq,rfl,lH rfl,aR,aS,aT,lH (fun b a5 e=>by simp only[Option.some.injEq,Addr.mk.injEq,and_true] at e;exact .inr e.2.symm),lH aP,lH ?_,lH ?_,lH (fun h=>by simp at h),lH (fun h=>by simp),lH aW,lH ?_,lH ag,lH (oo b6.o ag)⟩
       ·rw[ah.o,vS a4, <- a3.o];simp
       ·have h1:=aj.o
        have X:0<(jc m).length:=by
         unfold jc;split
         ·rw[Lib.decDigits];split <;> simp
         ·rw[vR];omega
        simp at h1 ⊢;omega
       ·exact Nat.le_trans (jT (by rw[a3.o];exact Nat.div_le_self _ _)) aL.o
    ·have aU:(ek E).length=0:=oM
     have bj:E=0:=oL.1 aU;have ce:decide (0<(ek E).length)=false:=decide_eq_false oM;have bJ:=lH aU;have bI:=lH bj;have bR:=nW 8 t oM;clear aU bj;go_wp2_with fail
     refine b4.o.mono ?_;rintro e C ⟨v,rfl,⟨aN,a8⟩,R⟩;obtain⟨gq,nq,cq,rfl⟩:=a8;obtain⟨Aq,bO,hv,aR,aS,an⟩:=aN;simp only[Value.slice.injEq] at hv;obtain⟨rfl,rfl,rfl⟩:=hv;have a1:=lH R;have aC:=lH an;clear R an;go_wp2_with fail
     refine(Tryz.strconv_Itoa ((t:Nat):Int) oM oM C (oo bq.o a1.o)).mono ?_;rintro e w3 ⟨rfl,k3,bW,ar⟩;have Z:Below C.heap.size C w3:=by rw[ar];exact Lib.below_grow _ _ (Nat.le_refl _) _ _
     rw[Lib.itoa_nonneg];have a9:=lH Z;clear Z ar;obtain⟨M,Y⟩:∃M:ByteArray,M=⟨(Lib.decDigits t).toArray⟩:=⟨_,rfl⟩
     try rw[<- Y]
     have aE:=lH Y
     have bV:((M.size:Nat):Int) <= 9:=by
      rw[Y];show(((Lib.decDigits t).toArray.size:Nat):Int) <= 9;rw[List.size_toArray];omega
     clear Y
     go_upto_region 10 with (fail)
     obtain⟨V,a6⟩:=eX (M);rw[<- a6]
     have aq:Value.string V=ko (jc m):=by
      rw[a6,aE.o];unfold ko jc;rw[if_pos (by rw[<- a3.o];exact bI.o), <- b1.o]
     have aF:=lH aq;obtain⟨G,a0⟩:=eX (w3);rw[<- a0];have ae:Below wr.heap.size wr G:=by rw[a0];exact a1.o.trans (a9.o.mono a1.o.size)
     have U:=lH ae;have ao:U32 G (some ⟨gq,0,none⟩) (ek E):=by rw[a0];exact aC.o.below a9.o
     have aD:=lH ao;clear a6 aq a0 ae ao
     have ac:r.length <= 1000000000:=by
      have h1:=congrArg List.length ah.o;rw[List.length_append] at h1;have X:=aj.o;have h3:=ad.o;omega
     have am:=yA ax.o U.o;have a2:=lH am;clear am
     go_wp2_with (at_builtin;refine wpList_append_own _ rfl (.tmp 35) (.tmp 37) 168 rfl (w.heap.size+1) 9 i0 (.string ⟨#[]⟩) 1 16 underlying168 bg bs bu bw rfl dC _ _ _ rfl (a2.o.alloc _) ⟨G.heap.size,0,none⟩ 1 1 [.string V] rfl rfl ?c1 ?c2 ?c3 ?c4 ?c5 ?_)
     case c1=>
      intro j u T
      rcases j with _ | j
      ·simp at T;subst T;simp[Addr.add]
      ·simp at T
     case c2=>intro u hu;simp at hu;subst hu;rfl
     case c3=>unfold maxLen;omega
     case c4=>omega
     case c5=>
      have h1:=a7.o.lt;have X:=U.o.size;have h3:=(jy G (.cells #[.string V] 9)).2.1;omega
     ·intro v' w1 al ai ak;have aB:=lH al;have aa:=lH ai;have bH:=lH ak;clear al ai ak;go_wp2_with fail
      go_roundg E
      case measure=>rw[bd.o,a3.o];exact Nat.div_lt_self a4 dC
      case rel=>
       have ab:=(jy G (.cells #[.string V] 9)).2.2;have aT:U32 w1 (some ⟨gq,0,none⟩) (ek E):= .inl bJ.o
       have ag:Below w.heap.size w w1:=by
        have h0:=af.o.trans (U.o.mono af.o.size);have h1:=h0.trans (ab.mono h0.size);refine h1.grown aa.o h1.size ?_;intro k hk;have:=(a2.o.lt k hk).1;omega
       have aW:Row w1 w.heap.size 38 [.bool s, .slice A (ek n).length O]:=by
        have h0:=(a7.o.below U.o a7.o.lt);have h1:=h0.below ab h0.lt;refine(aa.o.block w.heap.size h1.lt ?_).trans h1;intro he;have:=(a2.o.lt _ he.symm).1;omega
       have aP:w1.ownsRow (w.heap.size+1) 9 1 v' (r++ [jc m]).length ((r++ [jc m]).map ko):=by
        have h0:=aB.o;rw[aF.o] at h0;rw[List.length_append,List.map_append];exact h0
       refine⟨E,r++ [jc m],some ⟨gq,0,none⟩,cq,rfl,lH rfl,aR,aS,aT,lH (fun b a5 e=>by simp only[Option.some.injEq,Addr.mk.injEq,and_true] at e;exact .inr e.2.symm),lH aP,lH ?_,lH ?_,lH (fun h=>by simp at h),lH (fun h=>by simp),lH aW,lH ?_,lH ag,lH (oo b6.o ag)⟩
       ·rw[ah.o,vS a4, <- a3.o];simp
       ·have h1:=aj.o
        have X:0<(jc m).length:=by
         unfold jc;split
         ·rw[Lib.decDigits];split <;> simp
         ·rw[vR];omega
        simp at h1 ⊢;omega
       ·exact Nat.le_trans (jT (by rw[a3.o];exact Nat.div_le_self _ _)) aL.o
   ·have a4:m=0:=oL.1 oM;have be:r≠ []:=aO.out a4;have aK:Lib.decDigits n=r.reverse.flatten:=by have:=ah.o;unfold ahead at this;rwa [if_pos a4,List.nil_append] at this
    have ac:r.length <= 1000000000:=by
     have h1:=congrArg List.length aK;have X:=aj.o;have h3:=ad.o;omega
    have bf:u3≠ .slice none 0 0:=by
     intro e;have h1:=ax.o;rw[e] at h1;have X:=h1.1
     rcases h1.2 with ⟨_,h3⟩ | ⟨_,_,_,h3,_⟩
     ·exact be (by simpa using h3)
     ·simp at h3
    obtain⟨g1,cap,rfl,bS,hO⟩:=Own.x9 ax.o bf;have HO:=lH hO;have bC:=lH aK;have bF:=lH ac;have c8:decide (0<(ek m).length)=false:=decide_eq_false oM;have c9:decide ((0:Int)<(((ek m).length:Nat):Int))=false:=decide_eq_false hm;clear hO aK be bf a4 bS ac hm;go_wp2_with fail
    have ac:=bF.o;refine(Tryz.slices_Reverse_string_cells g1 0 r.length cap (fun i=>⟨(r.getD i []).toArray⟩) wr oM (fun i hi=> ?_) (fun j _=>HO.o.free _)).mono ?_
    ·rw[Nat.zero_add,HO.o.cell (by rw[List.length_map];exact hi)];simp[hi,ko]
    rintro e C ⟨rfl,q,az⟩;have cc:=HO.o.lt
    have bn:Lib.strsOf (fun i=>⟨(r.getD i []).toArray⟩) r.length=r:=by
     apply List.ext_getElem
     ·rw[Lib.strsOf_length]
     ·intro i h1 X;simp[Lib.strsOf,X]
    rw[bn] at az
    have bb:∀ (j:Nat) (x:ByteArray),(r.reverse.map (fun l=>(⟨l.toArray⟩:ByteArray)))[j]? =some x -> C.cell? ⟨g1,0+j,none⟩=some (.string x):=by
     intro j x hx
     have T:j<r.length:=by
      have:=(List.getElem?_eq_some_iff.1 hx).1
      simpa using this
     rw[az,World.cell?_setCells_in g1 _ 0 _ (fun i hi=> ?_) j (by simpa using T)]
     ·rw[List.getElem?_map] at hx;simp only[List.getElem_map];rw[List.getElem?_eq_getElem (by simpa using T)] at hx;simp only[Option.map_some,Option.some.injEq] at hx;rw[<- hx]
      first | done | rfl
     ·rw[List.length_map,List.length_reverse] at hi;rw[Nat.zero_add];show(wr.cell? ⟨g1,i,none⟩).isSome=true;rw[HO.o.cell (by rw[List.length_map];exact hi)];simp[hi]
    have R:Below g1 wr C:=by
     rw[az];exact(below_drewN g1 wr q).trans (Lib.below_setCells_w (Nat.le_refl _) _ _ _)
    have bl:Row C w.heap.size 38 [.bool s, .slice A (ek n).length O]:=a7.o.below R oM;have ba:Below w.heap.size w C:=af.o.trans (R.mono oM);have ch:=R.size;have bB:=lH bb;have b2:=lH bl;have bz:=lH ba;clear bb bl ba R bn az;go_wp2_with fail
    have aH:=bz.o
    have bh:(Lib.join ((r.reverse.map (fun l=>(⟨l.toArray⟩:ByteArray))).map (·.data.toList)) (⟨#[]⟩:ByteArray).data.toList)=Lib.decDigits n:=by
     show Lib.join _ []=_;rw[Cn,List.map_map,bC.o];refine congrArg List.flatten ((List.map_congr_left (fun l _=> ?_)).trans (List.map_id _));rfl
    have HJ:=lH bh;clear bh;have aA:(r.reverse.map (fun l=>(⟨l.toArray⟩:ByteArray))).length=r.length:=by rw[List.length_map,List.length_reverse]
    have aX:=Tryz.strings_Join g1 0 cap (r.reverse.map (fun l=>(⟨l.toArray⟩:ByteArray))) ⟨#[]⟩ C bB.o oM (by rw[aA];omega) (by have:=HO.o.le;rw[List.length_map] at this;rw[aA];exact this.1) (by rw[HJ.o];have:=ad.o;omega);rw[aA] at aX;refine aX.mono ?_;clear aX aA;rw[HJ.o];rintro e w3 ⟨rfl,Z⟩;have c0:=(b2.o.below Z b2.o.lt).at_ 0 rfl;have b0:=lH (aH.trans (Z.mono aH.size));have bm:=HS.o;obtain⟨S,hS⟩:∃S:ByteArray,S=⟨(Lib.decDigits n).toArray⟩:=⟨_,rfl⟩
    rw[<- hS]
    have bo:S.size <= 1000000000:=by
     rw[hS];show(Lib.decDigits n).toArray.size <= _;rw[List.size_toArray];exact ad.o
    have b5:=lH hS;have b3:=lH bm;have bX:=lH bo
    have bv:(⟨#[45]⟩:ByteArray).size+S.size <= 9223372036854775807:=by
     show 1+S.size <= _;omega
    clear hS bm Z aH bo ac;cases s
    ·have bP:S=txt a:=by
      have h1:=b3.o;rw[b5.o,HN.o];unfold txt;rw[jK (by simpa using h1)]
     clear bv;go_wp2_with fail
     go_returns;exact⟨rfl,b0.o⟩
    ·have bP:(⟨#[45]⟩:ByteArray)++S=txt a:=by
      have h1:=b3.o;rw[b5.o,HN.o];unfold txt;rw[itoa_neg (by simpa using h1)];apply ByteArray.ext;simp
     go_wp2_with fail
     go_returns;exact⟨rfl,b0.o⟩
end
section
open Go.RowKit
open Lp (RL upd eu)
def Tab(w:World):Prop:=Lib.TabIs prog w "internal/strconv.uint64pow10" .u64 Lib.pow10Tab
theorem Tab.below{w w':World}(h:Tab w)(r:Below w.heap.size w w'):Tab w':=oo h r
theorem ui(h:Value)(a:Int)(k:Nat)(w:World)(t:eT w h a)(r:a.natAbs<10^k)(E:k <= 1000000)(C:Tab w):
  Calls prog 62 #[h] w fun e w'=>e= .returned (.string (txt a)) /\ Below w.heap.size w w':=
 EZ h a w t (by have:=jS (Nat.lt_of_lt_of_le r (Nat.pow_le_pow_left dC k));omega) (by have:=nW k _ (Nat.lt_of_lt_of_le r (Nat.pow_le_pow_right dC oM));omega) C
theorem yB{a:Int}{k:Nat}(t:a.natAbs<10^k)(C:k <= 1000000):(txt a).size <= 1000002:=by
 have h:=nW k _ (Nat.lt_of_lt_of_le t (Nat.pow_le_pow_right dC oM));rw[show(txt a).size=(Lib.itoa a).length by unfold txt;rfl];by_cases r:a<0
 ·rw[itoa_neg r,List.length_cons];omega
 ·rw[jK r];omega
theorem yC{q:Rat}(h:q.den≠1):txt q.num++ ⟨#[47]⟩++txt (q.den:Int)=eB q:=by
 have h1:(txt q.num++ ⟨#[47]⟩++txt (q.den:Int)).data.toList=(eB q).data.toList:=by
  rw[jA,oQ h];have r:Lib.itoa (q.den:Int)=Lib.decDigits q.den:=by rw[jK oM,Int.natAbs_natCast]
  simp[txt,r]
 have t:∀a b:ByteArray,a.data.toList=b.data.toList -> a=b:=by
  intro a b h;cases a with
  | mk C=>
   cases b with
   | mk E=>
    congr 1;exact Array.toList_inj.1 h
 exact t _ _ h1
end
section
open Go.ChangeShapes Go.WideShapes Go.ChangeAt Go.RowKit
theorem own:ownKnob prog.godebug=none:=by kernel_rfl
theorem F6:prog.globalNamed "internal/strconv.uint64pow10" =some 1:=by kernel_rfl
theorem F7:(prog.globals[1]?).map (·.type)=some 282:=by kernel_rfl
theorem laidOut:laidOutB prog=true:=by kernel_rfl
section
variable {H:Type} {enc:TypeId × Value -> H} {P:Program}
theorem yD(R:laidOutB P=true){W M:World}(O:Below W.heap.size W M){T:Nat -> Bool}:∀ {ts:List TypeId} {vs:List Value} {ds:List (DataW H)} {G:List MemPlace},
  (ts.all fun t=>P.readableRec t && decide (t<P.types.size))=true -> DataW.TrodAll enc P W 0 (fun _=>true) true ts vs ds G -> (∀p ∈ G,p.block<W.heap.size /\ T p.block=true) -> DataW.TrodAll enc P M 0 T true ts vs ds G
 | [],_,_,_,_,h,_=>by
  obtain⟨rfl,rfl,rfl⟩:=trodAll_nil h;exact h
 | t::ts,_,_,_,C,h,E=>by
  obtain⟨v,X,d,V,a,b,rfl,rfl,rfl,h1,U⟩:=trodAll_cons h;simp only[List.all_cons,Bool.and_eq_true,decide_eq_true_eq] at C;refine⟨a,b,WideElems.Trod_stays R C.1.1 C.1.2 h1 (fun x r=>O.same (E x (by simp[r])).1) (fun x r=>(E x (by simp[r])).2),?_,rfl⟩;exact yD R O C.2 U (fun x r=>E x (by simp[r]))
theorem F8{f:Func}{s:ChangeSpec}{apart fresh a3 a2:Bool}{W O:World}{args:Array Value}{v:Value}{G M:List (DataW H)}{E:List MemPlace}
  (U:DataW.Whole enc P f.params.toList s.vars apart W args.toList G M E) (hl:laidOutB P=true) (a7:(f.params.toList.all fun t=>P.readableRec t && decide (t<P.types.size))=true)
  (hv:s.vars= []) (hA:DataW.TrodAll enc P W 0 (fun _=>true) true f.params.toList args.toList G E) (a4:(s.fn H (G++M)).args=G) (a8:(s.fn H (G++M)).vars= [])
  (Z:∀ (b:Nat) (T:Nat -> Bool) (hd:Bool),DataW.TrodAll enc P O b T hd f.resultTypes.toList (v.resultList f.resultTypes.size) (s.fn H (G++M)).results [])
  (V:Below W.heap.size W O)
  (a5:∀ (j:Nat) (t:TypeId) (r:Value),f.resultTypes[j]? =some t -> (v.resultList f.resultTypes.size)[j]? =some r -> Value.okWide P O .any 0 t r):
  s.post enc P f apart fresh a3 a2 W args v O:=by
 have R:∀p ∈ E,p.block<W.heap.size:=fun p C=>U.lt p C
 have a6:∀p ∈ E,p.block<W.heap.size /\ (fun b=>decide (b<W.heap.size)) p.block=true:=fun p C=>⟨R p C,by simpa using R p C⟩
 have a0:∀T:Nat -> Bool,DataW.TrodVars enc P O T s.vars (s.fn H (G++M)).vars []:=fun T=>by rw[hv,a8];exact rfl
 have hA1:∀X:Nat -> Bool,(∀p ∈ E,X p.block=true) -> DataW.TrodAll enc P O 0 X true f.params.toList args.toList (s.fn H (G++M)).args E:=fun X h=>by
  rw[a4];exact yD hl V a7 hA (fun p C=>⟨R p C,h p C⟩)
 refine⟨G,M,E,[],E,[],U,Z _ _ _,hA1 _ (fun p C=>(a6 p C).2),a0 _,V.frame _,fun _=> ?_⟩
 ·obtain⟨_,_,_,_,he,hz,hn⟩:=U;refine⟨a5,_,_,([]++E)++ [],⟨[]++E,[],trodAll_append (hA1 _ (fun _ _=>rfl)) (Z _ _ _),a0 _,rfl,?_,?_⟩,?_⟩
  ·intro b a1 C;have Y:MemPlace.cell b a1 ∈ E:=by simpa using C
   rw[V.frozen (by exact R _ Y)];exact hz b a1 Y
  ·intro ha
   simpa using hn ha
  ·intro p C _
   simpa using C
end
set_option maxRecDepth 100000 in
theorem F9{W:World}{base:Nat}{v:Value}{H:Type}{enc:TypeId × Value -> H}{d:DataW H}{V:List MemPlace}(h:Value.okWide prog W .any base 26 v)(M:DataW.Trod enc prog W 0 (fun _=>true) true 26 v d V):
  ∃n s,TSA W v n s:=by
 obtain⟨a,n,c,rfl⟩:=okWide_slice underlying26 h;obtain⟨fuel,O⟩:=M
 have r:Cell.ok prog W .any base 26 (.slice a n c):=by
  unfold Value.okWide Cell.okWide at h;rw[underlying26] at h;exact h
 unfold Cell.ok at r;rw[underlying26] at r
 rcases Go.Deep.open_strs underlying26 underlying22 kR O with ⟨h0,_⟩ | ⟨a',len,cap,m,C,h0,_,R,T,U,_,G⟩
 ·simp[Value.cells] at h0;obtain⟨rfl,rfl,rfl⟩:=h0;exact⟨0,fun _=>⟨#[]⟩,⟨_,_,rfl,Nat.le_refl _,Nat.zero_le _, .inl rfl⟩, .inl ⟨rfl,rfl⟩⟩
 ·simp[Value.cells] at h0;obtain⟨rfl,rfl,rfl⟩:=h0;obtain⟨_,_,_,t,_⟩:=r;obtain⟨b,o,Y⟩:=a';simp only at t;subst t;refine⟨n,C,⟨_,_,rfl,R,T, .inr ⟨b,o,rfl,fun j X=> ?_⟩⟩, .inr (.inl ⟨b,o,c,rfl⟩)⟩;have h1:=(G j (by rw[U];split <;> omega)).1
  have E:(⟨b,o,none⟩:Addr).add j=⟨b,o+j,none⟩:=by
   unfold Addr.add;by_cases e:j=0
   ·rw[if_pos e,e];rfl
   ·rw[if_neg e]
  rw[<- E];exact h1
theorem Fa{W:World}(h:W.ShapedOpen prog):fF W:=Tryz.BD.s1_3 W h
theorem Fb{W:World}{rest:List (String × DataW Unit)}(h:laidMet prog (("math/bits.deBruijn32tab",Rows.laid_math_bits_deBruijn32tab):: ("math/bits.deBruijn64tab",Rows.laid_math_bits_deBruijn64tab):: ("internal/strconv.uint64pow10",Rows.laid_internal_strconv_uint64pow10)::rest) W):Tab W:=
 Lib.tabIs_of_head (rest:=rest) (k:= .u64) (zs:=Lib.pow10Tab) (n:=20) F6 F7 underlying282 underlying178 kR kR h.tail.tail
noncomputable def uj(os:Os):World:=
 let N:=(World.holding prog default ⟨#[], #[],[]⟩).heap.size
 let w0:=World.holding prog os ⟨#[.cells #[.string ⟨#[105,110,118,97,108,105,100,32,115,121,110,116,97,120]⟩] 296, .cells #[.string ⟨#[118,97,108,117,101,32,111,117,116,32,111,102,32,114,97,110,103,101]⟩] 296], #[],[]⟩
 let put (h:Array Obj) (g:Nat) (cs:Array Value):Array Obj:=h.modify g fun
  | .cells _ t frozen=> .cells cs t frozen
  | o=>o
 let u8s (l:List Int):Array Value:=(l.map fun z=>Value.int .u8 z).toArray
 let h0:=put (put w0.heap 4 #[.iface 294 (.pointer (some ⟨N,0,none⟩))]) 5 #[.iface 294 (.pointer (some ⟨N+1,0,none⟩))]
 let h1:=put h0 1 (Lib.pow10Tab.map fun z=>Value.int .u64 z).toArray
 let h2:=put h1 6 (u8s [0,1,28,2,29,14,24,3,30,22,20,15,25,17,4,8,31,27,13,23,21,19,16,7,26,12,18,6,11,5,10,9])
 let h3:=put h2 7 (u8s [0,1,56,2,57,49,28,3,61,58,42,50,38,29,17,4,62,47,59,36,45,43,51,22,53,39,33,30,24,18,12,5,63,55,48,27,60,41,37,16,46,35,44,21,52,32,23,11,54,26,40,15,34,20,31,10,25,14,19,9,13,8,7,6])
 let h4:=put h3 3 (u8s ([128,191,160,191,128,159,144,191,128,143]++List.replicate 22 0))
 let h5:=put h4 2 (u8s (Go.Pinned.utf8FirstZ.map fun(n:Nat)=>(n:Int)))
 {w0 with heap:=h5}
theorem Fe(h:Os)(args:Array Value):laidMet prog Rows.stackupValuesRow.laid ((uj h).forCall (fun _ _=>0) ⟨#[],args,[]⟩).memory:=
 laidMet_of_run' 8 kR kR
end
section
open Go.ChangeShapes
theorem Ff:mapsRowed prog=true:=by kernel_rfl
theorem Fg:prog.stopsHeard=true:=by kernel_rfl
theorem Fh:prog.mayEnter=true:=by kernel_rfl
theorem Fj:prog.liftsFinal=Rows.stackupValuesRow.lifted:=by kernel_rfl
theorem Fp:prog.plainKeys=Rows.stackupValuesRow.plainKeys:=by kernel_rfl
set_option maxRecDepth 100000 in
theorem Fq{f:FuncId}{r:Func}{s:ChangeSpec}{c:OpenClaim}(h1:c.inPlace=prog.inPlace f)(h2:c.unfollowed=prog.unfollowed f)(h3:c.recurses=prog.recurses f)(h4:c.named=prog.varsNamed f)
  (h5:c.lifted=Rows.stackupValuesRow.lifted) (h6:c.plainKeys=Rows.stackupValuesRow.plainKeys)
  (h:(c.wf (OpenSpec.ofChange s) && r.params.all (prog.readableRec ·) && namedTie prog c.named s.vars && (c.stops== []) && (prog.stops== []) && (c.knobs== []) && (prog.stopKnobs== []) &&
   (c.maps== (r.params.toList++s.plain.varTypes prog).any (prog.mapsRec ·)) && (c.ifaces== (r.params.toList++s.plain.varTypes prog).any (prog.ifacesRec ·)) && (c.mapsOut==prog.mapsAmong r.resultTypes.toList) &&
   (c.loops== (r.params.toList++s.plain.varTypes prog).any (prog.loopsFrom ·)) && (c.wideKeys== (r.params.toList++s.plain.varTypes prog++r.resultTypes.toList).any (prog.wideKeysFrom ·)) &&
   s.vars.all (prog.varReadable ·) && r.resultTypes.all (fun t=>prog.readableRec t && decide (t<prog.types.size)) && (c.ifacesOut==r.resultTypes.toList.any (prog.ifacesRec ·)) && (c.loopsOut==r.resultTypes.toList.any (prog.loopsFrom ·)) && c.shortTexts.isNone && (prog.make==some c.make) && (c.kinds== (if c.domain.isEmpty then [] else r.params.toList.map fun t=>match prog.underlying t with | some (.int k)=>some k | _=>none)) && (c.pinned==c.pinnedBy) &&
   (c.veiled== (r.params.toList++s.plain.varTypes prog++r.resultTypes.toList).any (prog.veiledRec ·)) && c.veiledFits prog r.params.toList (r.params.toList++s.plain.varTypes prog++r.resultTypes.toList))=true):joinedFacts prog f r s c=true:=by
 simp only[Bool.and_eq_true] at h;simp only[joinedFacts,Bool.and_eq_true];obtain⟨⟨⟨⟨⟨⟨⟨⟨⟨⟨⟨⟨⟨⟨⟨⟨⟨⟨⟨⟨⟨C,Y⟩,a3⟩,a4⟩,a5⟩,a6⟩,a7⟩,a8⟩,a9⟩,E⟩,G⟩,M⟩,O⟩,R⟩,T⟩,U⟩,V⟩,W⟩,X⟩,Z⟩,a0⟩,aa⟩:=h;have q:∀ {α:Type} [BEq α] [LawfulBEq α] {x y:α},x=y -> (x==y)=true:=fun h=>by rw[h];simp
 exact⟨⟨⟨⟨⟨⟨⟨⟨⟨⟨⟨⟨⟨⟨⟨⟨⟨⟨⟨⟨⟨⟨⟨⟨⟨⟨⟨⟨⟨⟨⟨C,laidOut⟩,Ff⟩,Y⟩,a3⟩,a4⟩,a5⟩,a6⟩,a7⟩,q h1⟩,q h2⟩,q h3⟩,q h4⟩,a8⟩,a9⟩,E⟩,G⟩,M⟩,O⟩,R⟩,T⟩,U⟩,by rw[h6,Fp];simp⟩,V⟩,Fg⟩,Fh⟩,by rw[h5,Fj];simp⟩,W⟩,X⟩,Z⟩,a0⟩,aa⟩
end
section
open Go.RowKit
def TT(w:World)(v:Value)(n:Nat)(d:Nat -> Int)(f:Nat -> ByteArray):Prop:=
 ∃A c,v= .slice A n c /\ n <= c /\ c <= maxLen /\ (n=0 \/ ∃g o,A=some ⟨g,o,none⟩ /\ ∀j,j<n -> w.cell? ⟨g,o+j*2,none⟩=some (.int .i64 (d j)) /\ w.cell? ⟨g,o+j*2+1,none⟩=some (.string (f j)))
section
variable {w w':World} {v:Value} {n:Nat} {d:Nat -> Int} {f:Nat -> ByteArray}
theorem TT.below(h:TT w v n d f)(r:Below w.heap.size w w'):TT w' v n d f:=by
 obtain⟨A,c,O,h1,E,G⟩:=h;exact⟨A,c,O,h1,E,G.imp id fun⟨g,o,M,t⟩=>⟨g,o,M,fun j C=>⟨cell_below r (t j C).1,cell_below r (t j C).2⟩⟩⟩
theorem TT.shape(h:TT w v n d f):∃A c,v= .slice A n c /\ n <= c /\ c <= maxLen:=by obtain⟨A,c,t,h1,r,_⟩:=h;exact⟨A,c,t,h1,r⟩
theorem TT.at_{A:Option Addr}{c:Nat}(h:TT w (.slice A n c) n d f)(C:0<n):∃g o,A=some ⟨g,o,none⟩ /\ ∀j,j<n -> w.cell? ⟨g,o+j*2,none⟩=some (.int .i64 (d j)) /\ w.cell? ⟨g,o+j*2+1,none⟩=some (.string (f j)):=by
 obtain⟨A',c',t,_,_,r⟩:=h;cases t
 rcases r with r | r
 ·omega
 ·exact r
end
def TD(w:World)(v:Value)(n:Nat)(s:Nat -> ByteArray)(a l u:Nat -> Int):Prop:=
 ∃A c,v= .slice A n c /\ n <= c /\ c <= maxLen /\ (n=0 \/ ∃g o,A=some ⟨g,o,none⟩ /\ ∀j,j<n -> w.cell? ⟨g,o+j*4,none⟩=some (.string (s j)) /\ w.cell? ⟨g,o+j*4+1,none⟩=some (.int .i64 (a j)) /\ w.cell? ⟨g,o+j*4+2,none⟩=some (.int .i64 (l j)) /\ w.cell? ⟨g,o+j*4+3,none⟩=some (.int .i64 (u j)))
structure Frm where
 c:ByteArray
 N:Nat
 d:Nat -> Int
 f:Nat -> ByteArray
structure Prb where
 n:Nat
 m:Nat
 s:Nat -> ByteArray
 a:Nat -> Int
 l:Nat -> Int
 u:Nat -> Int
 t:Nat -> ByteArray
 F:Nat -> Frm
def TC(w:World)(v:Value)(m:Nat)(s:Nat -> ByteArray)(F:Nat -> Frm):Prop:=
 ∃A k,v= .slice A m k /\ m <= k /\ k <= maxLen /\ (m=0 \/ ∃g o,A=some ⟨g,o,none⟩ /\ ∀i,i<m -> ∃u,w.cell? ⟨g,o+i*3,none⟩=some (.string (s i)) /\ w.cell? ⟨g,o+i*3+1,none⟩=some (.string (F i).c) /\ w.cell? ⟨g,o+i*3+2,none⟩=some u /\ TT w u (F i).N (F i).d (F i).f)
section
variable {w w':World} {v:Value} {n m:Nat} {s:Nat -> ByteArray} {a l u:Nat -> Int} {F:Nat -> Frm}
theorem TD.below(h:TD w v n s a l u)(r:Below w.heap.size w w'):TD w' v n s a l u:=by
 obtain⟨A,c,O,h1,E,G⟩:=h;exact⟨A,c,O,h1,E,G.imp id fun⟨g,o,M,t⟩=>⟨g,o,M,fun j C=>⟨cell_below r (t j C).1,cell_below r (t j C).2.1,cell_below r (t j C).2.2.1,cell_below r (t j C).2.2.2⟩⟩⟩
theorem TD.shape(h:TD w v n s a l u):∃A c,v= .slice A n c /\ n <= c /\ c <= maxLen:=by obtain⟨A,c,t,h1,r,_⟩:=h;exact⟨A,c,t,h1,r⟩
theorem TD.at_{A:Option Addr}{k:Nat}(h:TD w (.slice A n k) n s a l u)(C:0<n):∃g o,A=some ⟨g,o,none⟩ /\ ∀j,j<n -> w.cell? ⟨g,o+j*4,none⟩=some (.string (s j)) /\ w.cell? ⟨g,o+j*4+1,none⟩=some (.int .i64 (a j)) /\ w.cell? ⟨g,o+j*4+2,none⟩=some (.int .i64 (l j)) /\ w.cell? ⟨g,o+j*4+3,none⟩=some (.int .i64 (u j)):=by
 obtain⟨A',c',t,_,_,r⟩:=h;cases t
 rcases r with r | r
 ·omega
 ·exact r
theorem TC.below(h:TC w v m s F)(r:Below w.heap.size w w'):TC w' v m s F:=by
 obtain⟨A,k,V,h1,M,O⟩:=h
 exact⟨A,k,V,h1,M,O.imp id fun⟨g,o,R,T⟩=>⟨g,o,R,fun i U=>by
  obtain⟨u,t,C,E,G⟩:=T i U
  exact⟨u,cell_below r t,cell_below r C,cell_below r E,G.below r⟩⟩⟩
theorem TC.shape(h:TC w v m s F):∃A k,v= .slice A m k /\ m <= k /\ k <= maxLen:=by obtain⟨A,k,t,h1,r,_⟩:=h;exact⟨A,k,t,h1,r⟩
theorem TC.at_{A:Option Addr}{k:Nat}(h:TC w (.slice A m k) m s F)(C:0<m):∃g o,A=some ⟨g,o,none⟩ /\ ∀i,i<m -> ∃u,w.cell? ⟨g,o+i*3,none⟩=some (.string (s i)) /\ w.cell? ⟨g,o+i*3+1,none⟩=some (.string (F i).c) /\ w.cell? ⟨g,o+i*3+2,none⟩=some u /\ TT w u (F i).N (F i).d (F i).f:=by
 obtain⟨A',c',t,_,_,r⟩:=h;cases t
 rcases r with r | r
 ·omega
 ·exact r
end
def PIn(w:World)(vd vc:Value)(P:Prb):Prop:=TD w vd P.n P.s P.a P.l P.u /\ TC w vc P.m P.t P.F
theorem PIn.below{w w':World}{C t:Value}{P:Prb}(h:PIn w C t P)(r:Below w.heap.size w w'):PIn w' C t P:=⟨h.1.below r,h.2.below r⟩
end
section
open Go.ChangeShapes Go.WideShapes Go.ChangeAt Go.RowKit Go.Joins
theorem Fs(g o j:Nat):((⟨g,o,none⟩:Addr).add j)=⟨g,o+j,none⟩:=by
 unfold Addr.add;by_cases e:j=0
 ·rw[if_pos e,e];rfl
 ·rw[if_neg e]
theorem Fu{W:World}{H:Type}{enc:TypeId × Value -> H}{fuel:Nat}{v:Value}{x:DataW H × List MemPlace}(Y:DataW.trod enc prog W 0 (fun _=>true) true fuel 23 [v]=some x):∃n d f,TT W v n d f:=by
 rcases Go.Deep.open_slice_pairs underlying23 underlying126 kR rfl rfl kR kR Y with ⟨h0,_⟩ | ⟨a,len,cap,m,n',U,V,D0,D1,P0,P1,h0,_,G,M,Z,_,h⟩
 ·simp only[List.cons.injEq,and_true] at h0;subst h0;exact⟨0,fun _=>0,fun _=>⟨#[]⟩,_,_,rfl,Nat.le_refl _,Nat.zero_le _, .inl rfl⟩
 ·simp only[List.cons.injEq,and_true] at h0;subst h0;have a1:len <= m:=by rw[Z];split <;> omega
  rcases Nat.eq_zero_or_pos len with T | T
  ·subst T;exact⟨0,fun _=>0,fun _=>⟨#[]⟩,_,_,rfl,G,M, .inl rfl⟩
  ·have R:=World.cell?_spot (h 0 oM).1;obtain⟨g,o,t⟩:=a
   have a0:t=none:=by
    have h1:((⟨g,o,t⟩:Addr).add (0*2))=⟨g,o,t⟩:=by unfold Addr.add;rw[if_pos rfl]
    rw[h1] at R;exact R
   subst a0
   have X:∀i,i<len -> ∃q:Int × ByteArray,U i= .int .i64 q.1 /\ V i= .string q.2:=fun i r=>by
    obtain⟨_,_,h0,h1⟩:=h i oM;obtain⟨z,C,_,_⟩:=DataW.trod_int underlying3 h0;obtain⟨s,E,_,_⟩:=DataW.trod_string underlying22 h1;simp only[List.cons.injEq,and_true] at C E;exact⟨(z,s),C,E⟩
   obtain⟨q,O⟩:=Go.Deep.choose_lt X;refine⟨len,fun i=>(q i).1,fun i=>(q i).2,_,_,rfl,G,M, .inr ⟨g,o,rfl,fun i r=> ?_⟩⟩;obtain⟨h0,h1,_,_⟩:=h i oM;rw[Fs] at h0 h1;exact⟨by rw[<- (O i r).1];exact h0,by rw[<- (O i r).2];exact h1⟩
set_option maxRecDepth 100000 in
theorem Fv{W:World}{base:Nat}{v:Value}{H:Type}{enc:TypeId × Value -> H}{d:DataW H}{M:List MemPlace}(G:Value.okWide prog W .any base 25 v)(E:DataW.Trod enc prog W 0 (fun _=>true) true 25 v d M):
  ∃ (F:Frm) (T:Option Addr) (h:Nat),v= .agg #[.string F.c, .slice T F.N h] /\ TT W (.slice T F.N h) F.N F.d F.f:=by
 obtain⟨v0,v1,y0,O,n,rfl,_,_,h0,h1⟩:=open_agg2 underlying25 kR kR G E;obtain⟨s,r,_,_⟩:=DataW.trod_string underlying22 h0;simp only[List.cons.injEq,and_true] at r;subst r;obtain⟨N,C,f,t⟩:=Fu h1;obtain⟨A,c,rfl,_,_⟩:=t.shape;exact⟨⟨s,N,C,f⟩,A,c,rfl,t⟩
end
section
open Go.RowKit
open Lp (RL upd eu)
def nP(B:Nat)(w':World)(n:Nat)(s:Nat -> ByteArray)(e:Ending):Prop:=
 (∃j,j<n /\ (∀i,i<j -> fo (s i).data.toList=0) /\ fo (s j).data.toList≠0 /\ e= .returned (.tuple #[.slice none 0 0, .int .i64 (fo (s j).data.toList:Nat)])) \/
 ∃g f,B <= g /\ e= .returned (.tuple #[.slice (some ⟨g,0,none⟩) n n, .int .i64 0]) /\ RB w' g n f /\ ∀j,j<n -> (s j).data.toList=fB (f j)
set_option maxRecDepth 100000 in
set_option maxHeartbeats 3200000 in
theorem uk(s:ByteArray)(w:World)(hs:s.size <= 65536)(hg:fF w):
  Calls prog 71 #[.string s] w fun e w'=>pU w' s.data.toList e /\ Below w.heap.size w w':=by
 have a4:=lH hg;clear hg;obtain⟨W,hW,r,O⟩:=eN1 w [.bool false, .slice none 0 0, .bool false, .slice none 0 0] 40;go_enter func71,ntmps71;go_wp2_with fail
 rw[<- hW];clear hW;refine(ET s _ hs (a4.o.below O.o)).mono ?_;rintro e w1 ⟨T,a0⟩;replace r:=rW r a0;replace O:=bT O a0;clear a0
 rcases T with ⟨h0,rfl⟩ | ⟨q,v,h0,hl,rfl,t⟩
 ·have X:=lH h0;clear h0;obtain⟨cc,a1⟩:=eX (fo s.data.toList);rw[<- a1];have a3:=lH a1;clear a1;obtain⟨C,Z,E,f1,G,f2,M,f3⟩:=aF4 r.o;have kl:=r.o.lt;go_wp2_with fail
  clear kl C Z E f1 G f2 M f3;have h:=r.o.iJ (x:= .bool false) (y:= .slice none 0 0) (z:= .bool false) (u:= .slice none 0 0);have T:=ic r.o dC (Nat.le_refl _) O.o (eP.jo _);obtain⟨t,R⟩:=T;obtain⟨wE,a2⟩:=eX (((((w1.setCell ⟨w.heap.size,0,none⟩ (.bool false)).setCell ⟨w.heap.size,1,none⟩ (.slice none 0 0)).setCell ⟨w.heap.size,2,none⟩ (.bool false)).setCell ⟨w.heap.size,3,none⟩ (.slice none 0 0)));rw[<- a2] at h R t ⊢;have C:=h.at_ 0 rfl;have E:=h.at_ 1 rfl;have G:=h.at_ 2 rfl;have M:=h.at_ 3 rfl;refine bodyPost_ret (v:= .tuple #[.agg #[.bool false, .slice none 0 0, .bool false, .slice none 0 0], .int .i64 (cc:Nat)]) (by simp[results,results71,go_sem,C,E,G,M]) rfl ?_;exact⟨.inl ⟨X.o,by rw[a3.o]⟩,R⟩
 ·obtain⟨sv,U,lv,Y,tv,V,mv,dv,rfl⟩:=t.shape;have X:=lH h0;have HL:=lH hl;have HV:=lH t;clear h0 hl t;obtain⟨C,Z,E,f1,G,f2,M,f3⟩:=aF4 r.o;have kl:=r.o.lt;go_wp2_with fail
  clear kl C Z E f1 G f2 M f3;have h:=r.o.iJ (x:= .bool sv) (y:= .slice U lv Y) (z:= .bool tv) (u:= .slice V mv dv);have T:=ic r.o dC (Nat.le_refl _) O.o HV.o;obtain⟨t,R⟩:=T;obtain⟨wE,a2⟩:=eX (((((w1.setCell ⟨w.heap.size,0,none⟩ (.bool sv)).setCell ⟨w.heap.size,1,none⟩ (.slice U lv Y)).setCell ⟨w.heap.size,2,none⟩ (.bool tv)).setCell ⟨w.heap.size,3,none⟩ (.slice V mv dv)));rw[<- a2] at h R t ⊢;have C:=h.at_ 0 rfl;have E:=h.at_ 1 rfl;have G:=h.at_ 2 rfl;have M:=h.at_ 3 rfl;refine bodyPost_ret (v:= .tuple #[.agg #[.bool sv, .slice U lv Y, .bool tv, .slice V mv dv], .int .i64 0]) (by simp[results,results71,go_sem,C,E,G,M]) rfl ?_;exact⟨.inr ⟨q,_,X.o,HL.o,rfl,t⟩,R⟩
set_option maxRecDepth 100000 in
set_option maxHeartbeats 6400000 in
theorem Fw(va:Value)(n:Nat)(s:Nat -> ByteArray)(w:World)(R:TS w va n s)(hn:n <= 1000000000)(hs:∀j,j<n -> (s j).size <= 65536)(t:fF w):
  Calls prog 98 #[va, .func (.func 71) #[] #[]] w fun e w'=>nP w.heap.size w' n s e /\ Below w.heap.size w w':=by
 obtain⟨A,c,rfl,ak,am⟩:=R.shape;have HA:=lH R;have HS:=lH hs;have ad:=lH t;clear R hs t;go_enter func98,ntmps98
 go_wp2_with (at_make;refine oh _ rfl (.tmp 11) (.tmp 11) rfl _ _ n rfl rfl rfl rfl oM ?_)
 intro w1 a2 Y ah;have W:=lH a2;have X:=lH Y;clear a2 Y ah;go_wp2_with fail
 go_loopw [15] (fun V wr=>∃ (k:Nat) (f:Nat -> Rat),k <= n /\ V= .int .i64 k /\ Hid (∀j,j<k -> (s j).data.toList=fB (f j)) /\ RB wr w.heap.size n f /\ Below w.heap.size w wr)
  (fun V _=>n-(intOf V).toNat)
 case atStart=>exact⟨0,_,Nat.zero_le _,rfl,lH (fun j hj=>absurd hj oM),W.o,X.o⟩
 case round=>
  clear W X;obtain⟨k,f,hk,rfl,hf,Z,a0⟩:=hrel;have M:=lH hf.o;have h:=lH Z;have r:=lH a0;clear hf Z a0;by_cases an:((k:Nat):Int)<(n:Nat)
  ·have C:k<n:=oM
   obtain⟨gA,oA,rfl,a1⟩:=HA.o.at_ oM;have kc:=cell_below r.o (a1 k C);have aj:=eF kc;clear a1;go_wp2_with fail
   clear kc aj;refine(uk (s k) _ (HS.o k C) (ad.o.below r.o)).mono ?_;rintro e w2 ⟨hr,T⟩;replace h:=lH (h.o.below T);replace r:=bT r T;clear T;obtain⟨sy,Ay,ly,cy,ty,By,my,dy,ae,ai⟩:=h.o.fK C;obtain⟨a7,a8,a9,aa⟩:=ae;have ab:=h.o.lt;have a3:=h.o.free (k*4);have a4:=h.o.free (k*4+1);have a5:=h.o.free (k*4+2);have a6:=h.o.free (k*4+3);clear ai
   rcases hr with ⟨h0,rfl⟩ | ⟨q,v,h0,hl,rfl,U⟩
   ·have H0:=lH h0;obtain⟨O,E⟩:=eX (fo (s k).data.toList);rw[<- E];have af:O≠0:=by rw[E];exact h0
    have ag:¬((O:Nat):Int)=0:=oM
    have al:(((O:Nat):Int) !=0)=true:=by simpa using ag
    have ac:=lH E;clear E h0 af;have t:=gJ w2 w.heap.size (k*4) (k*4+1) (k*4+2) (k*4+3) (.bool false) (.slice none 0 0) (.bool false) (.slice none 0 0);have G:=lH (r.o.grown t r.o.size (by first | (simp;done) | (simp;omega)));clear t;go_wp2_with fail
    clear a7 a8 a9 aa ab a3 a4 a5 a6;go_returns;exact⟨.inl ⟨k,C,fun i hi=>by rw[M.o i hi];exact nC _,H0.o,by rw[ac.o];rfl⟩,G.o⟩
   ·obtain⟨sv,Av,lv,cv,tv,Bv,mv,dv,rfl⟩:=U.shape;have HL:=lH hl;have BN:=lH (h.o.set C U);have t:=gJ w2 w.heap.size (k*4) (k*4+1) (k*4+2) (k*4+3) (.bool sv) (.slice Av lv cv) (.bool tv) (.slice Bv mv dv);have G:=lH (r.o.grown t r.o.size (by first | (simp;done) | (simp;omega)));clear t h0 hl U;go_wp2_with fail
    clear a7 a8 a9 aa ab a3 a4 a5 a6;go_roundw
    case rel=>
     refine⟨k+1,upd f k q,by omega,by simp,lH (fun j hj=> ?_),BN.o,G.o⟩;by_cases e:j=k
     ·subst e;rw[Lp.upd_same];exact HL.o
     ·rw[Lp.eQ _ _ e];exact M.o j oM
    case measure=>exact mZ
  ·obtain rfl:n=k:=oM
   go_wp2_with fail
   go_returns;exact⟨.inr ⟨_,f,Nat.le_refl _,rfl,h.o,M.o⟩,r.o⟩
set_option maxRecDepth 100000 in
set_option maxHeartbeats 3200000 in
theorem qW(E:Value)(n:Nat)(s:Nat -> ByteArray)(w:World)(M:TS w E n s)(X:n <= 1000000000)(T:∀j,j<n -> (s j).size <= 65536)(R:fF w):
  Calls prog 60 #[E] w fun e w'=>nP w.heap.size w' n s e /\ Below w.heap.size w w':=by
 have U:=lH (Fw E n s w M X T R);clear M T R;go_enter func60,ntmps60;go_wp2_with fail
 refine U.o.mono ?_;rintro e w1 ⟨Y,O⟩;have G:=lH O;clear O
 rcases Y with ⟨j,W,h1,h,rfl⟩ | ⟨g,f,h0,rfl,h1,h⟩
 ·have r:=lH h1;have t:=lH h;obtain⟨Z,C⟩:=eX (fo (s j).data.toList);rw[<- C];have V:=lH C;clear C h1 h;go_wp2_with fail
  go_returns;exact⟨.inl ⟨j,W,r.o,t.o,by rw[<- V.o];rfl⟩,G.o⟩
 ·have r:=lH h1;have t:=lH h;clear h1 h;go_wp2_with fail
  go_returns;exact⟨.inr ⟨g,f,h0,rfl,r.o,t.o⟩,G.o⟩
end
end Go.Proofs.YtokagbahdkfagaaGreatDoor
