/- Parts of this proof: Text LimQ QScan RSign RBase RTrim RDigits. -/
import Derived.Test.YtdefghfjhgmpfaaGreatDoorMAF
import Derived.Test.YtdefghfjhgmpfaaGreatDoorMAD
import Derived.Test.YtdefghfjhgmpfaaGreatDoorMAA
import Derived.Deep.LoopGhost
import Derived.Lib.AppendIntMem
import Derived.WalkKit
import Derived.Laws.IdiomCopy
import Derived.Deep.Upon
import Derived.Lib.EndianMore
import Derived.Test.YtdefghfjhgmpfaaGreatDoorMAP
import Derived.Test.YtdefghfjhgmpfaaGreatDoorMAC
import Derived.Test.YtdefghfjhgmpfaaGreatDoorMAE
import Derived.Test.YtdefghfjhgmpfaaGreatDoorMAG
namespace Go.Proofs.YtdefghfjhgmpfaaGreatDoor
open Tryz
section
open Go.RowKit
theorem FZ:(prog.info? 9).map (fun i=>(i.zero,i.size,i.bytes))=some (some (.string ⟨#[]⟩),1,16):=by kernel_rfl
theorem pz{P:Program}{w w':World}{r:String}{k:IntKind}{zs:List Int}(h:Lib.TabIs P w r k zs)(t:Below w.heap.size w w'):Lib.TabIs P w' r k zs:=by
 unfold Lib.TabIs World.var? at*;cases hg:P.globalNamed r with
 | none=>rw[hg] at h;simp at h
 | some g=>
  rw[hg] at h;simp only[Option.bind_some] at h ⊢
  rcases Nat.lt_or_ge g w.heap.size with E | C
  ·rw[t.block g E];exact h
  ·rw[Array.getElem?_eq_none C] at h;simp at h
def kz(l:List UInt8):Value:= .string ⟨l.toArray⟩
theorem zy{w w':World}{base size n:Nat}{e:TypeId}{v:Value}{xs:List Value}(h:w.ownsRow base e size v n xs)(C:Below w.heap.size w w'):w'.ownsRow base e size v n xs:=by
 refine⟨h.1,?_⟩
 rcases h.2 with F | ⟨g,cap,t,rfl,E,r,rest⟩
 ·exact .inl F
 ·exact .inr ⟨g,cap,t,rfl,E,(C.block g (Array.getElem?_eq_some_iff.1 r).1).trans r,rest⟩
theorem G5{w:World}{base t n:Nat}{v:Value}{r:List (List UInt8)}{l:List Nat}(h:w.ownsRow base 9 1 v n (r.map kz))(U:0<n)(O:U32 w (some ⟨t,0,none⟩) l)(G:0<l.length):v.ownBlock≠some t:=by
 intro E;have M:n*1=(r.map kz).length:=by have:=h.1;omega
 have C: w.cell? ⟨t,0,none⟩=some (.int .u32 (dg l 0:Nat)):=by
  rcases O with h0 | ⟨b',V,F,C,_⟩
  ·omega
  ·simp only[Option.some.injEq,Addr.mk.injEq,and_true] at F;obtain⟨rfl,rfl⟩:=F;exact C 0 G
 rcases h.2 with ⟨rfl,_⟩ | ⟨g,cap,T,R,_⟩
 ·simp[Value.ownBlock] at E
 ·subst R;simp only[Value.ownBlock,Option.some.injEq] at E;subst E;have h0:=World.ownsRow.cellAt h 0 oM;rw[C] at h0
  rcases r with _ | ⟨x,r⟩
  ·simp at M;omega
  ·simp[kz] at h0
theorem G6{w:World}{base t:Nat}{v:Value}{r:List (List UInt8)}{l:List Nat}(h:w.ownsRow base 9 1 v r.length (r.map kz))(F:r= [] -> v= .slice none 0 0)(G:U32 w (some ⟨t,0,none⟩) l)(E:0<l.length):v.ownBlock≠some t:=by
 by_cases C:r= []
 ·rw[F C];simp[Value.ownBlock]
 ·exact G5 h (List.length_pos_iff.2 C) G E
theorem Cells.G7{w w':World}{b t n:Nat}{r:Option Nat}{f:Nat -> Value}(h:Cells w (some ⟨b,t,none⟩) n f)(E:w.grownBy w' r)(F:r≠some b):Cells w' (some ⟨b,t,none⟩) n f:=by
 rcases h with h | ⟨b',R,C,M,G⟩
 ·exact .inl h
 ·simp only[Option.some.injEq,Addr.mk.injEq,and_true] at C;obtain⟨rfl,rfl⟩:=C;refine .inr ⟨b,t,rfl,fun j O=>E.cell (M j O) (Ne.symm F),G.mJ (E.block b ?_ (Ne.symm F))⟩;obtain⟨_,_,_,h1,_⟩:=G;exact(Array.getElem?_eq_some_iff.1 h1).1
set_option maxHeartbeats 1600000 in
theorem G8(va:Value)(a:Int)(w:World)(ha:eQ w va a)(aL:(ek a.natAbs).length<1099511627776)(av:(Lib.decDigits a.natAbs).length <= 1000000000)(ax:Lib.TabIs prog w "internal/strconv.uint64pow10" .u64 Lib.pow10Tab):
  Calls prog 107 #[va] w fun e w'=>e= .returned (.string (txt a)) /\ Below w.heap.size w w':=by
 obtain⟨A,M,rfl,aH,bP,ao⟩:=ha;obtain⟨i0,bf,br,bs,bv⟩:=info_parts FZ;obtain⟨s,hs⟩:=eX (decide (a<0));rw[<- hs];obtain⟨n,hn⟩:=eX (a.natAbs);rw[<- hn] at ao aL av aH ⊢;by_cases hz:(ek n).length=0
 ·have aX:((((ek n).length:Nat):Int)==0)=true:=by rw[hz];rfl
  have bh:n=0:=oI.1 hz
  have bo:txt a=⟨#[48]⟩:=by
   rw[show a=0 by omega];unfold txt Lib.itoa;rw[if_neg oM];show(⟨(Lib.decDigits 0).toArray⟩:ByteArray)=_;rw[Lib.decDigits_one oM];rfl
  rw[bo];clear hz ao hs hn bh bo av ax;go_enter func107,ntmps107;go_wp2_with fail
  go_returns;exact⟨rfl,by go_grown⟩
 ·have aX:((((ek n).length:Nat):Int)==0)=false:=by rw[beq_eq_false_iff_ne];omega
  obtain⟨W,hW⟩:=eX (w.alloc (.cells #[.bool s, .slice A (ek n).length M] 103));have r1:=(iV w (.cells #[.bool s, .slice A (ek n).length M] 103)).1;have aF:=(iV w (.cells #[.bool s, .slice A (ek n).length M] 103)).2.1;have au:=(iV w (.cells #[.bool s, .slice A (ek n).length M] 103)).2.2;rw[<- hW] at r1 au aF;have r1:Row W w.heap.size 103 [.bool s, .slice A (ek n).length M]:=r1;have e0:=r1.at_ 0 rfl;have e1:=r1.at_ 1 rfl
  have b7:∀b a4,A=some ⟨b,a4,none⟩ -> b<w.heap.size \/ a4=0:=by
   obtain⟨b,a4,hA,hb,_⟩:=Cells.at_ ao oM;intro b' ci e;rw[hA] at e;simp only[Option.some.injEq,Addr.mk.injEq,and_true] at e
   left;omega
  have bw:=lH b7;have b5:=lH ax;clear b7;have b6:=lH au;have bY:=lH aF;have HU:=lH (Cells.below ao au);have R1:=lH r1;have HS:=lH hs;have HN:=lH hn;clear au ao r1 hz hs hn aF;go_enter func107,ntmps107;go_wp2_with fail
  rw[<- hW];clear hW;go_wp2_with fail
  have bK:=lH (pz ax b6.o);have ac:=lH av;have bz:=lH aH;have bF:=lH aL;have bh:0<n:=kK.1 (by have:=aX;rw[beq_eq_false_iff_ne] at this;omega);clear ax av aH aL aX
  go_loopg [3,4] n (fun g gv mv wr=>∃ (m:Nat) (r:List (List UInt8)) (A':Option Addr) (c':Nat),mv= .slice A' (ek m).length c' /\ Hid (g=m) /\ (ek m).length <= c' /\ c' <= maxLen /\ U32 wr A' (ek m) /\ Hid (∀b a4,A'=some ⟨b,a4,none⟩ -> b<w.heap.size \/ a4=0) /\ Hid (wr.ownsRow (w.heap.size+1) 9 1 gv r.length (r.map kz)) /\
   Hid (Lib.decDigits n=ahead m++r.reverse.flatten) /\ Hid (r.length <= r.reverse.flatten.length) /\ Hid (r= [] -> gv= .slice none 0 0) /\ Hid (m=0 -> r≠ []) /\ Hid (Row wr w.heap.size 103 [.bool s, .slice A (ek n).length M]) /\ Hid ((ek m).length <= (ek n).length) /\ Hid (Below w.heap.size w wr) /\ Hid (Lib.TabIs prog wr "internal/strconv.uint64pow10" .u64 Lib.pow10Tab))
  case atStart=>
   refine⟨n,[],A,M,rfl,lH rfl,bz.o,bP,HU.o,bw,lH (World.ownsRow_nil _ _ _ _),lH ?_,lH (by simp),lH (fun _=>rfl),lH (fun h=>by omega),R1,lH (Nat.le_refl _),b6,bK⟩;unfold ahead;rw[if_neg oM];simp
  case round=>
   obtain⟨m,r,A',c',rfl,bc,c6,c7,bq,bZ,aw,ag,ai,bS,aN,a6,aK,ae,bp⟩:=hrel;have bL:=lH bq;clear bq;by_cases hm:(0:Int)<(((ek m).length:Nat):Int)
   ·have a3:0<m:=kK.1 oM;have cd:0<(ek m).length:=oM
    obtain⟨E,aP⟩:=eX (m / 1000000000);obtain⟨t,aU⟩:=eX (m%1000000000);have cf:t<1000000000:=oM
    have a7:=yl A' c' 1000000000 (ek m) wr bL.o (fF m) (by have:=aK.o;have:=bF.o;omega) oM oM;rw[fu, <- aP, <- aU] at a7;have b3:=lH a7;have a2:=lH aP;have b0:=lH aU;clear aP aU a7;by_cases hq:(0:Int)<(((ek E).length:Nat):Int)
    ·have bj:0<(ek E).length:=oM
     have bQ:=nJ 8 t oM;obtain⟨d,hd⟩:∃d:Nat,(9:Int)-(((Lib.decDigits t).length:Nat):Int)=(d:Nat):=⟨9-(Lib.decDigits t).length,by omega⟩
     have cb:((d:Nat):Int) <= 9:=oM
     have bb:d=8+1-(Lib.decDigits t).length:=oM
     have bC:=lH bb;clear bb;go_wp2_with fail
     refine b3.o.mono ?_;rintro e C ⟨v,rfl,⟨aM,a7⟩,O⟩;obtain⟨gq,nq,cq,rfl⟩:=a7;obtain⟨Aq,bM,hv,aQ,aR,am⟩:=aM;simp only[Value.slice.injEq] at hv;obtain⟨rfl,rfl,rfl⟩:=hv;have a0:=lH O;have aB:=lH am;clear O am;go_wp2_with fail
     refine(Tryz.strconv_Itoa ((t:Nat):Int) oM oM C (pz bp.o a0.o)).mono ?_;rintro e w3 ⟨rfl,k3,bW,aq⟩;have Y:Below C.heap.size C w3:=by rw[aq];exact Lib.below_grow _ _ (Nat.le_refl _) _ _
     rw[Lib.itoa_nonneg];have a8:=lH Y;clear Y aq;go_wp2_with fail
     refine(Tryz.strings_Repeat ⟨#[48]⟩ d w3 oM (by show 1*d <= _;omega)).mono ?_;rintro e w4 ⟨rfl,b8⟩;have aY:=lH b8;clear b8;obtain⟨S1,ar⟩:∃S1:ByteArray,S1=⟨(Lib.repeatL (⟨#[48]⟩:ByteArray).data.toList d).toArray⟩:=⟨_,rfl⟩
     rw[<- ar];obtain⟨G,X⟩:∃G:ByteArray,G=⟨(Lib.decDigits t).toArray⟩:=⟨_,rfl⟩
     try rw[<- X]
     have bJ:=lH ar;have aD:=lH X
     have ch:((S1.size:Nat):Int) <= 9:=by
      rw[ar];show(((Lib.repeatL [48] d).toArray.size:Nat):Int) <= 9;rw[List.size_toArray,Lib.repeatL_length];simp;omega
     have bU:((G.size:Nat):Int) <= 9:=by
      rw[X];show(((Lib.decDigits t).toArray.size:Nat):Int) <= 9;rw[List.size_toArray];omega
     have bu:S1.size+G.size <= 9223372036854775807:=oM
     clear ar X
     go_upto_region 10 with (fail)
     obtain⟨U,a5⟩:=eX (S1++G);rw[<- a5]
     have ap:Value.string U=kz (jA m):=by
      rw[a5,bJ.o,aD.o];unfold kz jA;rw[if_neg (by rw[<- a2.o];have:=kK.1 bj;omega), <- b0.o, <- DF 8 t oM, <- bC.o];refine congrArg Value.string ?_;apply ByteArray.ext;simp
     have aE:=lH ap;obtain⟨F,Z⟩:=eX (w4);rw[<- Z];have ad:Below wr.heap.size wr F:=by rw[Z];exact a0.o.trans ((a8.o.mono a0.o.size).trans (aY.o.mono (Nat.le_trans a0.o.size a8.o.size)))
     have T:=lH ad;have an:U32 F (some ⟨gq,0,none⟩) (ek E):=by rw[Z];exact(aB.o.below a8.o).below aY.o
     have aC:=lH an;clear a5 ap Z ad an
     have ab:r.length <= 1000000000:=by
      have h1:=congrArg List.length ag.o;rw[List.length_append] at h1;have V:=ai.o;have h3:=ac.o;omega
     have al:=zy aw.o T.o;have a1:=lH al;clear al
     go_wp2_with (at_builtin;refine wpList_append_own _ rfl (.tmp 35) (.tmp 37) 152 rfl (w.heap.size+1) 9 i0 (.string ⟨#[]⟩) 1 16 underlying152 bf br bs bv rfl dC _ _ _ rfl (a1.o.alloc _) ⟨F.heap.size,0,none⟩ 1 1 [.string U] rfl rfl ?c1 ?c2 ?c3 ?c4 ?c5 ?_)
     case c1=>
      intro j u R
      rcases j with _ | j
      ·simp at R;subst R;simp[Addr.add]
      ·simp at R
     case c2=>intro u hu;simp at hu;subst hu;rfl
     case c3=>unfold maxLen;omega
     case c4=>omega
     case c5=>
      have h1:=a6.o.lt;have V:=T.o.size;have h3:=(iV F (.cells #[.string U] 9)).2.1;omega
     ·intro v' w1 ak ah aj;have aA:=lH ak;have a9:=lH ah;have bG:=lH aj;clear ak ah aj;go_wp2_with fail
      go_roundg E
      case measure=>rw[bc.o,a2.o];exact Nat.div_lt_self a3 dC
      case rel=>
       have aa:=(iV F (.cells #[.string U] 9)).2.2;have aN:=G6 a1.o bS.o aC.o bj;have aS:=Cells.G7 (U32.below aC.o aa) a9.o aN
       have af:Below w.heap.size w w1:=by
        have h0:=ae.o.trans (T.o.mono ae.o.size);have h1:=h0.trans (aa.mono h0.size);refine h1.grown a9.o h1.size ?_;intro k hk;have:=(a1.o.lt k hk).1;omega
       have aV:Row w1 w.heap.size 103 [.bool s, .slice A (ek n).length M]:=by
        have h0:=(a6.o.below T.o a6.o.lt);have h1:=h0.below aa h0.lt;refine(a9.o.block w.heap.size h1.lt ?_).trans h1;intro he;have:=(a1.o.lt _ he.symm).1;omega
       have aO:w1.ownsRow (w.heap.size+1) 9 1 v' (r++ [jA m]).length ((r++ [jA m]).map kz):=by
        have h0:=aA.o;rw[aE.o] at h0;rw[List.length_append,List.map_append];exact h0
       refine⟨E,r++ [jA m],some ⟨gq,0,none⟩,cq,rfl,lH rfl,aQ,aR,aS,lH (fun b a4 e=>by simp only[Option.some.injEq,Addr.mk.injEq,and_true] at e;exact .inr e.2.symm),lH aO,lH ?_,lH ?_,lH (fun h=>by simp at h),lH (fun h=>by simp),lH aV,lH ?_,lH af,lH (pz b5.o af)⟩
       ·rw[ag.o,xC a3, <- a2.o];simp
       ·have h1:=ai.o
        have V:0<(jA m).length:=by
         unfold jA;split
         ·rw[Lib.decDigits];split <;> simp
         ·rw[xB];omega
        simp at h1 ⊢;omega
       ·exact Nat.le_trans (iO (by rw[a2.o];exact Nat.div_le_self _ _)) aK.o
    ·have aT:(ek E).length=0:=oM
     have bi:E=0:=oI.1 aT;have ce:decide (0<(ek E).length)=false:=decide_eq_false oM;have bI:=lH aT;have bH:=lH bi;have bQ:=nJ 8 t oM;clear aT bi;go_wp2_with fail
     refine b3.o.mono ?_;rintro e C ⟨v,rfl,⟨aM,a7⟩,O⟩;obtain⟨gq,nq,cq,rfl⟩:=a7;obtain⟨Aq,bM,hv,aQ,aR,am⟩:=aM;simp only[Value.slice.injEq] at hv;obtain⟨rfl,rfl,rfl⟩:=hv;have a0:=lH O;have aB:=lH am;clear O am;go_wp2_with fail
     refine(Tryz.strconv_Itoa ((t:Nat):Int) oM oM C (pz bp.o a0.o)).mono ?_;rintro e w3 ⟨rfl,k3,bW,aq⟩;have Y:Below C.heap.size C w3:=by rw[aq];exact Lib.below_grow _ _ (Nat.le_refl _) _ _
     rw[Lib.itoa_nonneg];have a8:=lH Y;clear Y aq;obtain⟨G,X⟩:∃G:ByteArray,G=⟨(Lib.decDigits t).toArray⟩:=⟨_,rfl⟩
     try rw[<- X]
     have aD:=lH X
     have bU:((G.size:Nat):Int) <= 9:=by
      rw[X];show(((Lib.decDigits t).toArray.size:Nat):Int) <= 9;rw[List.size_toArray];omega
     clear X
     go_upto_region 10 with (fail)
     obtain⟨U,a5⟩:=eX (G);rw[<- a5]
     have ap:Value.string U=kz (jA m):=by
      rw[a5,aD.o];unfold kz jA;rw[if_pos (by rw[<- a2.o];exact bH.o), <- b0.o]
     have aE:=lH ap;obtain⟨F,Z⟩:=eX (w3);rw[<- Z];have ad:Below wr.heap.size wr F:=by rw[Z];exact a0.o.trans (a8.o.mono a0.o.size)
     have T:=lH ad;have an:U32 F (some ⟨gq,0,none⟩) (ek E):=by rw[Z];exact aB.o.below a8.o
     have aC:=lH an;clear a5 ap Z ad an
     have ab:r.length <= 1000000000:=by
      have h1:=congrArg List.length ag.o;rw[List.length_append] at h1;have V:=ai.o;have h3:=ac.o;omega
     have al:=zy aw.o T.o;have a1:=lH al;clear al
     go_wp2_with (at_builtin;refine wpList_append_own _ rfl (.tmp 35) (.tmp 37) 152 rfl (w.heap.size+1) 9 i0 (.string ⟨#[]⟩) 1 16 underlying152 bf br bs bv rfl dC _ _ _ rfl (a1.o.alloc _) ⟨F.heap.size,0,none⟩ 1 1 [.string U] rfl rfl ?c1 ?c2 ?c3 ?c4 ?c5 ?_)
     case c1=>
      intro j u R
      rcases j with _ | j
      ·simp at R;subst R;simp[Addr.add]
      ·simp at R
     case c2=>intro u hu;simp at hu;subst hu;rfl
     case c3=>unfold maxLen;omega
     case c4=>omega
     case c5=>
      have h1:=a6.o.lt;have V:=T.o.size;have h3:=(iV F (.cells #[.string U] 9)).2.1;omega
     ·intro v' w1 ak ah aj;have aA:=lH ak;have a9:=lH ah;have bG:=lH aj;clear ak ah aj;go_wp2_with fail
      go_roundg E
      case measure=>rw[bc.o,a2.o];exact Nat.div_lt_self a3 dC
      case rel=>
       have aa:=(iV F (.cells #[.string U] 9)).2.2;have aS:U32 w1 (some ⟨gq,0,none⟩) (ek E):= .inl bI.o
       have af:Below w.heap.size w w1:=by
        have h0:=ae.o.trans (T.o.mono ae.o.size);have h1:=h0.trans (aa.mono h0.size);refine h1.grown a9.o h1.size ?_;intro k hk;have:=(a1.o.lt k hk).1;omega
       have aV:Row w1 w.heap.size 103 [.bool s, .slice A (ek n).length M]:=by
        have h0:=(a6.o.below T.o a6.o.lt);have h1:=h0.below aa h0.lt;refine(a9.o.block w.heap.size h1.lt ?_).trans h1;intro he;have:=(a1.o.lt _ he.symm).1;omega
       have aO:w1.ownsRow (w.heap.size+1) 9 1 v' (r++ [jA m]).length ((r++ [jA m]).map kz):=by
        have h0:=aA.o;rw[aE.o] at h0;rw[List.length_append,List.map_append];exact h0
       refine⟨E,r++ [jA m],some ⟨gq,0,none⟩,cq,rfl,lH rfl,aQ,aR,aS,lH (fun b a4 e=>by simp only[Option.some.injEq,Addr.mk.injEq,and_true] at e;exact .inr e.2.symm),lH aO,lH ?_,lH ?_,lH (fun h=>by simp at h),lH (fun h=>by simp),lH aV,lH ?_,lH af,lH (pz b5.o af)⟩
       ·rw[ag.o,xC a3, <- a2.o];simp
       ·have h1:=ai.o
        have V:0<(jA m).length:=by
         unfold jA;split
         ·rw[Lib.decDigits];split <;> simp
         ·rw[xB];omega
        simp at h1 ⊢;omega
       ·exact Nat.le_trans (iO (by rw[a2.o];exact Nat.div_le_self _ _)) aK.o
   ·have a3:m=0:=oI.1 oM;have bd:r≠ []:=aN.out a3;have aJ:Lib.decDigits n=r.reverse.flatten:=by have:=ag.o;unfold ahead at this;rwa [if_pos a3,List.nil_append] at this
    have ab:r.length <= 1000000000:=by
     have h1:=congrArg List.length aJ;have V:=ai.o;have h3:=ac.o;omega
    have be:u3≠ .slice none 0 0:=by
     intro e;have h1:=aw.o;rw[e] at h1;have V:=h1.1
     rcases h1.2 with ⟨_,h3⟩ | ⟨_,_,_,h3,_⟩
     ·exact bd (by simpa using h3)
     ·simp at h3
    obtain⟨g1,cap,rfl,bR,hO⟩:=Own.yn aw.o be;have HO:=lH hO;have bB:=lH aJ;have bE:=lH ab;have c8:decide (0<(ek m).length)=false:=decide_eq_false oM;have c9:decide ((0:Int)<(((ek m).length:Nat):Int))=false:=decide_eq_false hm;clear hO aJ bd be a3 bR ab hm;go_wp2_with fail
    have ab:=bE.o;refine(Tryz.slices_Reverse_string_cells g1 0 r.length cap (fun i=>⟨(r.getD i []).toArray⟩) wr oM (fun i hi=> ?_) (fun j _=>HO.o.free _)).mono ?_
    ·rw[Nat.zero_add,HO.o.cell (by rw[List.length_map];exact hi)];simp[hi,kz]
    rintro e C ⟨rfl,q,ay⟩;have cc:=HO.o.lt
    have bm:Lib.strsOf (fun i=>⟨(r.getD i []).toArray⟩) r.length=r:=by
     apply List.ext_getElem
     ·rw[Lib.strsOf_length]
     ·intro i h1 V;simp[Lib.strsOf,V]
    rw[bm] at ay
    have ba:∀ (j:Nat) (x:ByteArray),(r.reverse.map (fun l=>(⟨l.toArray⟩:ByteArray)))[j]? =some x -> C.cell? ⟨g1,0+j,none⟩=some (.string x):=by
     intro j x hx
     have R:j<r.length:=by
      have:=(List.getElem?_eq_some_iff.1 hx).1
      simpa using this
     rw[ay,World.cell?_setCells_in g1 _ 0 _ (fun i hi=> ?_) j (by simpa using R)]
     ·rw[List.getElem?_map] at hx;simp only[List.getElem_map];rw[List.getElem?_eq_getElem (by simpa using R)] at hx;simp only[Option.map_some,Option.some.injEq] at hx;rw[<- hx]
      first | done | rfl
     ·rw[List.length_map,List.length_reverse] at hi;rw[Nat.zero_add];show(wr.cell? ⟨g1,i,none⟩).isSome=true;rw[HO.o.cell (by rw[List.length_map];exact hi)];simp[hi]
    have O:Below g1 wr C:=by
     rw[ay];exact(below_drewN g1 wr q).trans (Lib.below_setCells_w (Nat.le_refl _) _ _ _)
    have bk:Row C w.heap.size 103 [.bool s, .slice A (ek n).length M]:=a6.o.below O oM;have b9:Below w.heap.size w C:=ae.o.trans (O.mono oM);have cg:=O.size;have bA:=lH ba;have b1:=lH bk;have bx:=lH b9;clear ba bk b9 O bm ay;go_wp2_with fail
    have aG:=bx.o
    have bg:(Lib.join ((r.reverse.map (fun l=>(⟨l.toArray⟩:ByteArray))).map (·.data.toList)) (⟨#[]⟩:ByteArray).data.toList)=Lib.decDigits n:=by
     show Lib.join _ []=_;rw[DI,List.map_map,bB.o];refine congrArg List.flatten ((List.map_congr_left (fun l _=> ?_)).trans (List.map_id _));rfl
    have HJ:=lH bg;clear bg;have az:(r.reverse.map (fun l=>(⟨l.toArray⟩:ByteArray))).length=r.length:=by rw[List.length_map,List.length_reverse]
    have aW:=Tryz.strings_Join g1 0 cap (r.reverse.map (fun l=>(⟨l.toArray⟩:ByteArray))) ⟨#[]⟩ C bA.o oM (by rw[az];omega) (by have:=HO.o.le;rw[List.length_map] at this;rw[az];exact this.1) (by rw[HJ.o];have:=ac.o;omega);rw[az] at aW;refine aW.mono ?_;clear aW az;rw[HJ.o];rintro e w3 ⟨rfl,Y⟩;have c0:=(b1.o.below Y b1.o.lt).at_ 0 rfl;have aZ:=lH (aG.trans (Y.mono aG.size));have bl:=HS.o;obtain⟨S,hS⟩:∃S:ByteArray,S=⟨(Lib.decDigits n).toArray⟩:=⟨_,rfl⟩
    rw[<- hS]
    have bn:S.size <= 1000000000:=by
     rw[hS];show(Lib.decDigits n).toArray.size <= _;rw[List.size_toArray];exact ac.o
    have b4:=lH hS;have b2:=lH bl;have bX:=lH bn
    have bu:(⟨#[45]⟩:ByteArray).size+S.size <= 9223372036854775807:=by
     show 1+S.size <= _;omega
    clear hS bl Y aG bn ab;cases s
    ·have bO:S=txt a:=by
      have h1:=b2.o;rw[b4.o,HN.o];unfold txt;rw[iW (by simpa using h1)]
     clear bu;go_wp2_with fail
     go_returns;exact⟨rfl,aZ.o⟩
    ·have bO:(⟨#[45]⟩:ByteArray)++S=txt a:=by
      have h1:=b2.o;rw[b4.o,HN.o];unfold txt;rw[itoa_neg (by simpa using h1)];apply ByteArray.ext;simp
     go_wp2_with fail
     go_returns;exact⟨rfl,aZ.o⟩
end
section
open Go.RowKit
open Lp (RL upd eu)
def Tab(w:World):Prop:=Lib.TabIs prog w "internal/strconv.uint64pow10" .u64 Lib.pow10Tab
theorem Tab.below{w w':World}(h:Tab w)(r:Below w.heap.size w w'):Tab w':=pz h r
theorem vF(h:Value)(a:Int)(k:Nat)(w:World)(t:eQ w h a)(r:a.natAbs<10^k)(E:k <= 1000000)(C:Tab w):
  Calls prog 107 #[h] w fun e w'=>e= .returned (.string (txt a)) /\ Below w.heap.size w w':=
 G8 h a w t (by have:=jQ (Nat.lt_of_lt_of_le r (Nat.pow_le_pow_left dC k));omega) (by have:=nJ k _ (Nat.lt_of_lt_of_le r (Nat.pow_le_pow_right dC oM));omega) C
theorem zA{a:Int}{k:Nat}(t:a.natAbs<10^k)(C:k <= 1000000):(txt a).size <= 1000002:=by
 have h:=nJ k _ (Nat.lt_of_lt_of_le t (Nat.pow_le_pow_right dC oM));rw[show(txt a).size=(Lib.itoa a).length by unfold txt;rfl];by_cases r:a<0
 ·rw[itoa_neg r,List.length_cons];omega
 ·rw[iW r];omega
theorem sS{q:Rat}(h:q.den≠1):txt q.num++ ⟨#[47]⟩++txt (q.den:Int)=eF q:=by
 have h1:(txt q.num++ ⟨#[47]⟩++txt (q.den:Int)).data.toList=(eF q).data.toList:=by
  rw[jI,qp h];have r:Lib.itoa (q.den:Int)=Lib.decDigits q.den:=by rw[iW oM,Int.natAbs_natCast]
  simp[txt,r]
 have t:∀a b:ByteArray,a.data.toList=b.data.toList -> a=b:=by
  intro a b h;cases a with
  | mk C=>
   cases b with
   | mk E=>
    congr 1;exact Array.toList_inj.1 h
 exact t _ _ h1
end
section
open Go.RowKit
theorem gz(D:ByteArray):D.data.toList.length=D.size:=by rw[Array.length_toList];rfl
theorem nY(D:ByteArray)(k:Nat)(h:k<D.size):D[k]=D.data.toList[k]'(by rw[gz];exact h):=by rw[Array.getElem_toList];rfl
theorem G9{l:List UInt8}{k:Nat}(h:∀c ∈ l.take k,c≠47)(t:l[k]? =some 47):(eH l).length=k /\ eH l=l.take k /\ fG l=47::l.drop (k+1):=by
 have E:k<l.length:=by
  rcases Nat.lt_or_ge k l.length with C | C
  ·exact C
  ·rw[List.getElem?_eq_none C] at t;cases t
 have e:l=l.take k++47::l.drop (k+1):=by
  have h1:=List.take_append_drop k l;have r:=List.drop_eq_getElem_cons E;rw[List.getElem?_eq_getElem E] at t;rw[Option.some.inj t] at r;rw[<- r,h1]
 obtain⟨h1,r⟩:=rO (b:=l.drop (k+1)) h;rw[<- e] at h1 r;exact⟨by rw[h1,List.length_take];omega,h1,r⟩
def fQ(l:List UInt8):List UInt8:=if fG l= [] then [49] else fJ l
section
variable (s:ByteArray) (w:World)
theorem vG(k:Nat)(h:k<s.size):∃x:Nat,s[k].toNat=x /\ x<256 /\ s.data.toList[k]? =some s[k] /\ s.data.toList.take (k+1)=s.data.toList.take k++ [s[k]]:=by
 have r:k<s.data.toList.length:=by rw[gz];exact h
 refine⟨_,rfl,UInt8.toNat_lt _,?_,?_⟩
 ·rw[List.getElem?_eq_getElem r,nY s k h]
 ·rw[nY s k h];exact List.take_succ_eq_append_getElem r
set_option maxHeartbeats 1600000 in
theorem zB(U:s.size <= 1000000000):Calls prog 94 #[.string s] w fun e w'=>e= .returned (.int .i64 ((eH s.data.toList).length:Nat)) /\ w'=w:=by
 have HS:=lH U;have a1:((s.size:Nat):Int) <= 1000000000:=oM
 clear U;go_enter func94,ntmps94;go_wp2_with fail
 go_loop [3] (fun G=>∃k:Nat,((k:Nat):Int) <= ((s.size:Nat):Int) /\ G= .int .i64 k /\ Hid (∀c ∈ s.data.toList.take k,c≠47)) (fun G=>s.size-(intOf G).toNat)
 case atStart=>exact⟨0,by omega,rfl,lH (fun c r=>by simp at r)⟩
 case round=>
  obtain⟨k,hk,rfl,F⟩:=hrel;by_cases a0:((k:Nat):Int)<((s.size:Nat):Int)
  ·have Z:k<s.size:=oM
   obtain⟨x,hx,_,R,V⟩:=vG s k Z
   have O:s[k]=47↔x=47:=by
    rw[<- hx];exact⟨fun h=>by rw[h];rfl,fun h=>UInt8.toNat_inj.1 (by rw[h];rfl)⟩
   have W:=lH R;have X:=lH V;have M:=lH O;clear R V O;by_cases C:x=47
   ·have t:(eH s.data.toList).length=k:=(G9 F.o (by rw[W.o,M.o.2 C])).1;have E:=lH t;clear t;subst C;go_wp2_with fail
    go_returns;exact⟨by rw[E.o];rfl,rfl⟩
   ·have a2:(((x:Nat):Int)==47)=false:=by rw[beq_eq_false_iff_ne];omega
    have Y:=lH C;clear C;go_wp2_with fail
    go_round
    case rel=>
     refine⟨k+1,by omega,by go_num,lH (fun c r=> ?_)⟩;rw[X.o,List.mem_append,List.mem_singleton] at r
     rcases r with r | r
     ·exact F.o c r
     ·rw[r];exact fun e=>Y.o (M.o.1 e)
    case measure=>simp[intOf];omega
  ·have T:k=s.size:=oM
   have t:eH s.data.toList=s.data.toList:=(xJ (by
    have:=F.o;rw[T,List.take_of_length_le (by rw[gz];exact Nat.le_refl _)] at this
    exact this)).1
   have E:=lH t;clear t T;go_wp2_with fail
   go_returns;exact⟨by rw[E.o,gz];rfl,rfl⟩
set_option maxHeartbeats 1600000 in
theorem qQ(hs:s.size <= 1000000000):Calls prog 109 #[.string s] w fun e w'=>e= .returned (.bool (dgs s.data.toList)) /\ w'=w:=by
 have aa:((s.size:Nat):Int) <= 1000000000:=oM
 clear hs;obtain⟨r,F⟩:=eX (dgs s.data.toList);rw[<- F];have R:=lH F;clear F;go_enter func109,ntmps109;go_wp2_with fail
 go_loop [3] (fun M=>∃k:Nat,((k:Nat):Int) <= ((s.size:Nat):Int) /\ M= .int .i64 k /\ Hid (∀c ∈ s.data.toList.take k,gm c=true)) (fun M=>s.size-(intOf M).toNat)
 case atStart=>exact⟨0,by omega,rfl,lH (fun c t=>by simp at t)⟩
 case round=>
  obtain⟨k,hk,rfl,W⟩:=hrel;by_cases a9:((k:Nat):Int)<((s.size:Nat):Int)
  ·have a4:k<s.size:=oM
   obtain⟨x,hx,_,X,a0⟩:=vG s k a4;have E:= @kS s[k];rw[hx] at E
   have T:(¬(48 <= x /\ x <= 57)) -> r=false:=fun hb=>by
    rw[R.o];unfold dgs
    have C:gm s[k]=false:=by
     rcases hq:gm s[k] with _ | _
     ·rfl
     ·exact absurd (E.1 hq) hb
    rw[Bool.and_eq_false_iff];refine .inr ?_;rw[<- Bool.not_eq_true,List.all_eq_true];intro h3;have:=h3 _ (List.mem_of_getElem? X);rw[C] at this;exact absurd this (by simp)
   have O:=lH T;have a3:=lH a0;have a1:=lH E;clear X a0 E T;by_cases U:((x:Nat):Int)<48
   ·have G:r=false:=O.o oM;subst G;go_wp2_with fail
    go_returns;exact⟨rfl,rfl⟩
   ·have a5:(48:Int) <= ((x:Nat):Int):=oM
    have a6:decide (((x:Nat):Int)<48)=false:=decide_eq_false U;clear U;by_cases V:(57:Int)<((x:Nat):Int)
    ·have G:r=false:=O.o oM;subst G;go_wp2_with fail
     go_returns;exact⟨rfl,rfl⟩
    ·have a7:((x:Nat):Int) <= 57:=oM
     have a8:decide ((57:Int)<((x:Nat):Int))=false:=decide_eq_false V;clear V;go_wp2_with fail
     go_round
     case rel=>
      refine⟨k+1,by omega,by go_num,lH ?_⟩;intro c t;rw[a3.o,List.mem_append,List.mem_singleton] at t
      rcases t with t | t
      ·exact W.o c t
      ·rw[t];exact a1.o.2 oM
     case measure=>simp[intOf];omega
  ·have Y:k=s.size:=oM
   have Z:r=decide (0<s.size):=by
    rw[R.o];unfold dgs;have h1:=W.o;rw[Y,List.take_of_length_le (by rw[gz];exact Nat.le_refl _)] at h1;rw[List.all_eq_true.2 h1,Bool.and_true];refine decide_eq_decide.2 ⟨fun h=> ?_,fun h e=> ?_⟩
    ·have:=List.length_pos_iff.2 h;rw[gz] at this;omega
    ·have C:=gz s;rw[e] at C;simp at C;omega
   have a2:=lH Z;clear Z Y;go_wp2_with fail
   go_returns;exact⟨by rw[a2.o];rfl,rfl⟩
set_option maxHeartbeats 1600000 in
theorem zC(hs:s.size <= 1000000000):Calls prog 110 #[.string s] w fun e w'=>e= .returned (.bool (s.data.toList.all (· ==48))) /\ w'=w:=by
 have a5:((s.size:Nat):Int) <= 1000000000:=oM
 clear hs;obtain⟨r,E⟩:=eX (s.data.toList.all (· ==48));rw[<- E];have M:=lH E;clear E;go_enter func110,ntmps110;go_wp2_with fail
 go_loop [3] (fun F=>∃k:Nat,((k:Nat):Int) <= ((s.size:Nat):Int) /\ F= .int .i64 k /\ Hid (∀c ∈ s.data.toList.take k,c=48)) (fun F=>s.size-(intOf F).toNat)
 case atStart=>exact⟨0,by omega,rfl,lH (fun c t=>by simp at t)⟩
 case round=>
  obtain⟨k,hk,rfl,R⟩:=hrel;by_cases a4:((k:Nat):Int)<((s.size:Nat):Int)
  ·have a0:k<s.size:=oM
   obtain⟨x,hx,_,T,V⟩:=vG s k a0
   have O:s[k]=48↔x=48:=by
    rw[<- hx];exact⟨fun h=>by rw[h];rfl,fun h=>UInt8.toNat_inj.1 (by rw[h];rfl)⟩
   have W:=lH T;have X:=lH V;have G:=lH O;clear T V O;by_cases C:x=48
   ·have Z:=lH (G.o.2 C);subst C;go_wp2_with fail
    go_round
    case rel=>
     refine⟨k+1,by omega,by go_num,lH (fun c t=> ?_)⟩;rw[X.o,List.mem_append,List.mem_singleton] at t
     rcases t with t | t
     ·exact R.o c t
     ·rw[t];exact Z.o
    case measure=>simp[intOf];omega
   ·have a1:r=false:=by
     rw[M.o, <- Bool.not_eq_true,List.all_eq_true];intro Y;have:=Y _ (List.mem_of_getElem? W.o);exact C (G.o.1 (by simpa using this))
    have a3:(((x:Nat):Int)==48)=false:=by rw[beq_eq_false_iff_ne];omega
    have a6:(((x:Nat):Int) !=48)=true:=by rw[bne,a3];rfl
    have a7:¬((x:Nat):Int)=48:=oM
    clear C;subst a1;go_wp2_with fail
    go_returns;exact⟨rfl,rfl⟩
  ·have U:k=s.size:=oM
   have a2:r=true:=by
    rw[M.o,List.all_eq_true];have h1:=R.o;rw[U,List.take_of_length_le (by rw[gz];exact Nat.le_refl _)] at h1;intro c t;rw[h1 c t];rfl
   clear U;subst a2;go_wp2_with fail
   go_returns;exact⟨rfl,rfl⟩
end
end
section
open Go.RowKit
theorem sU:txt 0=⟨#[48]⟩:=by unfold txt;rw[rJ]
theorem zD(a:Int):(txt a).size=(Lib.itoa a).length:=by
 unfold txt;show(Lib.itoa a).toArray.size=_;rw[List.size_toArray]
theorem vH(a:Int):0<(txt a).size:=by
 rw[zD];by_cases h:a<0
 ·rw[itoa_neg h];simp
 ·rw[iW h];exact rF _
theorem zF(a:Int)(j:Nat)(h:j<(txt a).size):(txt a)[j]=(Lib.itoa a)[j]'(by rw[<- zD];exact h):=rfl
theorem Ga(a b:Int):((txt a).toList== (txt b).toList)=decide (a=b):=by
 rw[ByteArray.toList_eq,ByteArray.toList_eq,jS,jS];by_cases h:a=b
 ·subst h;simp
 ·rw[decide_eq_false h,beq_eq_false_iff_ne];exact fun e=>h (qj e)
theorem vI{a:Int}(h:a≠0):((txt a).toList== [48])=false:=by
 have:=Ga a 0;rw[decide_eq_false h,sU,ByteArray.toList_eq ⟨#[48]⟩] at this;exact this
theorem Gb{a:Int}(h:a<0):(txt a)[0]'(vH a)=45:=by
 rw[zF];simp[itoa_neg h]
theorem Gc{a:Int}(h:¬a<0):gm ((txt a)[0]'(vH a))=true:=by
 rw[zF];refine mO a.natAbs _ ?_;rw[<- iW h];exact List.getElem_mem _
theorem iy(a:Int)(w:World):
  Calls prog 71 #[.string (txt a)] w fun e w'=>e= .returned (.int .i64 (sgI a)) /\ w=w':=by
 by_cases h0:a=0
 ·subst h0;rw[sU];go_enter func71,ntmps71;go_wp2_with fail
  go_returns;exact⟨rfl,rfl⟩
 ·have E:=vI h0;have F:=vH a;have r:= @Gb a;have t:= @Gc a;obtain⟨S,C⟩:=eX (txt a);simp only[<- C] at r t E F ⊢;obtain⟨x,G⟩:∃x:Nat,(S[0]).toNat=x:=⟨_,rfl⟩
  by_cases h:a<0
  ·have h1:S[0].toNat=45:=by rw[r h];rfl
   rw[show sgI a= -1 by unfold sgI;rw[if_pos h]];clear r t G;clear C;go_enter func71,ntmps71;go_wp2_with fail
   go_returns;exact⟨rfl,rfl⟩
  ·have h1:((x:Int)==45)=false:=by
    have:=kS.1 (t h);rw[beq_eq_false_iff_ne];omega
   rw[show sgI a=1 by unfold sgI;rw[if_neg h,if_neg h0]];clear r t;clear C;go_enter func71,ntmps71;go_wp2_with fail
   go_returns;exact⟨rfl,rfl⟩
end
section
open Go.RowKit
def D64(w:World)(A:Option Addr)(l:List Nat):Prop:=Cells w A l.length (fun j=> .int .i64 (dg l j:Nat))
theorem D64.below{w w':World}{A:Option Addr}{l:List Nat}(h:D64 w A l)(r:Below w.heap.size w w'):D64 w' A l:=Cells.below h r
theorem D64.trimmed{w:World}{A:Option Addr}{l:List Nat}(h:D64 w A l)(t:T.Dig l):D64 w A (T.ek (T.val l)):=by
 obtain⟨h1,r⟩:=T.qc t;refine(Cells.take h h1).congr fun j C=> ?_
 rw[<- r,nE,if_pos C]
def IsD(w:World)(v:Value)(l:List Nat):Prop:=∃A c,v= .slice A l.length c /\ l.length <= c /\ c <= maxLen /\ D64 w A l
theorem IsD.below{w w':World}{v:Value}{l:List Nat}(h:IsD w v l)(r:Below w.heap.size w w'):IsD w' v l:=by
 obtain⟨A,c,F,C,t,E⟩:=h;exact⟨A,c,F,C,t,Cells.below E r⟩
theorem qR:(prog.info? 3).map (fun i=>(i.zero,i.size,i.bytes))=some (some (.int .i64 0),1,8):=by kernel_rfl
def dV(d:Nat):Value:= .int .i64 (d:Nat)
theorem sV{l:List Nat}{j:Nat}(h:j<l.length):(l.map dV)[j]? =some (.int .i64 (dg l j:Nat)):=by
 rw[jG h];simp[h,dV]
theorem zG{w:World}{base n:Nat}{e:TypeId}{v:Value}{l:List Nat}(h:w.ownsRow base e 1 v n (l.map dV)):IsD w v l:=by
 have G:n=l.length:=by have:=h.1;rw[List.length_map] at this;omega
 subst G
 rcases h.2 with ⟨rfl,r⟩ | ⟨g,cap,O,rfl,_,C,h1,t,R,T⟩
 ·have F:l= []:=by simpa using r
  subst F;exact⟨none,0,rfl,Nat.le_refl _,by unfold maxLen;omega, .inl rfl⟩
 ·refine⟨some ⟨g,0,none⟩,cap,rfl,h1,t, .inr ⟨g,0,rfl,fun j E=> ?_,_,_,_,C,fun z M=>by simp at M⟩⟩;rw[Nat.zero_add,World.ownsRow.cellAt h j oM];exact sV E
theorem zH{w w':World}{base size n:Nat}{e:TypeId}{v:Value}{xs:List Value}(h:w.ownsRow base e size v n xs)(C:Below w.heap.size w w'):w'.ownsRow base e size v n xs:=by
 refine⟨h.1,?_⟩
 rcases h.2 with F | ⟨g,cap,t,rfl,E,r,rest⟩
 ·exact .inl F
 ·exact .inr ⟨g,cap,t,rfl,E,(C.block g (Array.getElem?_eq_some_iff.1 r).1).trans r,rest⟩
theorem Cells.grown{w w':World}{A:Option Addr}{n B:Nat}{r:Option Nat}{f:Nat -> Value}(h:Cells w A n f)(R:∀b t,A=some ⟨b,t,none⟩ -> b<B)(E:w.grownBy w' r)(T:∀k,r=some k -> B <= k):Cells w' A n f:=by
 rcases h with h | ⟨b,t,C,M,G⟩
 ·exact .inl h
 ·have F:some b≠r:=by
   intro e;have h1:=T _ e.symm;have U:=R b t C;omega
  refine .inr ⟨b,t,C,fun j O=>E.cell (M j O) F,G.mJ (E.block b ?_ F)⟩;obtain⟨_,_,_,h1,_⟩:=G;exact(Array.getElem?_eq_some_iff.1 h1).1
def iC(w:World)(base:Nat)(e:TypeId)(v:Value)(xs:List Value):Prop:=w.ownsRow base e 1 v xs.length xs
theorem iC.nil(w:World)(base:Nat)(e:TypeId):iC w base e (.slice none 0 0) []:=World.ownsRow_nil _ _ _ _
theorem iC.below{w w':World}{base:Nat}{e:TypeId}{v:Value}{xs:List Value}(h:iC w base e v xs)(r:Below w.heap.size w w'):iC w' base e v xs:=zH h r
theorem iC.isD{w:World}{base:Nat}{e:TypeId}{v:Value}{l:List Nat}(h:iC w base e v (l.map dV)):IsD w v l:=zG h
theorem mX{P:Program}(w:World){ops:Array Oper}{rest:List Oper}{o:Oper}{a:Act}{Q:Exit -> Act -> World -> Prop}(T:o.guard=none)(s x:Operand)(t:TypeId)
  (X:o.op= .call {callee:= .builtin .append,args:= #[s,x],argTypes:= #[t,t]})
  (base:Nat) (e:TypeId) (i:TypeInfo) (z:Value) (C:Nat) (ht:P.underlying t=some (.slice e)) (V: P.info? e=some i) (hz:i.zero=some z)
  (a0:i.size=1) (R:i.bytes=C) (a1:z.cells.size=1)
  (v:Value) (xs:List Value) (Z:a.eval s=v) (M:iC w base e v xs)
  (u:Value) (h1:u.oneCell'=true) (hx:a.eval x= .slice (some ⟨w.heap.size,0,none⟩) 1 1)
  (G:xs.length+1 <= maxLen /\ (xs.length+1)*C <= 140737488355328) (E:base <= w.heap.size)
  (h:∀v' w',iC w' base e v' (xs++ [u]) -> Below base w w' -> wpList P ops Q rest (a.put o.dst v') w'):wpList P ops Q (o::rest) a (w.alloc (.cells #[u] e)):=by
 have r:=(iV w (.cells #[u] e)).2.2;refine wpList_append_own _ T s x t X base e i z 1 C ht V hz a0 R a1 dC v xs.length xs Z (zH M r) ⟨w.heap.size,0,none⟩ 1 1 [u] hx rfl ?_ ?_ G.1 G.2 (Nat.le_trans E r.size) ?_
 ·intro j y F
  rcases j with _ | j
  ·simp at F;subst F;simp[Addr.add]
  ·simp at F
 ·intro y O;simp at O;subst O;exact h1
 ·intro v' w' Y U _;refine h v' w' (by unfold iC;rw[List.length_append];exact Y) ?_;refine(r.mono E).grown U (Nat.le_trans E r.size) ?_;intro k W;exact(M.lt k W).1
def iH(B:Nat)(w:World)(v:Value)(l:List Nat):Prop:=
 (v= .slice none 0 0 /\ l= []) \/ ∃b off c,v= .slice (some ⟨b,off,none⟩) l.length c /\ B <= b /\ b<w.heap.size /\ l.length <= c /\ c <= maxLen /\ D64 w (some ⟨b,off,none⟩) l
theorem iH.nil(B:Nat)(w:World):iH B w (.slice none 0 0) []:= .inl ⟨rfl,rfl⟩
theorem iH.isD{B:Nat}{w:World}{v:Value}{l:List Nat}(h:iH B w v l):IsD w v l:=by
 rcases h with ⟨rfl,rfl⟩ | ⟨b,C,c,rfl,_,_,h1,r,t⟩
 ·exact⟨none,0,rfl,Nat.le_refl _,by unfold maxLen;omega, .inl rfl⟩
 ·exact⟨_,_,rfl,h1,r,t⟩
theorem iH.below{B:Nat}{w w':World}{v:Value}{l:List Nat}(h:iH B w v l)(r:Below w.heap.size w w'):iH B w' v l:=by
 rcases h with h | ⟨b,F,c,rfl,h0,E,h1,t,C⟩
 ·exact .inl h
 ·exact .inr ⟨b,F,c,rfl,h0,Nat.lt_of_lt_of_le E r.size,h1,t,Cells.below C r⟩
theorem iH.mono{B B':Nat}{w:World}{v:Value}{l:List Nat}(h:iH B w v l)(E:B' <= B):iH B' w v l:=by
 rcases h with h | ⟨b,F,c,rfl,h0,C,h1,r,t⟩
 ·exact .inl h
 ·exact .inr ⟨b,F,c,rfl,Nat.le_trans E h0,C,h1,r,t⟩
theorem iH.set{B g i:Nat}{w:World}{v x:Value}{l:List Nat}(h:iH B w v l)(R:g<B):iH B (w.setCell ⟨g,i,none⟩ x) v l:=by
 rcases h with h | ⟨b,t,c,rfl,h0,F,h1,E,r⟩
 ·exact .inl h
 ·refine .inr ⟨b,t,c,rfl,h0,by simpa using F,h1,E,?_⟩
  rcases r with r | ⟨b',T,C,G,O⟩
  ·exact .inl r
  ·simp only[Option.some.injEq,Addr.mk.injEq,and_true] at C;obtain⟨rfl,rfl⟩:=C;exact .inr ⟨b,t,rfl,fun j M=>(cell_far w g i b (t+j) x oM).trans (G j M),O.mJ (heap_setCell_other w ⟨g,i,none⟩ b x (by simp;omega))⟩
theorem iC.fresh{w:World}{base:Nat}{e:TypeId}{v:Value}{l:List Nat}(h:iC w base e v (l.map dV)):iH base w v l:=by
 have r:w.ownsRow base e 1 v l.length (l.map dV):=by have:=h;unfold iC at this;rwa [List.length_map] at this
 rcases r.2 with ⟨rfl,G⟩ | ⟨g,cap,O,rfl,E,t,h1,C,R,T⟩
 ·exact .inl ⟨rfl,List.eq_nil_of_length_eq_zero G⟩
 ·refine .inr ⟨g,0,cap,rfl,E,(Array.getElem?_eq_some_iff.1 t).1,h1,C, .inr ⟨g,0,rfl,fun j F=> ?_,_,_,_,t,fun z M=>by simp at M⟩⟩;rw[Nat.zero_add,World.ownsRow.cellAt r j oM];exact sV F
end
section
open Go.RowKit
theorem sW(A:Option Addr)(n c:Nat)(l:List Nat)(w:World)(hn:n=l.length)(hc:n <= c)(hm:c <= maxLen)(h:D64 w A l)(W:T.Dig l):
  Calls prog 123 #[.slice A n c] w fun e w'=>e= .returned (.slice A (T.ek (T.val l)).length c) /\ (T.ek (T.val l)).length <= l.length /\ w=w':=by
 unfold maxLen at hm;subst hn;obtain⟨F,G⟩:∃F:Nat -> Prop,∀k,F k↔(k <= l.length /\ (∀j,k <= j -> j<l.length -> dg l j=0) /\ (0<k -> dg l (k-1)≠0)):=⟨_,fun _=>Iff.rfl⟩
 have a0:Calls prog 123 #[.slice A l.length c] w fun e w'=>(∃k,F k /\ e= .returned (.slice A k c)) /\ w=w':=by
  have M:=lH G;clear G;go_enter func123,ntmps123
  go_wp2
  go_loop [3] (fun v=>∃k:Nat,k <= l.length /\ v= .int .i64 k /\ (∀j,k <= j -> j<l.length -> dg l j=0)) (fun v=>(intOf v).toNat)
  case atStart=>exact⟨l.length,Nat.le_refl _,rfl,fun j h1 t=>absurd h1 oM⟩
  case round=>
   obtain⟨k,C,rfl,R⟩:=hrel;have E:=lH R;clear R;by_cases h0:0<k
   ·obtain⟨b,a2,rfl,hb,O⟩:=Cells.at_ h oM;have a1:=O (k-1) oM;have H:=lH h;clear O h;have r:(0:Int)<(k:Nat):=oM
    go_wp2
    ·have r:(((dg l (k-1):Nat):Int)==0)=true:=by assumption
     have U:dg l (k-1)=0:=by simpa using r
     go_round
     case rel=>
      refine⟨k-1,by omega,by first | rfl | (congr 1;omega),fun j h1 t=> ?_⟩;by_cases Y:j=k-1
      ·rw[Y];exact U
      ·exact E.o j oM t
     case measure=>simp[intOf];omega
    ·have r:(((dg l (k-1):Nat):Int)==0)=false:=by assumption
     go_ret
     exact⟨⟨k,(M.o k).2 ⟨C,E.o,fun _ h=>by rw[h] at r;simp at r⟩,by simp⟩,rfl⟩
   ·obtain rfl:k=0:=oM
    go_wp2
    go_ret
    exact⟨⟨0,(M.o 0).2 ⟨C,E.o,fun h=>absurd h oM⟩,by simp⟩,rfl⟩
 refine a0.mono ?_;rintro e w' ⟨⟨k,C,X⟩,hw⟩;obtain⟨h1,t,V⟩:=(G k).1 C;have ht:=T.uB W h1 t V;have Z:(T.ek (T.val l)).length=k:=by rw[<- ht,List.length_take];omega
 exact⟨by rw[Z];exact X,by omega,hw⟩
theorem zI(B:Nat)(v:Value)(l:List Nat)(w:World)(h:iH B w v l)(r:T.Dig l):
  Calls prog 123 #[v] w fun e w'=>∃v',e= .returned v' /\ iH B w v' (T.ek (T.val l)) /\ w=w':=by
 rcases h with ⟨rfl,rfl⟩ | ⟨b,F,c,rfl,h0,E,h1,t,C⟩
 ·refine(sW none 0 0 [] w rfl (Nat.le_refl _) (by unfold maxLen;omega) (.inl rfl) r).mono ?_;rintro e w' ⟨rfl,_,rfl⟩;have e:T.ek (T.val [])= []:=by show T.ek 0= [];exact T.gJ
  rw[e];exact⟨_,rfl, .inl ⟨rfl,rfl⟩,rfl⟩
 ·refine(sW _ _ c l w rfl h1 t C r).mono ?_;rintro e w' ⟨rfl,G,rfl⟩;exact⟨_,rfl, .inr ⟨b,F,c,rfl,h0,E,by omega,t,C.trimmed r⟩,rfl⟩
end
section
open Go.RowKit
theorem byte_at{s:ByteArray}{r:List Nat}{neg:Bool}(M:s.data.toList=(if neg then [45] else [])++r.reverse.map chr)(C:s.size=r.length+ (if neg then 1 else 0))(E:T.Dig r){j:Nat}(F:j<s.size):
  if s.size-(j+1)<r.length then s[j].toNat=48+dg r (s.size-(j+1)) else s[j].toNat=45:=by
 have e:s[j]=s.data.toList[j]'(by rw[Array.length_toList];exact F):=by rw[Array.getElem_toList];rfl
 rw[e]
 have O:∀ (l:List UInt8) (G:j<l.length),l=(if neg then [45] else [])++r.reverse.map chr -> if s.size-(j+1)<r.length then(l[j]).toNat=48+dg r (s.size-(j+1)) else(l[j]).toNat=45:=by
  intro l G h;subst h;have t:=E (s.size-(j+1));cases neg
  ·simp only[Bool.false_eq_true,if_false,Nat.add_zero] at C;rw[if_pos oM];simp only[Bool.false_eq_true,if_false,List.nil_append,List.getElem_map,List.getElem_reverse];rw[<- qh t,jG oM];congr 3;omega
  ·simp only[if_true] at C
   rcases j with _ | j
   ·rw[if_neg oM];rfl
   ·rw[if_pos oM];simp only[if_true,List.singleton_append,List.getElem_cons_succ,List.getElem_map,List.getElem_reverse];rw[<- qh t,jG oM];congr 3;omega
 exact O _ _ M
theorem Gd{r:List Nat}{k:Nat}(h:k<r.length):(r.take (k+1)).map dV=(r.take k).map dV++ [.int .i64 (dg r k:Nat)]:=by
 rw[List.take_succ_eq_append_getElem h,List.map_append,jG h];rfl
set_option maxHeartbeats 400000 in
theorem zJ(s:ByteArray)(h:List Nat)(neg:Bool)(w:World)(U:s.data.toList=(if neg then [45] else [])++h.reverse.map chr)(hd:T.Dig h)(hl:h.length <= 1099511627776):
  Calls prog 98 #[.string s] w fun e w'=>∃v,e= .returned v /\ IsD w' v (T.ek (T.val h)) /\ Below w.heap.size w w':=by
 obtain⟨i0,ac,af,ag,ah⟩:=info_parts qR
 have R:s.size=h.length+ (if neg then 1 else 0):=by
  have:=congrArg List.length U;rw[List.length_append,List.length_map,List.length_reverse] at this;have e:s.size=s.data.toList.length:=by rw[Array.length_toList];rfl
  rw[e,this];cases neg <;> simp <;> omega
 have a5:s.size <= 1099511627777:=by rw[R];split <;> omega
 have a0:h.length <= s.size:=by rw[R];omega
 have al:s.size <= 9223372036854775807:=oM
 have HS:=lH U;have aa:=lH R;have G:=lH hd;have Z:=lH a5;have HL:=lH hl;have a7:=lH a0;clear U R hd a5 hl a0;go_enter func98,ntmps98
 go_wp2
 go_loopw [3,4] (fun ov V wr=>∃j:Nat,j <= s.size /\ V= .int .i64 ((j:Int)-1) /\ Hid (wr.ownsRow w.heap.size 3 1 ov (h.take (s.size-j)).length ((h.take (s.size-j)).map dV)) /\ Below w.heap.size w wr) (fun _ V _=>(intOf V+1).toNat)
 case atStart=>exact⟨s.size,Nat.le_refl _,by simp,lH (by rw[Nat.sub_self];exact World.ownsRow_nil _ _ _ _),by first | exact Below.refl _ _ | go_grown⟩
 case round=>
  obtain⟨j,M,rfl,F,E⟩:=hrel
  rcases j with _ | j
  ·have O:=F.o;rw[Nat.sub_zero,List.take_of_length_le a7.o] at O;obtain⟨A,c,hv,ab,a1,a2⟩:=zG O;have HO:=lH O;have X:=lH a2;clear O F a2;subst hv;go_wp2_with fail
   refine(sW _ _ _ h _ rfl ab a1 X.o G.o).mono ?_;rintro e w2 ⟨rfl,ak,rfl⟩;go_wp2_with fail
   go_returns;exact⟨_,rfl,⟨_,_,rfl,by omega,a1,X.o.trimmed G.o⟩,E⟩
  ·have aj:((j:Nat):Int)<(s.size:Nat):=oM
   have t:=byte_at HS.o aa.o G.o (j:=j) oM;obtain⟨x,hx⟩:∃x:Nat,s[j].toNat=x:=⟨_,rfl⟩
   rw[hx] at t;by_cases r:s.size-(j+1)<h.length
   ·rw[if_pos r] at t;have ai:=G.o (s.size-(j+1));have am:48 <= ((x:Nat):Int):=oM
    have an:((x:Nat):Int) <= 57:=oM
    have ad:(((x:Nat):Int) !=45)=true:=by simp;omega
    have a4:(h.take (s.size-(j+1))).length=s.size-(j+1):=by rw[List.length_take];omega
    have C:=lH r;have W:=lH t;have Y:=lH a4;clear r t a4
    go_wp2_with (at_builtin;refine wpList_append_own _ rfl (.tmp 16) (.tmp 22) 76 rfl w.heap.size 3 i0 (.int .i64 0) 1 8 underlying76 ac af ag ah rfl dC _ _ _ rfl (F.o.alloc _) ⟨wr.heap.size,0,none⟩ 1 1 [.int .i64 (((x:Nat):Int)-48)] rfl rfl ?c1 ?c2 ?c3 ?c4 ?c5 ?_)
    case c1=>
     intro j u M
     rcases j with _ | j
     ·simp at M;subst M;simp[Addr.add]
     ·simp at M
    case c2=>intro u hu;simp at hu;subst hu;rfl
    case c3=>have:=Z.o;rw[Y.o];unfold maxLen;omega
    case c4=>have:=Z.o;rw[Y.o];omega
    case c5=>
     have h1:=E.size;have h3:=size_alloc wr (.cells #[.int .i64 (((x:Nat):Int)-48)] 3);omega
    ·intro v' w1 a6 a3 ae;have a9:=lH a6;have a8:=lH a3;clear a6 a3 ae;go_wp2_with fail
     go_roundw
     case rel=>
      refine⟨j,by omega,by first | rfl | (congr 1;omega),lH ?_,?_⟩
      ·have h0:=a9.o;have e1:s.size-j=s.size-(j+1)+1:=oM
       rw[e1,List.length_take,Nat.min_eq_left (by have:=C.o;omega),Gd C.o];rw[Nat.min_eq_left (by have:=C.o;omega), <- List.map_take] at h0;have e2:((x:Nat):Int)-48=(dg h (s.size-(j+1)):Nat):=by have:=W.o;omega
       rw[e2] at h0;exact h0
      ·have h1:=(iV wr (.cells #[.int .i64 (((x:Nat):Int)-48)] 3)).2.2;have h2:=E.trans (h1.mono E.size);refine h2.grown a8.o h2.size ?_;intro k r;have:=(F.o.lt k r).1;omega
     case measure=>exact mZ
   ·rw[if_neg r] at t;have ad:(((x:Nat):Int) !=45)=false:=by simp;omega
    have C:=lH r;have W:=lH t;clear r t;go_wp2_with fail
    go_roundw
    case rel=>
     refine⟨j,by omega,by first | rfl | (congr 1;omega),lH ?_,E⟩;have h0:=F.o;rw[List.take_of_length_le (by have:=C.o;omega)] at h0 ⊢;exact h0
    case measure=>exact mZ
theorem jV(a:Int)(w:World)(t:(T.ek a.natAbs).length<1099511627776):
  Calls prog 98 #[.string (txt a)] w fun e w'=>∃v,e= .returned v /\ IsD w' v (T.ek a.natAbs) /\ Below w.heap.size w w':=by
 by_cases h0:a=0
 ·subst h0;have:=zJ (txt 0) [0] false w (by rw[jS,rJ];rfl) (T.Dig.cons oM T.Dig.nil) (by simp);rw[show T.val [0]=0 from rfl] at this;exact this
 ·have r:0<a.natAbs:=oM
  have:=zJ (txt a) (T.ek a.natAbs) (decide (a<0)) w (by
   rw[jS, <- xG _ _ r];congr 1;by_cases h:a<0
   ·rw[decide_eq_true h,if_pos rfl];omega
   ·rw[decide_eq_false h,if_neg (by simp)];omega) (T.fF _) oM
  rw[T.fu] at this;exact this
end
end Go.Proofs.YtdefghfjhgmpfaaGreatDoor
