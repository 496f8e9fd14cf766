/- Parts of this proof: Text LimQ QScan RSign RBase RTrim RDigits. -/
import Derived.Test.YtdefghfjhgmpfaaGreatDoorMAF
import Derived.Test.YtdefghfjhgmpfaaGreatDoorMAD
import Derived.Test.YtdefghfjhgmpfaaGreatDoorMAA
import Derived.Deep.LoopGhost
import Derived.Lib.AppendIntMem
import Derived.WalkKit
import Derived.Laws.IdiomCopy
import Derived.Deep.Upon
import Derived.Lib.EndianMore
import Derived.Test.YtdefghfjhgmpfaaGreatDoorMAP
import Derived.Test.YtdefghfjhgmpfaaGreatDoorMAC
import Derived.Test.YtdefghfjhgmpfaaGreatDoorMAE
import Derived.Test.YtdefghfjhgmpfaaGreatDoorMAG
namespace Go.Proofs.YtdefghfjhgmpfaaGreatDoor
open Tryz
section
open Go.RowKit
theorem FZ:(prog.info? 9).map (fun i=>(i.zero,i.size,i.bytes))=some (some (.string ⟨#[]⟩),1,16):=by kernel_rfl
theorem pz{P:Program}{w w':World}{t:String}{k:IntKind}{zs:List Int}(h:Lib.TabIs P w t k zs)(E:Below w.heap.size w w'):Lib.TabIs P w' t k zs:=by
 unfold Lib.TabIs World.var? at*;cases hg:P.globalNamed t with
 | none=>rw[hg] at h;simp at h
 | some g=>
  rw[hg] at h;simp only[Option.bind_some] at h ⊢
  rcases Nat.lt_or_ge g w.heap.size with G | F
  ·rw[E.block g G];exact h
  ·rw[Array.getElem?_eq_none F] at h;simp at h
def kz(l:List UInt8):Value:= .string ⟨l.toArray⟩
theorem zy{w w':World}{base size n:Nat}{e:TypeId}{v:Value}{xs:List Value}(h:w.ownsRow base e size v n xs)(F:Below w.heap.size w w'):w'.ownsRow base e size v n xs:=by
 refine⟨h.1,?_⟩
 rcases h.2 with M | ⟨g,cap,E,rfl,G,t,rest⟩
 ·exact .inl M
 ·exact .inr ⟨g,cap,E,rfl,G,(F.block g (Array.getElem?_eq_some_iff.1 t).1).trans t,rest⟩
theorem G5{w:World}{base gq n:Nat}{v:Value}{t:List (List UInt8)}{l:List Nat}(h:w.ownsRow base 9 1 v n (t.map kz))(X:0<n)(R:U32 w (some ⟨gq,0,none⟩) l)(M:0<l.length):v.ownBlock≠some gq:=by
 intro F;have O:n*1=(t.map kz).length:=by have:=h.1;omega
 have E: w.cell? ⟨gq,0,none⟩=some (.int .u32 (dg l 0:Nat)):=by
  rcases R with h0 | ⟨b',Y,G,E,_⟩
  ·omega
  ·simp only[Option.some.injEq,Addr.mk.injEq,and_true] at G;obtain⟨rfl,rfl⟩:=G;exact E 0 M
 rcases h.2 with ⟨rfl,_⟩ | ⟨g,cap,U,T,_⟩
 ·simp[Value.ownBlock] at F
 ·subst T;simp only[Value.ownBlock,Option.some.injEq] at F;subst F;have h0:=World.ownsRow.cellAt h 0 oM;rw[E] at h0
  rcases t with _ | ⟨x,t⟩
  ·simp at O;omega
  ·simp[kz] at h0
theorem G6{w:World}{base gq:Nat}{v:Value}{t:List (List UInt8)}{l:List Nat}(h:w.ownsRow base 9 1 v t.length (t.map kz))(G:t= [] -> v= .slice none 0 0)(M:U32 w (some ⟨gq,0,none⟩) l)(F:0<l.length):v.ownBlock≠some gq:=by
 by_cases E:t= []
 ·rw[G E];simp[Value.ownBlock]
 ·exact G5 h (List.length_pos_iff.2 E) M F
theorem Cells.G7{w w':World}{b t n:Nat}{r:Option Nat}{f:Nat -> Value}(h:Cells w (some ⟨b,t,none⟩) n f)(F:w.grownBy w' r)(G:r≠some b):Cells w' (some ⟨b,t,none⟩) n f:=by
 rcases h with h | ⟨b',T,E,O,M⟩
 ·exact .inl h
 ·simp only[Option.some.injEq,Addr.mk.injEq,and_true] at E;obtain⟨rfl,rfl⟩:=E;refine .inr ⟨b,t,rfl,fun j R=>F.cell (O j R) (Ne.symm G),M.mJ (F.block b ?_ (Ne.symm G))⟩;obtain⟨_,_,_,h1,_⟩:=M;exact(Array.getElem?_eq_some_iff.1 h1).1
set_option maxHeartbeats 1600000 in
theorem G8(va:Value)(a:Int)(w:World)(ha:eQ w va a)(aN:(ek a.natAbs).length<1099511627776)(ax:(Lib.decDigits a.natAbs).length <= 1000000000)(az:Lib.TabIs prog w "internal/strconv.uint64pow10" .u64 Lib.pow10Tab):
  Calls prog 107 #[va] w fun e w'=>e= .returned (.string (txt a)) /\ Below w.heap.size w w':=by
 obtain⟨A,O,rfl,aK,bS,aq⟩:=ha;obtain⟨i0,bh,bv,bw,bz⟩:=info_parts FZ;obtain⟨s,hs⟩:=eX (decide (a<0));rw[<- hs];obtain⟨n,hn⟩:=eX (a.natAbs);rw[<- hn] at aq aN ax aK ⊢;by_cases hz:(ek n).length=0
 ·have aZ:((((ek n).length:Nat):Int)==0)=true:=by rw[hz];rfl
  have bj:n=0:=oI.1 hz
  have br:txt a=⟨#[48]⟩:=by
   rw[show a=0 by omega];unfold txt Lib.itoa;rw[if_neg oM];show(⟨(Lib.decDigits 0).toArray⟩:ByteArray)=_;rw[Lib.decDigits_one oM];rfl
  rw[br];clear hz aq hs hn bj br ax az;go_enter func107,ntmps107;go_wp2_with fail
  go_returns;exact⟨rfl,by go_grown⟩
 ·have aZ:((((ek n).length:Nat):Int)==0)=false:=by rw[beq_eq_false_iff_ne];omega
  obtain⟨W,hW⟩:=eX (w.alloc (.cells #[.bool s, .slice A (ek n).length O] 103));have r1:=(iV w (.cells #[.bool s, .slice A (ek n).length O] 103)).1;have aH:=(iV w (.cells #[.bool s, .slice A (ek n).length O] 103)).2.1;have aw:=(iV w (.cells #[.bool s, .slice A (ek n).length O] 103)).2.2;rw[<- hW] at r1 aw aH;have r1:Row W w.heap.size 103 [.bool s, .slice A (ek n).length O]:=r1;have e0:=r1.at_ 0 rfl;have e1:=r1.at_ 1 rfl
  have b9:∀b a6,A=some ⟨b,a6,none⟩ -> b<w.heap.size \/ a6=0:=by
   obtain⟨b,a6,hA,hb,_⟩:=Cells.at_ aq oM;intro b' cl e;rw[hA] at e;simp only[Option.some.injEq,Addr.mk.injEq,and_true] at e
   left;omega
  have bA:=lH b9;have b7:=lH az;clear b9;have b8:=lH aw;have c7:=lH aH;have HU:=lH (Cells.below aq aw);have R1:=lH r1;have HS:=lH hs;have HN:=lH hn;clear aw aq r1 hz hs hn aH;go_enter func107,ntmps107;go_wp2_with fail
  rw[<- hW];clear hW;go_wp2_with fail
  have bO:=lH (pz az b8.o);have ae:=lH ax;have bC:=lH aK;have bI:=lH aN;have bj:0<n:=kK.1 (by have:=aZ;rw[beq_eq_false_iff_ne] at this;omega);clear az ax aK aN aZ
  go_loopg [3,4] n (fun g gv mv wr=>∃ (m:Nat) (t:List (List UInt8)) (A':Option Addr) (c':Nat),mv= .slice A' (ek m).length c' /\ Hid (g=m) /\ (ek m).length <= c' /\ c' <= maxLen /\ U32 wr A' (ek m) /\ Hid (∀b a6,A'=some ⟨b,a6,none⟩ -> b<w.heap.size \/ a6=0) /\ Hid (wr.ownsRow (w.heap.size+1) 9 1 gv t.length (t.map kz)) /\
   Hid (Lib.decDigits n=ahead m++t.reverse.flatten) /\ Hid (t.length <= t.reverse.flatten.length) /\ Hid (t= [] -> gv= .slice none 0 0) /\ Hid (m=0 -> t≠ []) /\ Hid (Row wr w.heap.size 103 [.bool s, .slice A (ek n).length O]) /\ Hid ((ek m).length <= (ek n).length) /\ Hid (Below w.heap.size w wr) /\ Hid (Lib.TabIs prog wr "internal/strconv.uint64pow10" .u64 Lib.pow10Tab))
  case atStart=>
   refine⟨n,[],A,O,rfl,lH rfl,bC.o,bS,HU.o,bA,lH (World.ownsRow_nil _ _ _ _),lH ?_,lH (by simp),lH (fun _=>rfl),lH (fun h=>by omega),R1,lH (Nat.le_refl _),b8,bO⟩;unfold ahead;rw[if_neg oM];simp
  case round=>
   obtain⟨m,t,A',c',rfl,be,c9,cb,bu,c8,ay,ai,ak,bX,aP,a8,aM,ag,bs⟩:=hrel;have bP:=lH bu;clear bu;by_cases hm:(0:Int)<(((ek m).length:Nat):Int)
   ·have a5:0<m:=kK.1 oM;have cg:0<(ek m).length:=oM
    obtain⟨F,aR⟩:=eX (m / 1000000000);obtain⟨r0,aW⟩:=eX (m%1000000000);have ci:r0<1000000000:=oM
    have a9:=yl A' c' 1000000000 (ek m) wr bP.o (fF m) (by have:=aM.o;have:=bI.o;omega) oM oM;rw[fu, <- aR, <- aW] at a9;have b5:=lH a9;have a4:=lH aR;have b2:=lH aW;clear aR aW a9;by_cases hq:(0:Int)<(((ek F).length:Nat):Int)
    ·have bl:0<(ek F).length:=oM
     have bU:=nJ 8 r0 oM;obtain⟨d,hd⟩:∃d:Nat,(9:Int)-(((Lib.decDigits r0).length:Nat):Int)=(d:Nat):=⟨9-(Lib.decDigits r0).length,by omega⟩
     have ce:((d:Nat):Int) <= 9:=oM
     have bd:d=8+1-(Lib.decDigits r0).length:=oM
     have bG:=lH bd;clear bd;go_wp2_with fail
     refine b5.o.mono ?_;rintro e E ⟨v,rfl,⟨aO,a9⟩,R⟩;obtain⟨gq,nq,cq,rfl⟩:=a9;obtain⟨Aq,bQ,hv,aS,aT,ao⟩:=aO;simp only[Value.slice.injEq] at hv;obtain⟨rfl,rfl,rfl⟩:=hv;have a2:=lH R;have aD:=lH ao;clear R ao;go_wp2_with fail
     refine(Tryz.strconv_Itoa ((r0:Nat):Int) oM oM E (pz bs.o a2.o)).mono ?_;rintro e w3 ⟨rfl,k3,bZ,au⟩;have a0:Below E.heap.size E w3:=by rw[au];exact Lib.below_grow _ _ (Nat.le_refl _) _ _
     rw[Lib.itoa_nonneg];have aa:=lH a0;clear a0 au;go_wp2_with fail
     refine(Tryz.strings_Repeat ⟨#[48]⟩ d w3 oM (by show 1*d <= _;omega)).mono ?_;rintro e w4 ⟨rfl,ba⟩;have b0:=lH ba;clear ba;obtain⟨S1,av⟩:∃S1:ByteArray,S1=⟨(Lib.repeatL (⟨#[48]⟩:ByteArray).data.toList d).toArray⟩:=⟨_,rfl⟩
     rw[<- av];obtain⟨M,Z⟩:∃M:ByteArray,M=⟨(Lib.decDigits r0).toArray⟩:=⟨_,rfl⟩
     try rw[<- Z]
     have bM:=lH av;have aF:=lH Z
     have ck:((S1.size:Nat):Int) <= 9:=by
      rw[av];show(((Lib.repeatL [48] d).toArray.size:Nat):Int) <= 9;rw[List.size_toArray,Lib.repeatL_length];simp;omega
     have bY:((M.size:Nat):Int) <= 9:=by
      rw[Z];show(((Lib.decDigits r0).toArray.size:Nat):Int) <= 9;rw[List.size_toArray];omega
     have bx:S1.size+M.size <= 9223372036854775807:=oM
     clear av Z
     go_upto_region 10 with (fail)
     obtain⟨X,a7⟩:=eX (S1++M);rw[<- a7]
     have ar:Value.string X=kz (jA m):=by
      rw[a7,bM.o,aF.o];unfold kz jA;rw[if_neg (by rw[<- a4.o];have:=kK.1 bl;omega), <- b2.o, <- DF 8 r0 oM, <- bG.o];refine congrArg Value.string ?_;apply ByteArray.ext;simp
     have aG:=lH ar;obtain⟨G,a1⟩:=eX (w4);rw[<- a1];have af:Below wr.heap.size wr G:=by rw[a1];exact a2.o.trans ((aa.o.mono a2.o.size).trans (b0.o.mono (Nat.le_trans a2.o.size aa.o.size)))
     have U:=lH af;have ap:U32 G (some ⟨gq,0,none⟩) (ek F):=by rw[a1];exact(aD.o.below aa.o).below b0.o
     have aE:=lH ap;clear a7 ar a1 af ap
     have ad:t.length <= 1000000000:=by
      have h1:=congrArg List.length ai.o;rw[List.length_append] at h1;have Y:=ak.o;have h3:=ae.o;omega
     have an:=zy ay.o U.o;have a3:=lH an;clear an
     go_wp2_with (at_builtin;refine wpList_append_own _ rfl (.tmp 35) (.tmp 37) 152 rfl (w.heap.size+1) 9 i0 (.string ⟨#[]⟩) 1 16 underlying152 bh bv bw bz rfl dC _ _ _ rfl (a3.o.alloc _) ⟨G.heap.size,0,none⟩ 1 1 [.string X] rfl rfl ?c1 ?c2 ?c3 ?c4 ?c5 ?_)
     case c1=>
      intro j u T
      rcases j with _ | j
      ·simp at T;subst T;simp[Addr.add]
      ·simp at T
     case c2=>intro u hu;simp at hu;subst hu;rfl
     case c3=>unfold maxLen;omega
     case c4=>omega
     case c5=>
      have h1:=a8.o.lt;have Y:=U.o.size;have h3:=(iV G (.cells #[.string X] 9)).2.1;omega
     ·intro v' w1 am aj al;have aC:=lH am;have ab:=lH aj;have bJ:=lH al;clear am aj al;go_wp2_with fail
      go_roundg F
      case measure=>rw[be.o,a4.o];exact Nat.div_lt_self a5 dC
      case rel=>
       have ac:=(iV G (.cells #[.string X] 9)).2.2;have aP:=G6 a3.o bX.o aE.o bl;have aU:=Cells.G7 (U32.below aE.o ac) ab.o aP
       have ah:Below w.heap.size w w1:=by
        have h0:=ag.o.trans (U.o.mono ag.o.size);have h1:=h0.trans (ac.mono h0.size);refine h1.grown ab.o h1.size ?_;intro k hk;have:=(a3.o.lt k hk).1;omega
       have aX:Row w1 w.heap.size 103 [.bool s, .slice A (ek n).length O]:=by
        have h0:=(a8.o.below U.o a8.o.lt);have h1:=h0.below ac h0.lt;refine(ab.o.block w.heap.size h1.lt ?_).trans h1;intro he;have:=(a3.o.lt _ he.symm).1;omega
       have aQ:w1.ownsRow (w.heap.size+1) 9 1 v' (t++ [jA m]).length ((t++ [jA m]).map kz):=by
        have h0:=aC.o;rw[aG.o] at h0;rw[List.length_append,List.map_append];exact h0
       refine⟨F,t++ [jA m],some ⟨gq,0,none⟩,cq,rfl,lH rfl,aS,aT,aU,lH (fun b a6 e=>by simp only[Option.some.injEq,Addr.mk.injEq,and_true] at e;exact .inr e.2.symm),lH aQ,lH ?_,lH ?_,lH (fun h=>by simp at h),lH (fun h=>by simp),lH aX,lH ?_,lH ah,lH (pz b7.o ah)⟩
       ·rw[ai.o,xC a5, <- a4.o];simp
       ·have h1:=ak.o
        have Y:0<(jA m).length:=by
         unfold jA;split
         ·rw[Lib.decDigits];split <;> simp
         ·rw[xB];omega
        simp at h1 ⊢;omega
       ·exact Nat.le_trans (iO (by rw[a4.o];exact Nat.div_le_self _ _)) aM.o
    ·have aV:(ek F).length=0:=oM
     have bk:F=0:=oI.1 aV;have ch:decide (0<(ek F).length)=false:=decide_eq_false oM;have bL:=lH aV;have bK:=lH bk;have bU:=nJ 8 r0 oM;clear aV bk;go_wp2_with fail
     refine b5.o.mono ?_;rintro e E ⟨v,rfl,⟨aO,a9⟩,R⟩;obtain⟨gq,nq,cq,rfl⟩:=a9;obtain⟨Aq,bQ,hv,aS,aT,ao⟩:=aO;simp only[Value.slice.injEq] at hv;obtain⟨rfl,rfl,rfl⟩:=hv;have a2:=lH R;have aD:=lH ao;clear R ao;go_wp2_with fail
     refine(Tryz.strconv_Itoa ((r0:Nat):Int) oM oM E (pz bs.o a2.o)).mono ?_;rintro e w3 ⟨rfl,k3,bZ,au⟩;have a0:Below E.heap.size E w3:=by rw[au];exact Lib.below_grow _ _ (Nat.le_refl _) _ _
     rw[Lib.itoa_nonneg];have aa:=lH a0;clear a0 au;obtain⟨M,Z⟩:∃M:ByteArray,M=⟨(Lib.decDigits r0).toArray⟩:=⟨_,rfl⟩
     try rw[<- Z]
     have aF:=lH Z
     have bY:((M.size:Nat):Int) <= 9:=by
      rw[Z];show(((Lib.decDigits r0).toArray.size:Nat):Int) <= 9;rw[List.size_toArray];omega
     clear Z
     go_upto_region 10 with (fail)
     obtain⟨X,a7⟩:=eX (M);rw[<- a7]
     have ar:Value.string X=kz (jA m):=by
      rw[a7,aF.o];unfold kz jA;rw[if_pos (by rw[<- a4.o];exact bK.o), <- b2.o]
     have aG:=lH ar;obtain⟨G,a1⟩:=eX (w3);rw[<- a1];have af:Below wr.heap.size wr G:=by rw[a1];exact a2.o.trans (aa.o.mono a2.o.size)
     have U:=lH af;have ap:U32 G (some ⟨gq,0,none⟩) (ek F):=by rw[a1];exact aD.o.below aa.o
     have aE:=lH ap;clear a7 ar a1 af ap
     have ad:t.length <= 1000000000:=by
      have h1:=congrArg List.length ai.o;rw[List.length_append] at h1;have Y:=ak.o;have h3:=ae.o;omega
     have an:=zy ay.o U.o;have a3:=lH an;clear an
     go_wp2_with (at_builtin;refine wpList_append_own _ rfl (.tmp 35) (.tmp 37) 152 rfl (w.heap.size+1) 9 i0 (.string ⟨#[]⟩) 1 16 underlying152 bh bv bw bz rfl dC _ _ _ rfl (a3.o.alloc _) ⟨G.heap.size,0,none⟩ 1 1 [.string X] rfl rfl ?c1 ?c2 ?c3 ?c4 ?c5 ?_)
     case c1=>
      intro j u T
      rcases j with _ | j
      ·simp at T;subst T;simp[Addr.add]
      ·simp at T
     case c2=>intro u hu;simp at hu;subst hu;rfl
     case c3=>unfold maxLen;omega
     case c4=>omega
     case c5=>
      have h1:=a8.o.lt;have Y:=U.o.size;have h3:=(iV G (.cells #[.string X] 9)).2.1;omega
     ·intro v' w1 am aj al;have aC:=lH am;have ab:=lH aj;have bJ:=lH al;clear am aj al;go_wp2_with fail
      go_roundg F
      case measure=>rw[be.o,a4.o];exact Nat.div_lt_self a5 dC
      case rel=>
       have ac:=(iV G (.cells #[.string X] 9)).2.2;have aU:U32 w1 (some ⟨gq,0,none⟩) (ek F):= .inl bL.o
       have ah:Below w.heap.size w w1:=by
        have h0:=ag.o.trans (U.o.mono ag.o.size);have h1:=h0.trans (ac.mono h0.size);refine h1.grown ab.o h1.size ?_;intro k hk;have:=(a3.o.lt k hk).1;omega
       have aX:Row w1 w.heap.size 103 [.bool s, .slice A (ek n).length O]:=by
        have h0:=(a8.o.below U.o a8.o.lt);have h1:=h0.below ac h0.lt;refine(ab.o.block w.heap.size h1.lt ?_).trans h1;intro he;have:=(a3.o.lt _ he.symm).1;omega
       have aQ:w1.ownsRow (w.heap.size+1) 9 1 v' (t++ [jA m]).length ((t++ [jA m]).map kz):=by
        have h0:=aC.o;rw[aG.o] at h0;rw[List.length_append,List.map_append];exact h0
       refine⟨F,t++ [jA m],some ⟨gq,0,none⟩,cq,rfl,lH rfl,aS,aT,aU,lH (fun b a6 e=>by simp only[Option.some.injEq,Addr.mk.injEq,and_true] at e;exact .inr e.2.symm),lH aQ,lH ?_,lH ?_,lH (fun h=>by simp at h),lH (fun h=>by simp),lH aX,lH ?_,lH ah,lH (pz b7.o ah)⟩
       ·rw[ai.o,xC a5, <- a4.o];simp
       ·have h1:=ak.o
        have Y:0<(jA m).length:=by
         unfold jA;split
         ·rw[Lib.decDigits];split <;> simp
         ·rw[xB];omega
        simp at h1 ⊢;omega
       ·exact Nat.le_trans (iO (by rw[a4.o];exact Nat.div_le_self _ _)) aM.o
   ·have a5:m=0:=oI.1 oM;have bf:t≠ []:=aP.out a5;have aL:Lib.decDigits n=t.reverse.flatten:=by have:=ai.o;unfold ahead at this;rwa [if_pos a5,List.nil_append] at this
    have ad:t.length <= 1000000000:=by
     have h1:=congrArg List.length aL;have Y:=ak.o;have h3:=ae.o;omega
    have bg:u3≠ .slice none 0 0:=by
     intro e;have h1:=ay.o;rw[e] at h1;have Y:=h1.1
     rcases h1.2 with ⟨_,h3⟩ | ⟨_,_,_,h3,_⟩
     ·exact bf (by simpa using h3)
     ·simp at h3
    obtain⟨g1,cap,rfl,bW,hO⟩:=Own.yn ay.o bg;have HO:=lH hO;have bF:=lH aL;have bH:=lH ad;have cc:decide (0<(ek m).length)=false:=decide_eq_false oM;have cd:decide ((0:Int)<(((ek m).length:Nat):Int))=false:=decide_eq_false hm;clear hO aL bf bg a5 bW ad hm;go_wp2_with fail
    have ad:=bH.o;refine(Tryz.slices_Reverse_string_cells g1 0 t.length cap (fun i=>⟨(t.getD i []).toArray⟩) wr oM (fun i hi=> ?_) (fun j _=>HO.o.free _)).mono ?_
    ·rw[Nat.zero_add,HO.o.cell (by rw[List.length_map];exact hi)];simp[hi,kz]
    rintro e E ⟨rfl,q,aA⟩;have cf:=HO.o.lt
    have bo:Lib.strsOf (fun i=>⟨(t.getD i []).toArray⟩) t.length=t:=by
     apply List.ext_getElem
     ·rw[Lib.strsOf_length]
     ·intro i h1 Y;simp[Lib.strsOf,Y]
    rw[bo] at aA
    have bc:∀ (j:Nat) (x:ByteArray),(t.reverse.map (fun l=>(⟨l.toArray⟩:ByteArray)))[j]? =some x -> E.cell? ⟨g1,0+j,none⟩=some (.string x):=by
     intro j x hx
     have T:j<t.length:=by
      have:=(List.getElem?_eq_some_iff.1 hx).1
      simpa using this
     rw[aA,World.cell?_setCells_in g1 _ 0 _ (fun i hi=> ?_) j (by simpa using T)]
     ·rw[List.getElem?_map] at hx;simp only[List.getElem_map];rw[List.getElem?_eq_getElem (by simpa using T)] at hx;simp only[Option.map_some,Option.some.injEq] at hx;rw[<- hx]
      first | done | rfl
     ·rw[List.length_map,List.length_reverse] at hi;rw[Nat.zero_add];show(wr.cell? ⟨g1,i,none⟩).isSome=true;rw[HO.o.cell (by rw[List.length_map];exact hi)];simp[hi]
    have R:Below g1 wr E:=by
     rw[aA];exact(below_drewN g1 wr q).trans (Lib.below_setCells_w (Nat.le_refl _) _ _ _)
    have bm:Row E w.heap.size 103 [.bool s, .slice A (ek n).length O]:=a8.o.below R oM;have bb:Below w.heap.size w E:=ag.o.trans (R.mono oM);have cj:=R.size;have bE:=lH bc;have b3:=lH bm;have bB:=lH bb;clear bc bm bb R bo aA;go_wp2_with fail
    have aJ:=bB.o
    have bi:(Lib.join ((t.reverse.map (fun l=>(⟨l.toArray⟩:ByteArray))).map (·.data.toList)) (⟨#[]⟩:ByteArray).data.toList)=Lib.decDigits n:=by
     show Lib.join _ []=_;rw[DI,List.map_map,bF.o];refine congrArg List.flatten ((List.map_congr_left (fun l _=> ?_)).trans (List.map_id _));rfl
    have HJ:=lH bi;clear bi;have aB:(t.reverse.map (fun l=>(⟨l.toArray⟩:ByteArray))).length=t.length:=by rw[List.length_map,List.length_reverse]
    have aY:=Tryz.strings_Join g1 0 cap (t.reverse.map (fun l=>(⟨l.toArray⟩:ByteArray))) ⟨#[]⟩ E bE.o oM (by rw[aB];omega) (by have:=HO.o.le;rw[List.length_map] at this;rw[aB];exact this.1) (by rw[HJ.o];have:=ae.o;omega);rw[aB] at aY;refine aY.mono ?_;clear aY aB;rw[HJ.o];rintro e w3 ⟨rfl,a0⟩;have c0:=(b3.o.below a0 b3.o.lt).at_ 0 rfl;have b1:=lH (aJ.trans (a0.mono aJ.size));have bn:=HS.o;obtain⟨S,hS⟩:∃S:ByteArray,S=⟨(Lib.decDigits n).toArray⟩:=⟨_,rfl⟩
    rw[<- hS]
    have bp:S.size <= 1000000000:=by
     rw[hS];show(Lib.decDigits n).toArray.size <= _;rw[List.size_toArray];exact ae.o
    have b6:=lH hS;have b4:=lH bn;have c6:=lH bp
    have bx:(⟨#[45]⟩:ByteArray).size+S.size <= 9223372036854775807:=by
     show 1+S.size <= _;omega
    clear hS bn a0 aJ bp ad;cases s
    ·have bR:S=txt a:=by
      have h1:=b4.o;rw[b6.o,HN.o];unfold txt;rw[iW (by simpa using h1)]
     clear bx;go_wp2_with fail
     go_returns;exact⟨rfl,b1.o⟩
    ·have bR:(⟨#[45]⟩:ByteArray)++S=txt a:=by
      have h1:=b4.o;rw[b6.o,HN.o];unfold txt;rw[itoa_neg (by simpa using h1)];apply ByteArray.ext;simp
     go_wp2_with fail
     go_returns;exact⟨rfl,b1.o⟩
end
section
open Go.RowKit
open Lp (RL upd eu)
def Tab(w:World):Prop:=Lib.TabIs prog w "internal/strconv.uint64pow10" .u64 Lib.pow10Tab
theorem Tab.below{w w':World}(h:Tab w)(t:Below w.heap.size w w'):Tab w':=pz h t
theorem vF(h:Value)(a:Int)(k:Nat)(w:World)(E:eQ w h a)(t:a.natAbs<10^k)(G:k <= 1000000)(F:Tab w):
  Calls prog 107 #[h] w fun e w'=>e= .returned (.string (txt a)) /\ Below w.heap.size w w':=
 G8 h a w E (by have:=jQ (Nat.lt_of_lt_of_le t (Nat.pow_le_pow_left dC k));omega) (by have:=nJ k _ (Nat.lt_of_lt_of_le t (Nat.pow_le_pow_right dC oM));omega) F
theorem zA{a:Int}{k:Nat}(E:a.natAbs<10^k)(F:k <= 1000000):(txt a).size <= 1000002:=by
 have h:=nJ k _ (Nat.lt_of_lt_of_le E (Nat.pow_le_pow_right dC oM));rw[show(txt a).size=(Lib.itoa a).length by unfold txt;rfl];by_cases t:a<0
 ·rw[itoa_neg t,List.length_cons];omega
 ·rw[iW t];omega
theorem sS{q:Rat}(h:q.den≠1):txt q.num++ ⟨#[47]⟩++txt (q.den:Int)=eF q:=by
 have h1:(txt q.num++ ⟨#[47]⟩++txt (q.den:Int)).data.toList=(eF q).data.toList:=by
  rw[jI,qp h];have t:Lib.itoa (q.den:Int)=Lib.decDigits q.den:=by rw[iW oM,Int.natAbs_natCast]
  simp[txt,t]
 have E:∀a b:ByteArray,a.data.toList=b.data.toList -> a=b:=by
  intro a b h;cases a with
  | mk F=>
   cases b with
   | mk G=>
    congr 1;exact Array.toList_inj.1 h
 exact E _ _ h1
end
section
open Go.RowKit
theorem gz(D:ByteArray):D.data.toList.length=D.size:=by rw[Array.length_toList];rfl
theorem nY(D:ByteArray)(k:Nat)(h:k<D.size):D[k]=D.data.toList[k]'(by rw[gz];exact h):=by rw[Array.getElem_toList];rfl
theorem G9{l:List UInt8}{k:Nat}(h:∀c ∈ l.take k,c≠47)(E:l[k]? =some 47):(eH l).length=k /\ eH l=l.take k /\ fG l=47::l.drop (k+1):=by
 have G:k<l.length:=by
  rcases Nat.lt_or_ge k l.length with F | F
  ·exact F
  ·rw[List.getElem?_eq_none F] at E;cases E
 have e:l=l.take k++47::l.drop (k+1):=by
  have h1:=List.take_append_drop k l;have t:=List.drop_eq_getElem_cons G;rw[List.getElem?_eq_getElem G] at E;rw[Option.some.inj E] at t;rw[<- t,h1]
 obtain⟨h1,t⟩:=rO (b:=l.drop (k+1)) h;rw[<- e] at h1 t;exact⟨by rw[h1,List.length_take];omega,h1,t⟩
def fQ(l:List UInt8):List UInt8:=if fG l= [] then [49] else fJ l
section
variable (s:ByteArray) (w:World)
theorem vG(k:Nat)(h:k<s.size):∃x:Nat,s[k].toNat=x /\ x<256 /\ s.data.toList[k]? =some s[k] /\ s.data.toList.take (k+1)=s.data.toList.take k++ [s[k]]:=by
 have t:k<s.data.toList.length:=by rw[gz];exact h
 refine⟨_,rfl,UInt8.toNat_lt _,?_,?_⟩
 ·rw[List.getElem?_eq_getElem t,nY s k h]
 ·rw[nY s k h];exact List.take_succ_eq_append_getElem t
set_option maxHeartbeats 1600000 in
theorem zB(Y:s.size <= 1000000000):Calls prog 94 #[.string s] w fun e w'=>e= .returned (.int .i64 ((eH s.data.toList).length:Nat)) /\ w'=w:=by
 have HS:=lH Y;have a3:((s.size:Nat):Int) <= 1000000000:=oM
 clear Y;go_enter func94,ntmps94;go_wp2_with fail
 go_loop [3] (fun O=>∃k:Nat,((k:Nat):Int) <= ((s.size:Nat):Int) /\ O= .int .i64 k /\ Hid (∀c ∈ s.data.toList.take k,c≠47)) (fun O=>s.size-(intOf O).toNat)
 case atStart=>exact⟨0,by omega,rfl,lH (fun c t=>by simp at t)⟩
 case round=>
  obtain⟨k,hk,rfl,M⟩:=hrel;by_cases a2:((k:Nat):Int)<((s.size:Nat):Int)
  ·have a1:k<s.size:=oM
   obtain⟨x,hx,_,U,Z⟩:=vG s k a1
   have T:s[k]=47↔x=47:=by
    rw[<- hx];exact⟨fun h=>by rw[h];rfl,fun h=>UInt8.toNat_inj.1 (by rw[h];rfl)⟩
   have HG:=lH U;have a0:=lH Z;have R:=lH T;clear U Z T;by_cases F:x=47
   ·have E:(eH s.data.toList).length=k:=(G9 M.o (by rw[HG.o,R.o.2 F])).1;have G:=lH E;clear E;subst F;go_wp2_with fail
    go_returns;exact⟨by rw[G.o];rfl,rfl⟩
   ·have a4:(((x:Nat):Int)==47)=false:=by rw[beq_eq_false_iff_ne];omega
    have HX:=lH F;clear F;go_wp2_with fail
    go_round
    case rel=>
     refine⟨k+1,by omega,by go_num,lH (fun c t=> ?_)⟩;rw[a0.o,List.mem_append,List.mem_singleton] at t
     rcases t with t | t
     ·exact M.o c t
     ·rw[t];exact fun e=>HX.o (R.o.1 e)
    case measure=>simp[intOf];omega
  ·have X:k=s.size:=oM
   have E:eH s.data.toList=s.data.toList:=(xJ (by
    have:=M.o;rw[X,List.take_of_length_le (by rw[gz];exact Nat.le_refl _)] at this
    exact this)).1
   have G:=lH E;clear E X;go_wp2_with fail
   go_returns;exact⟨by rw[G.o,gz];rfl,rfl⟩
set_option maxHeartbeats 1600000 in
theorem qQ(hs:s.size <= 1000000000):Calls prog 109 #[.string s] w fun e w'=>e= .returned (.bool (dgs s.data.toList)) /\ w'=w:=by
 have ad:((s.size:Nat):Int) <= 1000000000:=oM
 clear hs;obtain⟨r,G⟩:=eX (dgs s.data.toList);rw[<- G];have T:=lH G;clear G;go_enter func109,ntmps109;go_wp2_with fail
 go_loop [3] (fun O=>∃k:Nat,((k:Nat):Int) <= ((s.size:Nat):Int) /\ O= .int .i64 k /\ Hid (∀c ∈ s.data.toList.take k,gm c=true)) (fun O=>s.size-(intOf O).toNat)
 case atStart=>exact⟨0,by omega,rfl,lH (fun c t=>by simp at t)⟩
 case round=>
  obtain⟨k,hk,rfl,Z⟩:=hrel;by_cases ac:((k:Nat):Int)<((s.size:Nat):Int)
  ·have a7:k<s.size:=oM
   obtain⟨x,hx,_,a0,a3⟩:=vG s k a7;have F:= @kS s[k];rw[hx] at F
   have U:(¬(48 <= x /\ x <= 57)) -> r=false:=fun hb=>by
    rw[T.o];unfold dgs
    have E:gm s[k]=false:=by
     rcases hq:gm s[k] with _ | _
     ·rfl
     ·exact absurd (F.1 hq) hb
    rw[Bool.and_eq_false_iff];refine .inr ?_;rw[<- Bool.not_eq_true,List.all_eq_true];intro h3;have:=h3 _ (List.mem_of_getElem? a0);rw[E] at this;exact absurd this (by simp)
   have R:=lH U;have a6:=lH a3;have a4:=lH F;clear a0 a3 F U;by_cases X:((x:Nat):Int)<48
   ·have M:r=false:=R.o oM;subst M;go_wp2_with fail
    go_returns;exact⟨rfl,rfl⟩
   ·have a8:(48:Int) <= ((x:Nat):Int):=oM
    have a9:decide (((x:Nat):Int)<48)=false:=decide_eq_false X;clear X;by_cases Y:(57:Int)<((x:Nat):Int)
    ·have M:r=false:=R.o oM;subst M;go_wp2_with fail
     go_returns;exact⟨rfl,rfl⟩
    ·have aa:((x:Nat):Int) <= 57:=oM
     have ab:decide ((57:Int)<((x:Nat):Int))=false:=decide_eq_false Y;clear Y;go_wp2_with fail
     go_round
     case rel=>
      refine⟨k+1,by omega,by go_num,lH ?_⟩;intro c t;rw[a6.o,List.mem_append,List.mem_singleton] at t
      rcases t with t | t
      ·exact Z.o c t
      ·rw[t];exact a4.o.2 oM
     case measure=>simp[intOf];omega
  ·have a1:k=s.size:=oM
   have a2:r=decide (0<s.size):=by
    rw[T.o];unfold dgs;have h1:=Z.o;rw[a1,List.take_of_length_le (by rw[gz];exact Nat.le_refl _)] at h1;rw[List.all_eq_true.2 h1,Bool.and_true];refine decide_eq_decide.2 ⟨fun h=> ?_,fun h e=> ?_⟩
    ·have:=List.length_pos_iff.2 h;rw[gz] at this;omega
    ·have E:=gz s;rw[e] at E;simp at E;omega
   have a5:=lH a2;clear a2 a1;go_wp2_with fail
   go_returns;exact⟨by rw[a5.o];rfl,rfl⟩
set_option maxHeartbeats 1600000 in
theorem zC(hs:s.size <= 1000000000):Calls prog 110 #[.string s] w fun e w'=>e= .returned (.bool (s.data.toList.all (· ==48))) /\ w'=w:=by
 have a7:((s.size:Nat):Int) <= 1000000000:=oM
 clear hs;obtain⟨r,F⟩:=eX (s.data.toList.all (· ==48));rw[<- F];have O:=lH F;clear F;go_enter func110,ntmps110;go_wp2_with fail
 go_loop [3] (fun G=>∃k:Nat,((k:Nat):Int) <= ((s.size:Nat):Int) /\ G= .int .i64 k /\ Hid (∀c ∈ s.data.toList.take k,c=48)) (fun G=>s.size-(intOf G).toNat)
 case atStart=>exact⟨0,by omega,rfl,lH (fun c t=>by simp at t)⟩
 case round=>
  obtain⟨k,hk,rfl,T⟩:=hrel;by_cases a6:((k:Nat):Int)<((s.size:Nat):Int)
  ·have a2:k<s.size:=oM
   obtain⟨x,hx,_,U,Y⟩:=vG s k a2
   have R:s[k]=48↔x=48:=by
    rw[<- hx];exact⟨fun h=>by rw[h];rfl,fun h=>UInt8.toNat_inj.1 (by rw[h];rfl)⟩
   have Z:=lH U;have a0:=lH Y;have M:=lH R;clear U Y R;by_cases E:x=48
   ·have a1:=lH (M.o.2 E);subst E;go_wp2_with fail
    go_round
    case rel=>
     refine⟨k+1,by omega,by go_num,lH (fun c t=> ?_)⟩;rw[a0.o,List.mem_append,List.mem_singleton] at t
     rcases t with t | t
     ·exact T.o c t
     ·rw[t];exact a1.o
    case measure=>simp[intOf];omega
   ·have a3:r=false:=by
     rw[O.o, <- Bool.not_eq_true,List.all_eq_true];intro h3;have:=h3 _ (List.mem_of_getElem? Z.o);exact E (M.o.1 (by simpa using this))
    have a5:(((x:Nat):Int)==48)=false:=by rw[beq_eq_false_iff_ne];omega
    have a8:(((x:Nat):Int) !=48)=true:=by rw[bne,a5];rfl
    have a9:¬((x:Nat):Int)=48:=oM
    clear E;subst a3;go_wp2_with fail
    go_returns;exact⟨rfl,rfl⟩
  ·have X:k=s.size:=oM
   have a4:r=true:=by
    rw[O.o,List.all_eq_true];have h1:=T.o;rw[X,List.take_of_length_le (by rw[gz];exact Nat.le_refl _)] at h1;intro c t;rw[h1 c t];rfl
   clear X;subst a4;go_wp2_with fail
   go_returns;exact⟨rfl,rfl⟩
end
end
section
open Go.RowKit
theorem sU:txt 0=⟨#[48]⟩:=by unfold txt;rw[rJ]
theorem zD(a:Int):(txt a).size=(Lib.itoa a).length:=by
 unfold txt;show(Lib.itoa a).toArray.size=_;rw[List.size_toArray]
theorem vH(a:Int):0<(txt a).size:=by
 rw[zD];by_cases h:a<0
 ·rw[itoa_neg h];simp
 ·rw[iW h];exact rF _
theorem zF(a:Int)(j:Nat)(h:j<(txt a).size):(txt a)[j]=(Lib.itoa a)[j]'(by rw[<- zD];exact h):=rfl
theorem Ga(a b:Int):((txt a).toList== (txt b).toList)=decide (a=b):=by
 rw[ByteArray.toList_eq,ByteArray.toList_eq,jS,jS];by_cases h:a=b
 ·subst h;simp
 ·rw[decide_eq_false h,beq_eq_false_iff_ne];exact fun e=>h (qj e)
theorem vI{a:Int}(h:a≠0):((txt a).toList== [48])=false:=by
 have:=Ga a 0;rw[decide_eq_false h,sU,ByteArray.toList_eq ⟨#[48]⟩] at this;exact this
theorem Gb{a:Int}(h:a<0):(txt a)[0]'(vH a)=45:=by
 rw[zF];simp[itoa_neg h]
theorem Gc{a:Int}(h:¬a<0):gm ((txt a)[0]'(vH a))=true:=by
 rw[zF];refine mO a.natAbs _ ?_;rw[<- iW h];exact List.getElem_mem _
theorem iy(a:Int)(w:World):
  Calls prog 71 #[.string (txt a)] w fun e w'=>e= .returned (.int .i64 (sgI a)) /\ w=w':=by
 by_cases h0:a=0
 ·subst h0;rw[sU];go_enter func71,ntmps71;go_wp2_with fail
  go_returns;exact⟨rfl,rfl⟩
 ·have G:=vI h0;have M:=vH a;have t:= @Gb a;have E:= @Gc a;obtain⟨S,F⟩:=eX (txt a);simp only[<- F] at t E G M ⊢;obtain⟨x,O⟩:∃x:Nat,(S[0]).toNat=x:=⟨_,rfl⟩
  by_cases h:a<0
  ·have h1:S[0].toNat=45:=by rw[t h];rfl
   rw[show sgI a= -1 by unfold sgI;rw[if_pos h]];clear t E O;clear F;go_enter func71,ntmps71;go_wp2_with fail
   go_returns;exact⟨rfl,rfl⟩
  ·have h1:((x:Int)==45)=false:=by
    have:=kS.1 (E h);rw[beq_eq_false_iff_ne];omega
   rw[show sgI a=1 by unfold sgI;rw[if_neg h,if_neg h0]];clear t E;clear F;go_enter func71,ntmps71;go_wp2_with fail
   go_returns;exact⟨rfl,rfl⟩
end
section
open Go.RowKit
def D64(w:World)(A:Option Addr)(l:List Nat):Prop:=Cells w A l.length (fun j=> .int .i64 (dg l j:Nat))
theorem D64.below{w w':World}{A:Option Addr}{l:List Nat}(h:D64 w A l)(t:Below w.heap.size w w'):D64 w' A l:=Cells.below h t
theorem D64.trimmed{w:World}{A:Option Addr}{l:List Nat}(h:D64 w A l)(E:T.Dig l):D64 w A (T.ek (T.val l)):=by
 obtain⟨h1,t⟩:=T.qc E;refine(Cells.take h h1).congr fun j F=> ?_
 rw[<- t,nE,if_pos F]
def IsD(w:World)(v:Value)(l:List Nat):Prop:=∃A c,v= .slice A l.length c /\ l.length <= c /\ c <= maxLen /\ D64 w A l
theorem IsD.below{w w':World}{v:Value}{l:List Nat}(h:IsD w v l)(t:Below w.heap.size w w'):IsD w' v l:=by
 obtain⟨A,c,M,F,E,G⟩:=h;exact⟨A,c,M,F,E,Cells.below G t⟩
theorem qR:(prog.info? 3).map (fun i=>(i.zero,i.size,i.bytes))=some (some (.int .i64 0),1,8):=by kernel_rfl
def dV(d:Nat):Value:= .int .i64 (d:Nat)
theorem sV{l:List Nat}{j:Nat}(h:j<l.length):(l.map dV)[j]? =some (.int .i64 (dg l j:Nat)):=by
 rw[jG h];simp[h,dV]
theorem zG{w:World}{base n:Nat}{e:TypeId}{v:Value}{l:List Nat}(h:w.ownsRow base e 1 v n (l.map dV)):IsD w v l:=by
 have O:n=l.length:=by have:=h.1;rw[List.length_map] at this;omega
 subst O
 rcases h.2 with ⟨rfl,t⟩ | ⟨g,cap,T,rfl,_,F,h1,E,U,X⟩
 ·have M:l= []:=by simpa using t
  subst M;exact⟨none,0,rfl,Nat.le_refl _,by unfold maxLen;omega, .inl rfl⟩
 ·refine⟨some ⟨g,0,none⟩,cap,rfl,h1,E, .inr ⟨g,0,rfl,fun j G=> ?_,_,_,_,F,fun z R=>by simp at R⟩⟩;rw[Nat.zero_add,World.ownsRow.cellAt h j oM];exact sV G
theorem zH{w w':World}{base size n:Nat}{e:TypeId}{v:Value}{xs:List Value}(h:w.ownsRow base e size v n xs)(F:Below w.heap.size w w'):w'.ownsRow base e size v n xs:=by
 refine⟨h.1,?_⟩
 rcases h.2 with M | ⟨g,cap,E,rfl,G,t,rest⟩
 ·exact .inl M
 ·exact .inr ⟨g,cap,E,rfl,G,(F.block g (Array.getElem?_eq_some_iff.1 t).1).trans t,rest⟩
theorem Cells.grown{w w':World}{A:Option Addr}{n B:Nat}{r:Option Nat}{f:Nat -> Value}(h:Cells w A n f)(T:∀b t,A=some ⟨b,t,none⟩ -> b<B)(F:w.grownBy w' r)(U:∀k,r=some k -> B <= k):Cells w' A n f:=by
 rcases h with h | ⟨b,t,E,O,M⟩
 ·exact .inl h
 ·have G:some b≠r:=by
   intro e;have h1:=U _ e.symm;have X:=T b t E;omega
  refine .inr ⟨b,t,E,fun j R=>F.cell (O j R) G,M.mJ (F.block b ?_ G)⟩;obtain⟨_,_,_,h1,_⟩:=M;exact(Array.getElem?_eq_some_iff.1 h1).1
def iC(w:World)(base:Nat)(e:TypeId)(v:Value)(xs:List Value):Prop:=w.ownsRow base e 1 v xs.length xs
theorem iC.nil(w:World)(base:Nat)(e:TypeId):iC w base e (.slice none 0 0) []:=World.ownsRow_nil _ _ _ _
theorem iC.below{w w':World}{base:Nat}{e:TypeId}{v:Value}{xs:List Value}(h:iC w base e v xs)(t:Below w.heap.size w w'):iC w' base e v xs:=zH h t
theorem iC.isD{w:World}{base:Nat}{e:TypeId}{v:Value}{l:List Nat}(h:iC w base e v (l.map dV)):IsD w v l:=zG h
theorem mX{P:Program}(w:World){ops:Array Oper}{rest:List Oper}{o:Oper}{a:Act}{Q:Exit -> Act -> World -> Prop}(X:o.guard=none)(s x:Operand)(t:TypeId)
  (ho:o.op= .call {callee:= .builtin .append,args:= #[s,x],argTypes:= #[t,t]})
  (base:Nat) (e:TypeId) (i:TypeInfo) (z:Value) (F:Nat) (ht:P.underlying t=some (.slice e)) (Z: P.info? e=some i) (hz:i.zero=some z)
  (a1:i.size=1) (U:i.bytes=F) (a2:z.cells.size=1)
  (v:Value) (xs:List Value) (hs:a.eval s=v) (R:iC w base e v xs)
  (u:Value) (h1:u.oneCell'=true) (hx:a.eval x= .slice (some ⟨w.heap.size,0,none⟩) 1 1)
  (O:xs.length+1 <= maxLen /\ (xs.length+1)*F <= 140737488355328) (G:base <= w.heap.size)
  (h:∀v' w',iC w' base e v' (xs++ [u]) -> Below base w w' -> wpList P ops Q rest (a.put o.dst v') w'):wpList P ops Q (o::rest) a (w.alloc (.cells #[u] e)):=by
 have E:=(iV w (.cells #[u] e)).2.2;refine wpList_append_own _ X s x t ho base e i z 1 F ht Z hz a1 U a2 dC v xs.length xs hs (zH R E) ⟨w.heap.size,0,none⟩ 1 1 [u] hx rfl ?_ ?_ O.1 O.2 (Nat.le_trans G E.size) ?_
 ·intro j y M
  rcases j with _ | j
  ·simp at M;subst M;simp[Addr.add]
  ·simp at M
 ·intro y T;simp at T;subst T;exact h1
 ·intro v' w' a0 Y _;refine h v' w' (by unfold iC;rw[List.length_append];exact a0) ?_;refine(E.mono G).grown Y (Nat.le_trans G E.size) ?_;intro k hk;exact(R.lt k hk).1
def iH(B:Nat)(w:World)(v:Value)(l:List Nat):Prop:=
 (v= .slice none 0 0 /\ l= []) \/ ∃b off c,v= .slice (some ⟨b,off,none⟩) l.length c /\ B <= b /\ b<w.heap.size /\ l.length <= c /\ c <= maxLen /\ D64 w (some ⟨b,off,none⟩) l
theorem iH.nil(B:Nat)(w:World):iH B w (.slice none 0 0) []:= .inl ⟨rfl,rfl⟩
theorem iH.isD{B:Nat}{w:World}{v:Value}{l:List Nat}(h:iH B w v l):IsD w v l:=by
 rcases h with ⟨rfl,rfl⟩ | ⟨b,F,c,rfl,_,_,h1,t,E⟩
 ·exact⟨none,0,rfl,Nat.le_refl _,by unfold maxLen;omega, .inl rfl⟩
 ·exact⟨_,_,rfl,h1,t,E⟩
theorem iH.below{B:Nat}{w w':World}{v:Value}{l:List Nat}(h:iH B w v l)(t:Below w.heap.size w w'):iH B w' v l:=by
 rcases h with h | ⟨b,M,c,rfl,h0,G,h1,E,F⟩
 ·exact .inl h
 ·exact .inr ⟨b,M,c,rfl,h0,Nat.lt_of_lt_of_le G t.size,h1,E,Cells.below F t⟩
theorem iH.mono{B B':Nat}{w:World}{v:Value}{l:List Nat}(h:iH B w v l)(G:B' <= B):iH B' w v l:=by
 rcases h with h | ⟨b,M,c,rfl,h0,F,h1,t,E⟩
 ·exact .inl h
 ·exact .inr ⟨b,M,c,rfl,Nat.le_trans G h0,F,h1,t,E⟩
theorem iH.set{B g i:Nat}{w:World}{v x:Value}{l:List Nat}(h:iH B w v l)(U:g<B):iH B (w.setCell ⟨g,i,none⟩ x) v l:=by
 rcases h with h | ⟨b,E,c,rfl,h0,M,h1,G,t⟩
 ·exact .inl h
 ·refine .inr ⟨b,E,c,rfl,h0,by simpa using M,h1,G,?_⟩
  rcases t with t | ⟨b',X,F,O,T⟩
  ·exact .inl t
  ·simp only[Option.some.injEq,Addr.mk.injEq,and_true] at F;obtain⟨rfl,rfl⟩:=F;exact .inr ⟨b,E,rfl,fun j R=>(cell_far w g i b (E+j) x oM).trans (O j R),T.mJ (heap_setCell_other w ⟨g,i,none⟩ b x (by simp;omega))⟩
theorem iC.fresh{w:World}{base:Nat}{e:TypeId}{v:Value}{l:List Nat}(h:iC w base e v (l.map dV)):iH base w v l:=by
 have t:w.ownsRow base e 1 v l.length (l.map dV):=by have:=h;unfold iC at this;rwa [List.length_map] at this
 rcases t.2 with ⟨rfl,O⟩ | ⟨g,cap,T,rfl,G,E,h1,F,U,X⟩
 ·exact .inl ⟨rfl,List.eq_nil_of_length_eq_zero O⟩
 ·refine .inr ⟨g,0,cap,rfl,G,(Array.getElem?_eq_some_iff.1 E).1,h1,F, .inr ⟨g,0,rfl,fun j M=> ?_,_,_,_,E,fun z R=>by simp at R⟩⟩;rw[Nat.zero_add,World.ownsRow.cellAt t j oM];exact sV M
end
section
open Go.RowKit
theorem sW(A:Option Addr)(n c:Nat)(l:List Nat)(w:World)(hn:n=l.length)(hc:n <= c)(hm:c <= maxLen)(h:D64 w A l)(hd:T.Dig l):
  Calls prog 123 #[.slice A n c] w fun e w'=>e= .returned (.slice A (T.ek (T.val l)).length c) /\ (T.ek (T.val l)).length <= l.length /\ w=w':=by
 unfold maxLen at hm;subst hn;obtain⟨M,O⟩:∃M:Nat -> Prop,∀k,M k↔(k <= l.length /\ (∀j,k <= j -> j<l.length -> dg l j=0) /\ (0<k -> dg l (k-1)≠0)):=⟨_,fun _=>Iff.rfl⟩
 have a0:Calls prog 123 #[.slice A l.length c] w fun e w'=>(∃k,M k /\ e= .returned (.slice A k c)) /\ w=w':=by
  have R:=lH O;clear O;go_enter func123,ntmps123
  go_wp2
  go_loop [3] (fun v=>∃k:Nat,k <= l.length /\ v= .int .i64 k /\ (∀j,k <= j -> j<l.length -> dg l j=0)) (fun v=>(intOf v).toNat)
  case atStart=>exact⟨l.length,Nat.le_refl _,rfl,fun j h1 E=>absurd h1 oM⟩
  case round=>
   obtain⟨k,F,rfl,X⟩:=hrel;have G:=lH X;clear X;by_cases h0:0<k
   ·obtain⟨b,a2,rfl,hb,U⟩:=Cells.at_ h oM;have a1:=U (k-1) oM;have H:=lH h;clear U h;have t:(0:Int)<(k:Nat):=oM
    go_wp2
    ·have t:(((dg l (k-1):Nat):Int)==0)=true:=by assumption
     have Y:dg l (k-1)=0:=by simpa using t
     go_round
     case rel=>
      refine⟨k-1,by omega,by first | rfl | (congr 1;omega),fun j h1 E=> ?_⟩;by_cases hj:j=k-1
      ·rw[hj];exact Y
      ·exact G.o j oM E
     case measure=>simp[intOf];omega
    ·have t:(((dg l (k-1):Nat):Int)==0)=false:=by assumption
     go_ret
     exact⟨⟨k,(R.o k).2 ⟨F,G.o,fun _ h=>by rw[h] at t;simp at t⟩,by simp⟩,rfl⟩
   ·obtain rfl:k=0:=oM
    go_wp2
    go_ret
    exact⟨⟨0,(R.o 0).2 ⟨F,G.o,fun h=>absurd h oM⟩,by simp⟩,rfl⟩
 refine a0.mono ?_;rintro e w' ⟨⟨k,F,he⟩,hw⟩;obtain⟨h1,E,Z⟩:=(O k).1 F;have ht:=T.uB hd h1 E Z;have hl:(T.ek (T.val l)).length=k:=by rw[<- ht,List.length_take];omega
 exact⟨by rw[hl];exact he,by omega,hw⟩
theorem zI(B:Nat)(v:Value)(l:List Nat)(w:World)(h:iH B w v l)(t:T.Dig l):
  Calls prog 123 #[v] w fun e w'=>∃v',e= .returned v' /\ iH B w v' (T.ek (T.val l)) /\ w=w':=by
 rcases h with ⟨rfl,rfl⟩ | ⟨b,M,c,rfl,h0,G,h1,E,F⟩
 ·refine(sW none 0 0 [] w rfl (Nat.le_refl _) (by unfold maxLen;omega) (.inl rfl) t).mono ?_;rintro e w' ⟨rfl,_,rfl⟩;have e:T.ek (T.val [])= []:=by show T.ek 0= [];exact T.gJ
  rw[e];exact⟨_,rfl, .inl ⟨rfl,rfl⟩,rfl⟩
 ·refine(sW _ _ c l w rfl h1 E F t).mono ?_;rintro e w' ⟨rfl,O,rfl⟩;exact⟨_,rfl, .inr ⟨b,M,c,rfl,h0,G,by omega,E,F.trimmed t⟩,rfl⟩
end
section
open Go.RowKit
theorem byte_at{s:ByteArray}{t:List Nat}{neg:Bool}(R:s.data.toList=(if neg then [45] else [])++t.reverse.map chr)(F:s.size=t.length+ (if neg then 1 else 0))(G:T.Dig t){j:Nat}(M:j<s.size):
  if s.size-(j+1)<t.length then s[j].toNat=48+dg t (s.size-(j+1)) else s[j].toNat=45:=by
 have e:s[j]=s.data.toList[j]'(by rw[Array.length_toList];exact M):=by rw[Array.getElem_toList];rfl
 rw[e]
 have U:∀ (l:List UInt8) (O:j<l.length),l=(if neg then [45] else [])++t.reverse.map chr -> if s.size-(j+1)<t.length then(l[j]).toNat=48+dg t (s.size-(j+1)) else(l[j]).toNat=45:=by
  intro l O h;subst h;have E:=G (s.size-(j+1));cases neg
  ·simp only[Bool.false_eq_true,if_false,Nat.add_zero] at F;rw[if_pos oM];simp only[Bool.false_eq_true,if_false,List.nil_append,List.getElem_map,List.getElem_reverse];rw[<- qh E,jG oM];congr 3;omega
  ·simp only[if_true] at F
   rcases j with _ | j
   ·rw[if_neg oM];rfl
   ·rw[if_pos oM];simp only[if_true,List.singleton_append,List.getElem_cons_succ,List.getElem_map,List.getElem_reverse];rw[<- qh E,jG oM];congr 3;omega
 exact U _ _ R
theorem Gd{t:List Nat}{k:Nat}(h:k<t.length):(t.take (k+1)).map dV=(t.take k).map dV++ [.int .i64 (dg t k:Nat)]:=by
 rw[List.take_succ_eq_append_getElem h,List.map_append,jG h];rfl
set_option maxHeartbeats 400000 in
theorem zJ(s:ByteArray)(h:List Nat)(neg:Bool)(w:World)(Y:s.data.toList=(if neg then [45] else [])++h.reverse.map chr)(hd:T.Dig h)(hl:h.length <= 1099511627776):
  Calls prog 98 #[.string s] w fun e w'=>∃v,e= .returned v /\ IsD w' v (T.ek (T.val h)) /\ Below w.heap.size w w':=by
 obtain⟨i0,ag,aj,ak,al⟩:=info_parts qR
 have X:s.size=h.length+ (if neg then 1 else 0):=by
  have:=congrArg List.length Y;rw[List.length_append,List.length_map,List.length_reverse] at this;have e:s.size=s.data.toList.length:=by rw[Array.length_toList];rfl
  rw[e,this];cases neg <;> simp <;> omega
 have a9:s.size <= 1099511627777:=by rw[X];split <;> omega
 have a4:h.length <= s.size:=by rw[X];omega
 have ap:s.size <= 9223372036854775807:=oM
 have HS:=lH Y;have ae:=lH X;have O:=lH hd;have a3:=lH a9;have HL:=lH hl;have ab:=lH a4;clear Y X hd a9 hl a4;go_enter func98,ntmps98
 go_wp2
 go_loopw [3,4] (fun ov Z wr=>∃j:Nat,j <= s.size /\ Z= .int .i64 ((j:Int)-1) /\ Hid (wr.ownsRow w.heap.size 3 1 ov (h.take (s.size-j)).length ((h.take (s.size-j)).map dV)) /\ Below w.heap.size w wr) (fun _ Z _=>(intOf Z+1).toNat)
 case atStart=>exact⟨s.size,Nat.le_refl _,by simp,lH (by rw[Nat.sub_self];exact World.ownsRow_nil _ _ _ _),by first | exact Below.refl _ _ | go_grown⟩
 case round=>
  obtain⟨j,R,rfl,M,G⟩:=hrel
  rcases j with _ | j
  ·have U:=M.o;rw[Nat.sub_zero,List.take_of_length_le ab.o] at U;obtain⟨A,c,hv,af,a5,a6⟩:=zG U;have HO:=lH U;have a1:=lH a6;clear U M a6;subst hv;go_wp2_with fail
   refine(sW _ _ _ h _ rfl af a5 a1.o O.o).mono ?_;rintro e w2 ⟨rfl,ao,rfl⟩;go_wp2_with fail
   go_returns;exact⟨_,rfl,⟨_,_,rfl,by omega,a5,a1.o.trimmed O.o⟩,G⟩
  ·have an:((j:Nat):Int)<(s.size:Nat):=oM
   have E:=byte_at HS.o ae.o O.o (j:=j) oM;obtain⟨x,hx⟩:∃x:Nat,s[j].toNat=x:=⟨_,rfl⟩
   rw[hx] at E;by_cases t:s.size-(j+1)<h.length
   ·rw[if_pos t] at E;have am:=O.o (s.size-(j+1));have aq:48 <= ((x:Nat):Int):=oM
    have ar:((x:Nat):Int) <= 57:=oM
    have ah:(((x:Nat):Int) !=45)=true:=by simp;omega
    have a8:(h.take (s.size-(j+1))).length=s.size-(j+1):=by rw[List.length_take];omega
    have F:=lH t;have a0:=lH E;have a2:=lH a8;clear t E a8
    go_wp2_with (at_builtin;refine wpList_append_own _ rfl (.tmp 16) (.tmp 22) 76 rfl w.heap.size 3 i0 (.int .i64 0) 1 8 underlying76 ag aj ak al rfl dC _ _ _ rfl (M.o.alloc _) ⟨wr.heap.size,0,none⟩ 1 1 [.int .i64 (((x:Nat):Int)-48)] rfl rfl ?c1 ?c2 ?c3 ?c4 ?c5 ?_)
    case c1=>
     intro j u R
     rcases j with _ | j
     ·simp at R;subst R;simp[Addr.add]
     ·simp at R
    case c2=>intro u hu;simp at hu;subst hu;rfl
    case c3=>have:=a3.o;rw[a2.o];unfold maxLen;omega
    case c4=>have:=a3.o;rw[a2.o];omega
    case c5=>
     have h1:=G.size;have h3:=size_alloc wr (.cells #[.int .i64 (((x:Nat):Int)-48)] 3);omega
    ·intro v' w1 aa a7 ai;have ad:=lH aa;have ac:=lH a7;clear aa a7 ai;go_wp2_with fail
     go_roundw
     case rel=>
      refine⟨j,by omega,by first | rfl | (congr 1;omega),lH ?_,?_⟩
      ·have h0:=ad.o;have e1:s.size-j=s.size-(j+1)+1:=oM
       rw[e1,List.length_take,Nat.min_eq_left (by have:=F.o;omega),Gd F.o];rw[Nat.min_eq_left (by have:=F.o;omega), <- List.map_take] at h0;have e2:((x:Nat):Int)-48=(dg h (s.size-(j+1)):Nat):=by have:=a0.o;omega
       rw[e2] at h0;exact h0
      ·have h1:=(iV wr (.cells #[.int .i64 (((x:Nat):Int)-48)] 3)).2.2;have h2:=G.trans (h1.mono G.size);refine h2.grown ac.o h2.size ?_;intro k t;have:=(M.o.lt k t).1;omega
     case measure=>exact mZ
   ·rw[if_neg t] at E;have ah:(((x:Nat):Int) !=45)=false:=by simp;omega
    have F:=lH t;have a0:=lH E;clear t E;go_wp2_with fail
    go_roundw
    case rel=>
     refine⟨j,by omega,by first | rfl | (congr 1;omega),lH ?_,G⟩;have h0:=M.o;rw[List.take_of_length_le (by have:=F.o;omega)] at h0 ⊢;exact h0
    case measure=>exact mZ
theorem jV(a:Int)(w:World)(E:(T.ek a.natAbs).length<1099511627776):
  Calls prog 98 #[.string (txt a)] w fun e w'=>∃v,e= .returned v /\ IsD w' v (T.ek a.natAbs) /\ Below w.heap.size w w':=by
 by_cases h0:a=0
 ·subst h0;have:=zJ (txt 0) [0] false w (by rw[jS,rJ];rfl) (T.Dig.cons oM T.Dig.nil) (by simp);rw[show T.val [0]=0 from rfl] at this;exact this
 ·have t:0<a.natAbs:=oM
  have:=zJ (txt a) (T.ek a.natAbs) (decide (a<0)) w (by
   rw[jS, <- xG _ _ t];congr 1;by_cases h:a<0
   ·rw[decide_eq_true h,if_pos rfl];omega
   ·rw[decide_eq_false h,if_neg (by simp)];omega) (T.fF _) oM
  rw[T.fu] at this;exact this
end
end Go.Proofs.YtdefghfjhgmpfaaGreatDoor
