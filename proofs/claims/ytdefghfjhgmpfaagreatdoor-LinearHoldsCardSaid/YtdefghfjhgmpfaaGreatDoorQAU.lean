/- Parts of this proof: Text LimQ QScan RSign RBase RTrim RDigits. -/
import Derived.Test.YtdefghfjhgmpfaaGreatDoorQAG
import Derived.Test.YtdefghfjhgmpfaaGreatDoorQAD
import Derived.Test.YtdefghfjhgmpfaaGreatDoorQAA
import Derived.Deep.LoopGhost
import Derived.Lib.AppendIntMem
import Derived.WalkKit
import Derived.Laws.IdiomCopy
import Derived.Deep.Upon
import Derived.Lib.EndianMore
import Derived.Test.YtdefghfjhgmpfaaGreatDoorQAS
import Derived.Test.YtdefghfjhgmpfaaGreatDoorQAC
import Derived.Test.YtdefghfjhgmpfaaGreatDoorQAE
import Derived.Test.YtdefghfjhgmpfaaGreatDoorQAH
namespace Go.Proofs.YtdefghfjhgmpfaaGreatDoor
section
open Go.RowKit
theorem infoStr:(Tryz.prog.info? 9).map (fun i=>(i.zero,i.size,i.bytes))=some (some (.string ⟨#[]⟩),1,16):=by kernel_rfl
theorem tab_keep{P:Program}{w w':World}{name:String}{k:IntKind}{zs:List Int}(h:Lib.TabIs P w name k zs)(hb:Below w.heap.size w w'):Lib.TabIs P w' name k zs:=by
 unfold Lib.TabIs World.var? at*;cases hg:P.globalNamed name with
 | none=>rw[hg] at h;simp at h
 | some g=>
  rw[hg] at h;simp only[Option.bind_some] at h ⊢
  rcases Nat.lt_or_ge g w.heap.size with hlt | hge
  ·rw[hb.block g hlt];exact h
  ·rw[Array.getElem?_eq_none hge] at h;simp at h
def strV(l:List UInt8):Value:= .string ⟨l.toArray⟩
theorem owns_below{w w':World}{base size n:Nat}{e:TypeId}{v:Value}{xs:List Value}(h:w.ownsRow base e size v n xs)(hb:Below w.heap.size w w'):w'.ownsRow base e size v n xs:=by
 refine⟨h.1,?_⟩
 rcases h.2 with hn | ⟨g,cap,cur,rfl,hbg,hgg,rest⟩
 ·exact .inl hn
 ·exact .inr ⟨g,cap,cur,rfl,hbg,(hb.block g (Array.getElem?_eq_some_iff.1 hgg).1).trans hgg,rest⟩
theorem owns_far{w:World}{base gq n:Nat}{v:Value}{gs:List (List UInt8)}{l:List Nat}(h:w.ownsRow base 9 1 v n (gs.map strV))(hn:0<n)(hu:U32 w (some ⟨gq,0,none⟩) l)(hl:0<l.length):v.ownBlock≠some gq:=by
 intro he;have hlen:n*1=(gs.map strV).length:=by have:=h.1;omega
 have hc: w.cell? ⟨gq,0,none⟩=some (.int .u32 (dg l 0:Nat)):=by
  rcases hu with h0 | ⟨b',off',hA,hc,_⟩
  ·omega
  ·simp only[Option.some.injEq,Addr.mk.injEq,and_true] at hA;obtain⟨rfl,rfl⟩:=hA;exact hc 0 hl
 rcases h.2 with ⟨rfl,_⟩ | ⟨g,cap,cur,hv,_⟩
 ·simp[Value.ownBlock] at he
 ·subst hv;simp only[Value.ownBlock,Option.some.injEq] at he;subst he;have h0:=World.ownsRow.cellAt h 0 (by omega);rw[hc] at h0
  rcases gs with _ | ⟨x,gs⟩
  ·simp at hlen;omega
  ·simp[strV] at h0
theorem owns_far'{w:World}{base gq:Nat}{v:Value}{gs:List (List UInt8)}{l:List Nat}(h:w.ownsRow base 9 1 v gs.length (gs.map strV))(hnil:gs= [] -> v= .slice none 0 0)(hu:U32 w (some ⟨gq,0,none⟩) l)(hl:0<l.length):v.ownBlock≠some gq:=by
 by_cases hgs:gs= []
 ·rw[hnil hgs];simp[Value.ownBlock]
 ·exact owns_far h (List.length_pos_iff.2 hgs) hu hl
theorem Cells.grownR{w w':World}{b off n:Nat}{r:Option Nat}{f:Nat -> Value}(h:Cells w (some ⟨b,off,none⟩) n f)(hg:w.grownBy w' r)(hne:r≠some b):Cells w' (some ⟨b,off,none⟩) n f:=by
 rcases h with h | ⟨b',off',hA,hc,ht⟩
 ·exact .inl h
 ·simp only[Option.some.injEq,Addr.mk.injEq,and_true] at hA;obtain⟨rfl,rfl⟩:=hA;refine .inr ⟨b,off,rfl,fun j hj=>hg.cell (hc j hj) (Ne.symm hne),ht.of_eq (hg.block b ?_ (Ne.symm hne))⟩;obtain⟨_,_,_,h1,_⟩:=ht;exact(Array.getElem?_eq_some_iff.1 h1).1
set_option maxHeartbeats 1600000 in
theorem text_walk(va:Value)(a:Int)(w:World)(ha:IsInt w va a)(hla:(digs a.natAbs).length<1099511627776)(hlt:(Lib.decDigits a.natAbs).length <= 1000000000)(htab:Lib.TabIs Tryz.prog w "internal/strconv.uint64pow10" .u64 Lib.pow10Tab):
  Calls Tryz.prog 107 #[va] w fun e w'=>e= .returned (.string (txt a)) /\ Below w.heap.size w w':=by
 obtain⟨A,ca,rfl,hca,hcma,hua⟩:=ha;obtain⟨i0,hi0,hz0,hz1,hz2⟩:=info_parts infoStr;obtain⟨s,hs⟩:=eX (decide (a<0));rw[<- hs];obtain⟨n,hn⟩:=eX (a.natAbs);rw[<- hn] at hua hla hlt hca ⊢;by_cases hz:(digs n).length=0
 ·have hz':((((digs n).length:Nat):Int)==0)=true:=by rw[hz];rfl
  have hn0:n=0:=digs_len_zero.1 hz
  have hta:txt a=⟨#[48]⟩:=by
   rw[show a=0 by omega];unfold txt Lib.itoa;rw[if_neg (by omega)];show(⟨(Lib.decDigits 0).toArray⟩:ByteArray)=_;rw[Lib.decDigits_one (by omega)];rfl
  rw[hta];clear hz hua hs hn hn0 hta hlt htab;go_enter Tryz.func107,Tryz.ntmps107;go_wp2_with fail
  go_returns;exact⟨rfl,by go_grown⟩
 ·have hz':((((digs n).length:Nat):Int)==0)=false:=by rw[beq_eq_false_iff_ne];omega
  obtain⟨W,hW⟩:=eX (w.alloc (.cells #[.bool s, .slice A (digs n).length ca] 103));have r1:=(boxes1 w (.cells #[.bool s, .slice A (digs n).length ca] 103)).1;have hWs:=(boxes1 w (.cells #[.bool s, .slice A (digs n).length ca] 103)).2.1;have hWB:=(boxes1 w (.cells #[.bool s, .slice A (digs n).length ca] 103)).2.2;rw[<- hW] at r1 hWB hWs;have r1:Row W w.heap.size 103 [.bool s, .slice A (digs n).length ca]:=r1;have e0:=r1.at_ 0 rfl;have e1:=r1.at_ 1 rfl
  have hAlow:∀b off,A=some ⟨b,off,none⟩ -> b<w.heap.size \/ off=0:=by
   obtain⟨b,off,hA,hb,_⟩:=Cells.at_ hua (by omega);intro b' off' e;rw[hA] at e;simp only[Option.some.injEq,Addr.mk.injEq,and_true] at e
   left;omega
  have HAL:=lH hAlow;have HTAB0:=lH htab;clear hAlow;have HWB:=lH hWB;have HWS:=lH hWs;have HU:=lH (Cells.below hua hWB);have R1:=lH r1;have HS:=lH hs;have HN:=lH hn;clear hWB hua r1 hz hs hn hWs;go_enter Tryz.func107,Tryz.ntmps107;go_wp2_with fail
  rw[<- hW];clear hW;go_wp2_with fail
  have HTAB:=lH (tab_keep htab HWB.out);have HLT:=lH hlt;have HCA:=lH hca;have HLA:=lH hla;have hn0:0<n:=digs_len_pos.1 (by have:=hz';rw[beq_eq_false_iff_ne] at this;omega);clear htab hlt hca hla hz'
  go_loopg [3,4] n (fun g gv mv wr=>∃ (m:Nat) (gs:List (List UInt8)) (A':Option Addr) (c':Nat),mv= .slice A' (digs m).length c' /\ Hid (g=m) /\ (digs m).length <= c' /\ c' <= maxLen /\ U32 wr A' (digs m) /\ Hid (∀b off,A'=some ⟨b,off,none⟩ -> b<w.heap.size \/ off=0) /\ Hid (wr.ownsRow (w.heap.size+1) 9 1 gv gs.length (gs.map strV)) /\
   Hid (Lib.decDigits n=ahead m++gs.reverse.flatten) /\ Hid (gs.length <= gs.reverse.flatten.length) /\ Hid (gs= [] -> gv= .slice none 0 0) /\ Hid (m=0 -> gs≠ []) /\ Hid (Row wr w.heap.size 103 [.bool s, .slice A (digs n).length ca]) /\ Hid ((digs m).length <= (digs n).length) /\ Hid (Below w.heap.size w wr) /\ Hid (Lib.TabIs Tryz.prog wr "internal/strconv.uint64pow10" .u64 Lib.pow10Tab))
  case atStart=>
   refine⟨n,[],A,ca,rfl,lH rfl,HCA.out,hcma,HU.out,HAL,lH (World.ownsRow_nil _ _ _ _),lH ?_,lH (by simp),lH (fun _=>rfl),lH (fun h=>by omega),R1,lH (Nat.le_refl _),HWB,HTAB⟩;unfold ahead;rw[if_neg (by omega)];simp
  case round=>
   obtain⟨m,gs,A',c',rfl,hgm,hc1,hc2,hu',hal,hown,hdec,hlen,hnil,hne,hrow,hdl,hbw,htb⟩:=hrel;have HU':=lH hu';clear hu';by_cases hm:(0:Int)<(((digs m).length:Nat):Int)
   ·have hm0:0<m:=digs_len_pos.1 (by omega);have hmN:0<(digs m).length:=by omega
    obtain⟨q0,hq0⟩:=eX (m / 1000000000);obtain⟨r0,hr0⟩:=eX (m%1000000000);have hrb:r0<1000000000:=by omega
    have hsh:=short_walk0 A' c' 1000000000 (digs m) wr HU'.out (dig_digs m) (by have:=hdl.out;have:=HLA.out;omega) (by omega) (by omega);rw[val_digs, <- hq0, <- hr0] at hsh;have HSH:=lH hsh;have HQ0:=lH hq0;have HR0:=lH hr0;clear hq0 hr0 hsh;by_cases hq:(0:Int)<(((digs q0).length:Nat):Int)
    ·have hqN:0<(digs q0).length:=by omega
     have hd9:=dec_len_le 8 r0 (by omega);obtain⟨d,hd⟩:∃d:Nat,(9:Int)-(((Lib.decDigits r0).length:Nat):Int)=(d:Nat):=⟨9-(Lib.decDigits r0).length,by omega⟩
     have hdb:((d:Nat):Int) <= 9:=by omega
     have hdn:d=8+1-(Lib.decDigits r0).length:=by omega
     have HDN:=lH hdn;clear hdn;go_wp2_with fail
     refine HSH.out.mono ?_;rintro e w2 ⟨v,rfl,⟨hmag,hsh⟩,hb2⟩;obtain⟨gq,nq,cq,rfl⟩:=hsh;obtain⟨Aq,cq',hv,hq1,hq2,hq3⟩:=hmag;simp only[Value.slice.injEq] at hv;obtain⟨rfl,rfl,rfl⟩:=hv;have HB2:=lH hb2;have HQ3:=lH hq3;clear hb2 hq3;go_wp2_with fail
     refine(Tryz.strconv_Itoa ((r0:Nat):Int) (by omega) (by omega) w2 (tab_keep htb.out HB2.out)).mono ?_;rintro e w3 ⟨rfl,k3,os3,hw3⟩;have hb3:Below w2.heap.size w2 w3:=by rw[hw3];exact Lib.below_grow _ _ (Nat.le_refl _) _ _
     rw[Lib.itoa_nonneg];have HB3:=lH hb3;clear hb3 hw3;go_wp2_with fail
     refine(Tryz.strings_Repeat ⟨#[48]⟩ d w3 (by omega) (by show 1*d <= _;omega)).mono ?_;rintro e w4 ⟨rfl,hb4⟩;have HB4:=lH hb4;clear hb4;obtain⟨S1,hS1⟩:∃S1:ByteArray,S1=⟨(Lib.repeatL (⟨#[48]⟩:ByteArray).data.toList d).toArray⟩:=⟨_,rfl⟩
     rw[<- hS1];obtain⟨S2,hS2⟩:∃S2:ByteArray,S2=⟨(Lib.decDigits r0).toArray⟩:=⟨_,rfl⟩
     try rw[<- hS2]
     have HS1:=lH hS1;have HS2:=lH hS2
     have hz1s:((S1.size:Nat):Int) <= 9:=by
      rw[hS1];show(((Lib.repeatL [48] d).toArray.size:Nat):Int) <= 9;rw[List.size_toArray,Lib.repeatL_length];simp;omega
     have hz2s:((S2.size:Nat):Int) <= 9:=by
      rw[hS2];show(((Lib.decDigits r0).toArray.size:Nat):Int) <= 9;rw[List.size_toArray];omega
     have hz12:S1.size+S2.size <= 9223372036854775807:=by omega
     clear hS1 hS2
     go_upto_region 10 with (fail)
     obtain⟨SV,hSV⟩:=eX (S1++S2);rw[<- hSV]
     have hval:Value.string SV=strV (groupOf m):=by
      rw[hSV,HS1.out,HS2.out];unfold strV groupOf;rw[if_neg (by rw[<- HQ0.out];have:=digs_len_pos.1 hqN;omega), <- HR0.out, <- pad_eq 8 r0 (by omega), <- HDN.out];refine congrArg Value.string ?_;apply ByteArray.ext;simp
     have HVAL:=lH hval;obtain⟨wE,hwE⟩:=eX (w4);rw[<- hwE];have hbE:Below wr.heap.size wr wE:=by rw[hwE];exact HB2.out.trans ((HB3.out.mono HB2.out.size).trans (HB4.out.mono (Nat.le_trans HB2.out.size HB3.out.size)))
     have HBE:=lH hbE;have hq3E:U32 wE (some ⟨gq,0,none⟩) (digs q0):=by rw[hwE];exact(HQ3.out.below HB3.out).below HB4.out
     have HQ3E:=lH hq3E;clear hSV hval hwE hbE hq3E
     have hgl:gs.length <= 1000000000:=by
      have h1:=congrArg List.length hdec.out;rw[List.length_append] at h1;have h2:=hlen.out;have h3:=HLT.out;omega
     have hownE:=owns_below hown.out HBE.out;have HOWNE:=lH hownE;clear hownE
     go_wp2_with (at_builtin;refine wpList_append_own _ rfl (.tmp 35) (.tmp 37) 152 rfl (w.heap.size+1) 9 i0 (.string ⟨#[]⟩) 1 16 Tryz.underlying152 hi0 hz0 hz1 hz2 rfl (by decide) _ _ _ rfl (HOWNE.out.alloc _) ⟨wE.heap.size,0,none⟩ 1 1 [.string SV] rfl rfl ?c1 ?c2 ?c3 ?c4 ?c5 ?_)
     case c1=>
      intro j u hj
      rcases j with _ | j
      ·simp at hj;subst hj;simp[Addr.add]
      ·simp at hj
     case c2=>intro u hu;simp at hu;subst hu;rfl
     case c3=>unfold maxLen;omega
     case c4=>omega
     case c5=>
      have h1:=hrow.out.lt;have h2:=HBE.out.size;have h3:=(boxes1 wE (.cells #[.string SV] 9)).2.1;omega
     ·intro v' w1 hown' hgr hnn;have HOWN':=lH hown';have HGR:=lH hgr;have HNN:=lH hnn;clear hown' hgr hnn;go_wp2_with fail
      go_roundg q0
      case measure=>rw[hgm.out,HQ0.out];exact Nat.div_lt_self hm0 (by decide)
      case rel=>
       have hbA:=(boxes1 wE (.cells #[.string SV] 9)).2.2;have hne:=owns_far' HOWNE.out hnil.out HQ3E.out hqN;have hqU:=Cells.grownR (U32.below HQ3E.out hbA) HGR.out hne
       have hbw1:Below w.heap.size w w1:=by
        have h0:=hbw.out.trans (HBE.out.mono hbw.out.size);have h1:=h0.trans (hbA.mono h0.size);refine h1.grown HGR.out h1.size ?_;intro k hk;have:=(HOWNE.out.lt k hk).1;omega
       have hrow1:Row w1 w.heap.size 103 [.bool s, .slice A (digs n).length ca]:=by
        have h0:=(hrow.out.below HBE.out hrow.out.lt);have h1:=h0.below hbA h0.lt;refine(HGR.out.block w.heap.size h1.lt ?_).trans h1;intro he;have:=(HOWNE.out.lt _ he.symm).1;omega
       have hown1:w1.ownsRow (w.heap.size+1) 9 1 v' (gs++ [groupOf m]).length ((gs++ [groupOf m]).map strV):=by
        have h0:=HOWN'.out;rw[HVAL.out] at h0;rw[List.length_append,List.map_append];exact h0
       refine⟨q0,gs++ [groupOf m],some ⟨gq,0,none⟩,cq,rfl,lH rfl,hq1,hq2,hqU,lH (fun b off e=>by simp only[Option.some.injEq,Addr.mk.injEq,and_true] at e;exact .inr e.2.symm),lH hown1,lH ?_,lH ?_,lH (fun h=>by simp at h),lH (fun h=>by simp),lH hrow1,lH ?_,lH hbw1,lH (tab_keep HTAB0.out hbw1)⟩
       ·rw[hdec.out,ahead_step hm0, <- HQ0.out];simp
       ·have h1:=hlen.out
        have h2:0<(groupOf m).length:=by
         unfold groupOf;split
         ·rw[Lib.decDigits];split <;> simp
         ·rw[padL_length];omega
        simp at h1 ⊢;omega
       ·exact Nat.le_trans (digs_len_mono (by rw[HQ0.out];exact Nat.div_le_self _ _)) hdl.out
    ·have hqz:(digs q0).length=0:=by omega
     have hq00:q0=0:=digs_len_zero.1 hqz;have hqd:decide (0<(digs q0).length)=false:=decide_eq_false (by omega);have HQZ:=lH hqz;have HQ00:=lH hq00;have hd9:=dec_len_le 8 r0 (by omega);clear hqz hq00;go_wp2_with fail
     refine HSH.out.mono ?_;rintro e w2 ⟨v,rfl,⟨hmag,hsh⟩,hb2⟩;obtain⟨gq,nq,cq,rfl⟩:=hsh;obtain⟨Aq,cq',hv,hq1,hq2,hq3⟩:=hmag;simp only[Value.slice.injEq] at hv;obtain⟨rfl,rfl,rfl⟩:=hv;have HB2:=lH hb2;have HQ3:=lH hq3;clear hb2 hq3;go_wp2_with fail
     refine(Tryz.strconv_Itoa ((r0:Nat):Int) (by omega) (by omega) w2 (tab_keep htb.out HB2.out)).mono ?_;rintro e w3 ⟨rfl,k3,os3,hw3⟩;have hb3:Below w2.heap.size w2 w3:=by rw[hw3];exact Lib.below_grow _ _ (Nat.le_refl _) _ _
     rw[Lib.itoa_nonneg];have HB3:=lH hb3;clear hb3 hw3;obtain⟨S2,hS2⟩:∃S2:ByteArray,S2=⟨(Lib.decDigits r0).toArray⟩:=⟨_,rfl⟩
     try rw[<- hS2]
     have HS2:=lH hS2
     have hz2s:((S2.size:Nat):Int) <= 9:=by
      rw[hS2];show(((Lib.decDigits r0).toArray.size:Nat):Int) <= 9;rw[List.size_toArray];omega
     clear hS2
     go_upto_region 10 with (fail)
     obtain⟨SV,hSV⟩:=eX (S2);rw[<- hSV]
     have hval:Value.string SV=strV (groupOf m):=by
      rw[hSV,HS2.out];unfold strV groupOf;rw[if_pos (by rw[<- HQ0.out];exact HQ00.out), <- HR0.out]
     have HVAL:=lH hval;obtain⟨wE,hwE⟩:=eX (w3);rw[<- hwE];have hbE:Below wr.heap.size wr wE:=by rw[hwE];exact HB2.out.trans (HB3.out.mono HB2.out.size)
     have HBE:=lH hbE;have hq3E:U32 wE (some ⟨gq,0,none⟩) (digs q0):=by rw[hwE];exact HQ3.out.below HB3.out
     have HQ3E:=lH hq3E;clear hSV hval hwE hbE hq3E
     have hgl:gs.length <= 1000000000:=by
      have h1:=congrArg List.length hdec.out;rw[List.length_append] at h1;have h2:=hlen.out;have h3:=HLT.out;omega
     have hownE:=owns_below hown.out HBE.out;have HOWNE:=lH hownE;clear hownE
     go_wp2_with (at_builtin;refine wpList_append_own _ rfl (.tmp 35) (.tmp 37) 152 rfl (w.heap.size+1) 9 i0 (.string ⟨#[]⟩) 1 16 Tryz.underlying152 hi0 hz0 hz1 hz2 rfl (by decide) _ _ _ rfl (HOWNE.out.alloc _) ⟨wE.heap.size,0,none⟩ 1 1 [.string SV] rfl rfl ?c1 ?c2 ?c3 ?c4 ?c5 ?_)
     case c1=>
      intro j u hj
      rcases j with _ | j
      ·simp at hj;subst hj;simp[Addr.add]
      ·simp at hj
     case c2=>intro u hu;simp at hu;subst hu;rfl
     case c3=>unfold maxLen;omega
     case c4=>omega
     case c5=>
      have h1:=hrow.out.lt;have h2:=HBE.out.size;have h3:=(boxes1 wE (.cells #[.string SV] 9)).2.1;omega
     ·intro v' w1 hown' hgr hnn;have HOWN':=lH hown';have HGR:=lH hgr;have HNN:=lH hnn;clear hown' hgr hnn;go_wp2_with fail
      go_roundg q0
      case measure=>rw[hgm.out,HQ0.out];exact Nat.div_lt_self hm0 (by decide)
      case rel=>
       have hbA:=(boxes1 wE (.cells #[.string SV] 9)).2.2;have hqU:U32 w1 (some ⟨gq,0,none⟩) (digs q0):= .inl HQZ.out
       have hbw1:Below w.heap.size w w1:=by
        have h0:=hbw.out.trans (HBE.out.mono hbw.out.size);have h1:=h0.trans (hbA.mono h0.size);refine h1.grown HGR.out h1.size ?_;intro k hk;have:=(HOWNE.out.lt k hk).1;omega
       have hrow1:Row w1 w.heap.size 103 [.bool s, .slice A (digs n).length ca]:=by
        have h0:=(hrow.out.below HBE.out hrow.out.lt);have h1:=h0.below hbA h0.lt;refine(HGR.out.block w.heap.size h1.lt ?_).trans h1;intro he;have:=(HOWNE.out.lt _ he.symm).1;omega
       have hown1:w1.ownsRow (w.heap.size+1) 9 1 v' (gs++ [groupOf m]).length ((gs++ [groupOf m]).map strV):=by
        have h0:=HOWN'.out;rw[HVAL.out] at h0;rw[List.length_append,List.map_append];exact h0
       refine⟨q0,gs++ [groupOf m],some ⟨gq,0,none⟩,cq,rfl,lH rfl,hq1,hq2,hqU,lH (fun b off e=>by simp only[Option.some.injEq,Addr.mk.injEq,and_true] at e;exact .inr e.2.symm),lH hown1,lH ?_,lH ?_,lH (fun h=>by simp at h),lH (fun h=>by simp),lH hrow1,lH ?_,lH hbw1,lH (tab_keep HTAB0.out hbw1)⟩
       ·rw[hdec.out,ahead_step hm0, <- HQ0.out];simp
       ·have h1:=hlen.out
        have h2:0<(groupOf m).length:=by
         unfold groupOf;split
         ·rw[Lib.decDigits];split <;> simp
         ·rw[padL_length];omega
        simp at h1 ⊢;omega
       ·exact Nat.le_trans (digs_len_mono (by rw[HQ0.out];exact Nat.div_le_self _ _)) hdl.out
   ·have hm0:m=0:=digs_len_zero.1 (by omega);have hgs:gs≠ []:=hne.out hm0;have hdec0:Lib.decDigits n=gs.reverse.flatten:=by have:=hdec.out;unfold ahead at this;rwa [if_pos hm0,List.nil_append] at this
    have hgl:gs.length <= 1000000000:=by
     have h1:=congrArg List.length hdec0;have h2:=hlen.out;have h3:=HLT.out;omega
    have hgv:u3≠ .slice none 0 0:=by
     intro e;have h1:=hown.out;rw[e] at h1;have h2:=h1.1
     rcases h1.2 with ⟨_,h3⟩ | ⟨_,_,_,h3,_⟩
     ·exact hgs (by simpa using h3)
     ·simp at h3
    obtain⟨g1,cap,rfl,hlen1,hO⟩:=Own.of_owns hown.out hgv;have HO:=lH hO;have HDEC0:=lH hdec0;have HGL:=lH hgl;have hd0:decide (0<(digs m).length)=false:=decide_eq_false (by omega);have hd1:decide ((0:Int)<(((digs m).length:Nat):Int))=false:=decide_eq_false hm;clear hO hdec0 hgs hgv hm0 hlen1 hgl hm;go_wp2_with fail
    have hgl:=HGL.out;refine(Tryz.slices_Reverse_string_cells g1 0 gs.length cap (fun i=>⟨(gs.getD i []).toArray⟩) wr (by omega) (fun i hi=> ?_) (fun j _=>HO.out.free _)).mono ?_
    ·rw[Nat.zero_add,HO.out.cell (by rw[List.length_map];exact hi)];simp[hi,strV]
    rintro e w2 ⟨rfl,q,hw2⟩;have hg1:=HO.out.lt
    have hso:Lib.strsOf (fun i=>⟨(gs.getD i []).toArray⟩) gs.length=gs:=by
     apply List.ext_getElem
     ·rw[Lib.strsOf_length]
     ·intro i h1 h2;simp[Lib.strsOf,h2]
    rw[hso] at hw2
    have hcw2:∀ (j:Nat) (x:ByteArray),(gs.reverse.map (fun l=>(⟨l.toArray⟩:ByteArray)))[j]? =some x -> w2.cell? ⟨g1,0+j,none⟩=some (.string x):=by
     intro j x hx
     have hj:j<gs.length:=by
      have:=(List.getElem?_eq_some_iff.1 hx).1
      simpa using this
     rw[hw2,World.cell?_setCells_in g1 _ 0 _ (fun i hi=> ?_) j (by simpa using hj)]
     ·rw[List.getElem?_map] at hx;simp only[List.getElem_map];rw[List.getElem?_eq_getElem (by simpa using hj)] at hx;simp only[Option.map_some,Option.some.injEq] at hx;rw[<- hx]
      first | done | rfl
     ·rw[List.length_map,List.length_reverse] at hi;rw[Nat.zero_add];show(wr.cell? ⟨g1,i,none⟩).isSome=true;rw[HO.out.cell (by rw[List.length_map];exact hi)];simp[hi]
    have hb2:Below g1 wr w2:=by
     rw[hw2];exact(below_drewN g1 wr q).trans (Lib.below_setCells_w (Nat.le_refl _) _ _ _)
    have hrow2:Row w2 w.heap.size 103 [.bool s, .slice A (digs n).length ca]:=hrow.out.below hb2 (by omega);have hbw2:Below w.heap.size w w2:=hbw.out.trans (hb2.mono (by omega));have hs2:=hb2.size;have HCW2:=lH hcw2;have HROW2:=lH hrow2;have HBW2:=lH hbw2;clear hcw2 hrow2 hbw2 hb2 hso hw2;go_wp2_with fail
    have hbw3:=HBW2.out
    have hjl:(Lib.join ((gs.reverse.map (fun l=>(⟨l.toArray⟩:ByteArray))).map (·.data.toList)) (⟨#[]⟩:ByteArray).data.toList)=Lib.decDigits n:=by
     show Lib.join _ []=_;rw[join_nosep,List.map_map,HDEC0.out];refine congrArg List.flatten ((List.map_congr_left (fun l _=> ?_)).trans (List.map_id _));rfl
    have HJ:=lH hjl;clear hjl;have hxl:(gs.reverse.map (fun l=>(⟨l.toArray⟩:ByteArray))).length=gs.length:=by rw[List.length_map,List.length_reverse]
    have hsj:=Tryz.strings_Join g1 0 cap (gs.reverse.map (fun l=>(⟨l.toArray⟩:ByteArray))) ⟨#[]⟩ w2 HCW2.out (by omega) (by rw[hxl];omega) (by have:=HO.out.le;rw[List.length_map] at this;rw[hxl];exact this.1) (by rw[HJ.out];have:=HLT.out;omega);rw[hxl] at hsj;refine hsj.mono ?_;clear hsj hxl;rw[HJ.out];rintro e w3 ⟨rfl,hb3⟩;have c0:=(HROW2.out.below hb3 HROW2.out.lt).at_ 0 rfl;have HBW3:=lH (hbw3.trans (hb3.mono hbw3.size));have hsg:=HS.out;obtain⟨S,hS⟩:∃S:ByteArray,S=⟨(Lib.decDigits n).toArray⟩:=⟨_,rfl⟩
    rw[<- hS]
    have hsz:S.size <= 1000000000:=by
     rw[hS];show(Lib.decDigits n).toArray.size <= _;rw[List.size_toArray];exact HLT.out
    have HSS:=lH hS;have HSG:=lH hsg;have HSZ:=lH hsz
    have hz12:(⟨#[45]⟩:ByteArray).size+S.size <= 9223372036854775807:=by
     show 1+S.size <= _;omega
    clear hS hsg hb3 hbw3 hsz hgl;cases s
    ·have hST:S=txt a:=by
      have h1:=HSG.out;rw[HSS.out,HN.out];unfold txt;rw[itoa_nonneg' (by simpa using h1)]
     clear hz12;go_wp2_with fail
     go_returns;exact⟨rfl,HBW3.out⟩
    ·have hST:(⟨#[45]⟩:ByteArray)++S=txt a:=by
      have h1:=HSG.out;rw[HSS.out,HN.out];unfold txt;rw[itoa_neg (by simpa using h1)];apply ByteArray.ext;simp
     go_wp2_with fail
     go_returns;exact⟨rfl,HBW3.out⟩
end
section
open Go.RowKit
open Lp (RL upd Dict)
def Tab(w:World):Prop:=Lib.TabIs Tryz.prog w "internal/strconv.uint64pow10" .u64 Lib.pow10Tab
theorem Tab.below{w w':World}(h:Tab w)(hb:Below w.heap.size w w'):Tab w':=tab_keep h hb
theorem text_below(va:Value)(a:Int)(k:Nat)(w:World)(ha:IsInt w va a)(hl:a.natAbs<10^k)(hk:k <= 1000000)(ht:Tab w):
  Calls Tryz.prog 107 #[va] w fun e w'=>e= .returned (.string (txt a)) /\ Below w.heap.size w w':=
 text_walk va a w ha (by have:=digs_len_le (Nat.lt_of_lt_of_le hl (Nat.pow_le_pow_left (by decide) k));omega) (by have:=dec_len_le k _ (Nat.lt_of_lt_of_le hl (Nat.pow_le_pow_right (by decide) (by omega)));omega) ht
theorem txt_small{a:Int}{k:Nat}(hl:a.natAbs<10^k)(hk:k <= 1000000):(txt a).size <= 1000002:=by
 have h:=dec_len_le k _ (Nat.lt_of_lt_of_le hl (Nat.pow_le_pow_right (by decide) (by omega)));rw[show(txt a).size=(Lib.itoa a).length by unfold txt;rfl];by_cases h':a<0
 ·rw[itoa_neg h',List.length_cons];omega
 ·rw[itoa_nonneg' h'];omega
theorem qtxt_frac{q:Rat}(h:q.den≠1):txt q.num++ ⟨#[47]⟩++txt (q.den:Int)=qtxt q:=by
 have h1:(txt q.num++ ⟨#[47]⟩++txt (q.den:Int)).data.toList=(qtxt q).data.toList:=by
  rw[qtxt_list,qtxtL_frac h];have h2:Lib.itoa (q.den:Int)=Lib.decDigits q.den:=by rw[itoa_nonneg' (by omega),Int.natAbs_natCast]
  simp[txt,h2]
 have key:∀a b:ByteArray,a.data.toList=b.data.toList -> a=b:=by
  intro a b h;cases a with
  | mk da=>
   cases b with
   | mk db=>
    congr 1;exact Array.toList_inj.1 h
 exact key _ _ h1
end
section
open Go.RowKit
theorem list_size(D:ByteArray):D.data.toList.length=D.size:=by rw[Array.length_toList];rfl
theorem get_list(D:ByteArray)(k:Nat)(h:k<D.size):D[k]=D.data.toList[k]'(by rw[list_size];exact h):=by rw[Array.getElem_toList];rfl
theorem cut_at{l:List UInt8}{k:Nat}(h:∀c ∈ l.take k,c≠47)(hk:l[k]? =some 47):(cutA l).length=k /\ cutA l=l.take k /\ cutR l=47::l.drop (k+1):=by
 have hl:k<l.length:=by
  rcases Nat.lt_or_ge k l.length with h' | h'
  ·exact h'
  ·rw[List.getElem?_eq_none h'] at hk;cases hk
 have e:l=l.take k++47::l.drop (k+1):=by
  have h1:=List.take_append_drop k l;have h2:=List.drop_eq_getElem_cons hl;rw[List.getElem?_eq_getElem hl] at hk;rw[Option.some.inj hk] at h2;rw[<- h2,h1]
 obtain⟨h1,h2⟩:=cut_append (b:=l.drop (k+1)) h;rw[<- e] at h1 h2;exact⟨by rw[h1,List.length_take];omega,h1,h2⟩
def partB(l:List UInt8):List UInt8:=if cutR l= [] then [49] else cutB l
section
variable (s:ByteArray) (w:World)
theorem byte_step(k:Nat)(hk:k<s.size):∃x:Nat,s[k].toNat=x /\ x<256 /\ s.data.toList[k]? =some s[k] /\ s.data.toList.take (k+1)=s.data.toList.take k++ [s[k]]:=by
 have hl:k<s.data.toList.length:=by rw[list_size];exact hk
 refine⟨_,rfl,UInt8.toNat_lt _,?_,?_⟩
 ·rw[List.getElem?_eq_getElem hl,get_list s k hk]
 ·rw[get_list s k hk];exact List.take_succ_eq_append_getElem hl
set_option maxHeartbeats 1600000 in
theorem slash_walk(hs:s.size <= 1000000000):Calls Tryz.prog 94 #[.string s] w fun e w'=>e= .returned (.int .i64 ((cutA s.data.toList).length:Nat)) /\ w'=w:=by
 have HS:=lH hs;have hsi:((s.size:Nat):Int) <= 1000000000:=by omega
 clear hs;go_enter Tryz.func94,Tryz.ntmps94;go_wp2_with fail
 go_loop [3] (fun iv=>∃k:Nat,((k:Nat):Int) <= ((s.size:Nat):Int) /\ iv= .int .i64 k /\ Hid (∀c ∈ s.data.toList.take k,c≠47)) (fun iv=>s.size-(intOf iv).toNat)
 case atStart=>exact⟨0,by omega,rfl,lH (fun c hc=>by simp at hc)⟩
 case round=>
  obtain⟨k,hk,rfl,hall⟩:=hrel;by_cases hkl:((k:Nat):Int)<((s.size:Nat):Int)
  ·have hkn:k<s.size:=by omega
   obtain⟨x,hx,_,hget,hsn⟩:=byte_step s k hkn
   have h47:s[k]=47↔x=47:=by
    rw[<- hx];exact⟨fun h=>by rw[h];rfl,fun h=>UInt8.toNat_inj.1 (by rw[h];rfl)⟩
   have HG:=lH hget;have HSN:=lH hsn;have H47:=lH h47;clear hget hsn h47;by_cases he:x=47
   ·have hr:(cutA s.data.toList).length=k:=(cut_at hall.out (by rw[HG.out,H47.out.2 he])).1;have HR:=lH hr;clear hr;subst he;go_wp2_with fail
    go_returns;exact⟨by rw[HR.out];rfl,rfl⟩
   ·have hxe:(((x:Nat):Int)==47)=false:=by rw[beq_eq_false_iff_ne];omega
    have HX:=lH he;clear he;go_wp2_with fail
    go_round
    case rel=>
     refine⟨k+1,by omega,by go_num,lH (fun c hc=> ?_)⟩;rw[HSN.out,List.mem_append,List.mem_singleton] at hc
     rcases hc with hc | hc
     ·exact hall.out c hc
     ·rw[hc];exact fun e=>HX.out (H47.out.1 e)
    case measure=>simp[intOf];omega
  ·have hkk:k=s.size:=by omega
   have hr:cutA s.data.toList=s.data.toList:=(cut_free (by
    have:=hall.out;rw[hkk,List.take_of_length_le (by rw[list_size];exact Nat.le_refl _)] at this
    exact this)).1
   have HR:=lH hr;clear hr hkk;go_wp2_with fail
   go_returns;exact⟨by rw[HR.out,list_size];rfl,rfl⟩
set_option maxHeartbeats 1600000 in
theorem qdigits_walk(hs:s.size <= 1000000000):Calls Tryz.prog 109 #[.string s] w fun e w'=>e= .returned (.bool (dgs s.data.toList)) /\ w'=w:=by
 have hsi:((s.size:Nat):Int) <= 1000000000:=by omega
 clear hs;obtain⟨r,hr⟩:=eX (dgs s.data.toList);rw[<- hr];have HR:=lH hr;clear hr;go_enter Tryz.func109,Tryz.ntmps109;go_wp2_with fail
 go_loop [3] (fun iv=>∃k:Nat,((k:Nat):Int) <= ((s.size:Nat):Int) /\ iv= .int .i64 k /\ Hid (∀c ∈ s.data.toList.take k,isDg c=true)) (fun iv=>s.size-(intOf iv).toNat)
 case atStart=>exact⟨0,by omega,rfl,lH (fun c hc=>by simp at hc)⟩
 case round=>
  obtain⟨k,hk,rfl,hall⟩:=hrel;by_cases hkl:((k:Nat):Int)<((s.size:Nat):Int)
  ·have hkn:k<s.size:=by omega
   obtain⟨x,hx,_,hget,hsn⟩:=byte_step s k hkn;have hiff:= @isDg_iff s[k];rw[hx] at hiff
   have bad:(¬(48 <= x /\ x <= 57)) -> r=false:=fun hb=>by
    rw[HR.out];unfold dgs
    have h2:isDg s[k]=false:=by
     rcases hq:isDg s[k] with _ | _
     ·rfl
     ·exact absurd (hiff.1 hq) hb
    rw[Bool.and_eq_false_iff];refine .inr ?_;rw[<- Bool.not_eq_true,List.all_eq_true];intro h3;have:=h3 _ (List.mem_of_getElem? hget);rw[h2] at this;exact absurd this (by simp)
   have BAD:=lH bad;have HSN:=lH hsn;have HIFF:=lH hiff;clear hget hsn hiff bad;by_cases h48:((x:Nat):Int)<48
   ·have hr0:r=false:=BAD.out (by omega);subst hr0;go_wp2_with fail
    go_returns;exact⟨rfl,rfl⟩
   ·have h48':(48:Int) <= ((x:Nat):Int):=by omega
    have h48d:decide (((x:Nat):Int)<48)=false:=decide_eq_false h48;clear h48;by_cases h57:(57:Int)<((x:Nat):Int)
    ·have hr0:r=false:=BAD.out (by omega);subst hr0;go_wp2_with fail
     go_returns;exact⟨rfl,rfl⟩
    ·have h57':((x:Nat):Int) <= 57:=by omega
     have h57d:decide ((57:Int)<((x:Nat):Int))=false:=decide_eq_false h57;clear h57;go_wp2_with fail
     go_round
     case rel=>
      refine⟨k+1,by omega,by go_num,lH ?_⟩;intro c hc;rw[HSN.out,List.mem_append,List.mem_singleton] at hc
      rcases hc with hc | hc
      ·exact hall.out c hc
      ·rw[hc];exact HIFF.out.2 (by omega)
     case measure=>simp[intOf];omega
  ·have hkk:k=s.size:=by omega
   have hr1:r=decide (0<s.size):=by
    rw[HR.out];unfold dgs;have h1:=hall.out;rw[hkk,List.take_of_length_le (by rw[list_size];exact Nat.le_refl _)] at h1;rw[List.all_eq_true.2 h1,Bool.and_true];refine decide_eq_decide.2 ⟨fun h=> ?_,fun h e=> ?_⟩
    ·have:=List.length_pos_iff.2 h;rw[list_size] at this;omega
    ·have h2:=list_size s;rw[e] at h2;simp at h2;omega
   have HR1:=lH hr1;clear hr1 hkk;go_wp2_with fail
   go_returns;exact⟨by rw[HR1.out];rfl,rfl⟩
set_option maxHeartbeats 1600000 in
theorem qzeros_walk(hs:s.size <= 1000000000):Calls Tryz.prog 110 #[.string s] w fun e w'=>e= .returned (.bool (s.data.toList.all (· ==48))) /\ w'=w:=by
 have hsi:((s.size:Nat):Int) <= 1000000000:=by omega
 clear hs;obtain⟨r,hr⟩:=eX (s.data.toList.all (· ==48));rw[<- hr];have HR:=lH hr;clear hr;go_enter Tryz.func110,Tryz.ntmps110;go_wp2_with fail
 go_loop [3] (fun iv=>∃k:Nat,((k:Nat):Int) <= ((s.size:Nat):Int) /\ iv= .int .i64 k /\ Hid (∀c ∈ s.data.toList.take k,c=48)) (fun iv=>s.size-(intOf iv).toNat)
 case atStart=>exact⟨0,by omega,rfl,lH (fun c hc=>by simp at hc)⟩
 case round=>
  obtain⟨k,hk,rfl,hall⟩:=hrel;by_cases hkl:((k:Nat):Int)<((s.size:Nat):Int)
  ·have hkn:k<s.size:=by omega
   obtain⟨x,hx,_,hget,hsn⟩:=byte_step s k hkn
   have h48:s[k]=48↔x=48:=by
    rw[<- hx];exact⟨fun h=>by rw[h];rfl,fun h=>UInt8.toNat_inj.1 (by rw[h];rfl)⟩
   have HG:=lH hget;have HSN:=lH hsn;have H48:=lH h48;clear hget hsn h48;by_cases he:x=48
   ·have hc48:=lH (H48.out.2 he);subst he;go_wp2_with fail
    go_round
    case rel=>
     refine⟨k+1,by omega,by go_num,lH (fun c hc=> ?_)⟩;rw[HSN.out,List.mem_append,List.mem_singleton] at hc
     rcases hc with hc | hc
     ·exact hall.out c hc
     ·rw[hc];exact hc48.out
    case measure=>simp[intOf];omega
   ·have hr0:r=false:=by
     rw[HR.out, <- Bool.not_eq_true,List.all_eq_true];intro h3;have:=h3 _ (List.mem_of_getElem? HG.out);exact he (H48.out.1 (by simpa using this))
    have hxe:(((x:Nat):Int)==48)=false:=by rw[beq_eq_false_iff_ne];omega
    have hxn:(((x:Nat):Int) !=48)=true:=by rw[bne,hxe];rfl
    have hxp:¬((x:Nat):Int)=48:=by omega
    clear he;subst hr0;go_wp2_with fail
    go_returns;exact⟨rfl,rfl⟩
  ·have hkk:k=s.size:=by omega
   have hr1:r=true:=by
    rw[HR.out,List.all_eq_true];have h1:=hall.out;rw[hkk,List.take_of_length_le (by rw[list_size];exact Nat.le_refl _)] at h1;intro c hc;rw[h1 c hc];rfl
   clear hkk;subst hr1;go_wp2_with fail
   go_returns;exact⟨rfl,rfl⟩
end
end
section
open Go.RowKit
theorem txt_zero:txt 0=⟨#[48]⟩:=by unfold txt;rw[itoa_zero]
theorem txt_size(a:Int):(txt a).size=(Lib.itoa a).length:=by
 unfold txt;show(Lib.itoa a).toArray.size=_;rw[List.size_toArray]
theorem txt_pos(a:Int):0<(txt a).size:=by
 rw[txt_size];by_cases h:a<0
 ·rw[itoa_neg h];simp
 ·rw[itoa_nonneg' h];exact dec_pos _
theorem txt_get(a:Int)(j:Nat)(h:j<(txt a).size):(txt a)[j]=(Lib.itoa a)[j]'(by rw[<- txt_size];exact h):=rfl
theorem txt_eq(a b:Int):((txt a).toList== (txt b).toList)=decide (a=b):=by
 rw[ByteArray.toList_eq,ByteArray.toList_eq,txt_list,txt_list];by_cases h:a=b
 ·subst h;simp
 ·rw[decide_eq_false h,beq_eq_false_iff_ne];exact fun e=>h (itoa_inj e)
theorem txt_ne0{a:Int}(h:a≠0):((txt a).toList== [48])=false:=by
 have:=txt_eq a 0;rw[decide_eq_false h,txt_zero,ByteArray.toList_eq ⟨#[48]⟩] at this;exact this
theorem txt_first_neg{a:Int}(h:a<0):(txt a)[0]'(txt_pos a)=45:=by
 rw[txt_get];simp[itoa_neg h]
theorem txt_first_pos{a:Int}(h:¬a<0):isDg ((txt a)[0]'(txt_pos a))=true:=by
 rw[txt_get];refine dec_isDg a.natAbs _ ?_;rw[<- itoa_nonneg' h];exact List.getElem_mem _
theorem rsign_walk(a:Int)(w:World):
  Calls Tryz.prog 71 #[.string (txt a)] w fun e w'=>e= .returned (.int .i64 (sgI a)) /\ w=w':=by
 by_cases h0:a=0
 ·subst h0;rw[txt_zero];go_enter Tryz.func71,Tryz.ntmps71;go_wp2_with fail
  go_returns;exact⟨rfl,rfl⟩
 ·have hne:=txt_ne0 h0;have hp:=txt_pos a;have hn:= @txt_first_neg a;have hq:= @txt_first_pos a;obtain⟨S,hS⟩:=eX (txt a);simp only[<- hS] at hn hq hne hp ⊢;obtain⟨x,hx⟩:∃x:Nat,(S[0]).toNat=x:=⟨_,rfl⟩
  by_cases hlt:a<0
  ·have h1:S[0].toNat=45:=by rw[hn hlt];rfl
   rw[show sgI a= -1 by unfold sgI;rw[if_pos hlt]];clear hn hq hx;clear hS;go_enter Tryz.func71,Tryz.ntmps71;go_wp2_with fail
   go_returns;exact⟨rfl,rfl⟩
  ·have h1:((x:Int)==45)=false:=by
    have:=isDg_iff.1 (hq hlt);rw[beq_eq_false_iff_ne];omega
   rw[show sgI a=1 by unfold sgI;rw[if_neg hlt,if_neg h0]];clear hn hq;clear hS;go_enter Tryz.func71,Tryz.ntmps71;go_wp2_with fail
   go_returns;exact⟨rfl,rfl⟩
end
section
open Go.RowKit
def D64(w:World)(A:Option Addr)(l:List Nat):Prop:=Cells w A l.length (fun j=> .int .i64 (dg l j:Nat))
theorem D64.below{w w':World}{A:Option Addr}{l:List Nat}(h:D64 w A l)(hb:Below w.heap.size w w'):D64 w' A l:=Cells.below h hb
theorem D64.trimmed{w:World}{A:Option Addr}{l:List Nat}(h:D64 w A l)(hd:T.Dig l):D64 w A (T.digs (T.val l)):=by
 obtain⟨h1,h2⟩:=T.digs_val_take hd;refine(Cells.take h h1).congr fun j hj=> ?_
 rw[<- h2,dg_take,if_pos hj]
def IsD(w:World)(v:Value)(l:List Nat):Prop:=∃A c,v= .slice A l.length c /\ l.length <= c /\ c <= maxLen /\ D64 w A l
theorem IsD.below{w w':World}{v:Value}{l:List Nat}(h:IsD w v l)(hb:Below w.heap.size w w'):IsD w' v l:=by
 obtain⟨A,c,hv,hl,hc,hu⟩:=h;exact⟨A,c,hv,hl,hc,Cells.below hu hb⟩
theorem info64:(Tryz.prog.info? 3).map (fun i=>(i.zero,i.size,i.bytes))=some (some (.int .i64 0),1,8):=by kernel_rfl
def dV(d:Nat):Value:= .int .i64 (d:Nat)
theorem dg_map{l:List Nat}{j:Nat}(hj:j<l.length):(l.map dV)[j]? =some (.int .i64 (dg l j:Nat)):=by
 rw[dg_lt hj];simp[hj,dV]
theorem owns_IsD{w:World}{base n:Nat}{e:TypeId}{v:Value}{l:List Nat}(h:w.ownsRow base e 1 v n (l.map dV)):IsD w v l:=by
 have hn:n=l.length:=by have:=h.1;rw[List.length_map] at this;omega
 subst hn
 rcases h.2 with ⟨rfl,h'⟩ | ⟨g,cap,cur,rfl,_,hg,h1,h2,hs,ht⟩
 ·have hl:l= []:=by simpa using h'
  subst hl;exact⟨none,0,rfl,Nat.le_refl _,by unfold maxLen;omega, .inl rfl⟩
 ·refine⟨some ⟨g,0,none⟩,cap,rfl,h1,h2, .inr ⟨g,0,rfl,fun j hj=> ?_,_,_,_,hg,fun z hz=>by simp at hz⟩⟩;rw[Nat.zero_add,World.ownsRow.cellAt h j (by omega)];exact dg_map hj
theorem owns_below'{w w':World}{base size n:Nat}{e:TypeId}{v:Value}{xs:List Value}(h:w.ownsRow base e size v n xs)(hb:Below w.heap.size w w'):w'.ownsRow base e size v n xs:=by
 refine⟨h.1,?_⟩
 rcases h.2 with hn | ⟨g,cap,cur,rfl,hbg,hgg,rest⟩
 ·exact .inl hn
 ·exact .inr ⟨g,cap,cur,rfl,hbg,(hb.block g (Array.getElem?_eq_some_iff.1 hgg).1).trans hgg,rest⟩
theorem Cells.grown{w w':World}{A:Option Addr}{n B:Nat}{r:Option Nat}{f:Nat -> Value}(h:Cells w A n f)(hlow:∀b off,A=some ⟨b,off,none⟩ -> b<B)(hg:w.grownBy w' r)(hr:∀k,r=some k -> B <= k):Cells w' A n f:=by
 rcases h with h | ⟨b,off,hA,hc,ht⟩
 ·exact .inl h
 ·have hne:some b≠r:=by
   intro e;have h1:=hr _ e.symm;have h2:=hlow b off hA;omega
  refine .inr ⟨b,off,hA,fun j hj=>hg.cell (hc j hj) hne,ht.of_eq (hg.block b ?_ hne)⟩;obtain⟨_,_,_,h1,_⟩:=ht;exact(Array.getElem?_eq_some_iff.1 h1).1
def Owns1(w:World)(base:Nat)(e:TypeId)(v:Value)(xs:List Value):Prop:=w.ownsRow base e 1 v xs.length xs
theorem Owns1.nil(w:World)(base:Nat)(e:TypeId):Owns1 w base e (.slice none 0 0) []:=World.ownsRow_nil _ _ _ _
theorem Owns1.below{w w':World}{base:Nat}{e:TypeId}{v:Value}{xs:List Value}(h:Owns1 w base e v xs)(hb:Below w.heap.size w w'):Owns1 w' base e v xs:=owns_below' h hb
theorem Owns1.isD{w:World}{base:Nat}{e:TypeId}{v:Value}{l:List Nat}(h:Owns1 w base e v (l.map dV)):IsD w v l:=owns_IsD h
theorem wpList_app1{P:Program}(w:World){ops:Array Oper}{rest:List Oper}{o:Oper}{a:Act}{Q:Exit -> Act -> World -> Prop}(hgd:o.guard=none)(s x:Operand)(t:TypeId)
  (ho:o.op= .call {callee:= .builtin .append,args:= #[s,x],argTypes:= #[t,t]})
  (base:Nat) (e:TypeId) (i:TypeInfo) (z:Value) (bytes:Nat) (ht:P.underlying t=some (.slice e)) (hi: P.info? e=some i) (hz:i.zero=some z)
  (hsize:i.size=1) (hby:i.bytes=bytes) (hzs:z.cells.size=1)
  (v:Value) (xs:List Value) (hs:a.eval s=v) (hown:Owns1 w base e v xs)
  (u:Value) (h1:u.oneCell'=true) (hx:a.eval x= .slice (some ⟨w.heap.size,0,none⟩) 1 1)
  (hlen:xs.length+1 <= maxLen /\ (xs.length+1)*bytes <= 140737488355328) (hbase:base <= w.heap.size)
  (h:∀v' w',Owns1 w' base e v' (xs++ [u]) -> Below base w w' -> wpList P ops Q rest (a.put o.dst v') w'):wpList P ops Q (o::rest) a (w.alloc (.cells #[u] e)):=by
 have hb:=(boxes1 w (.cells #[u] e)).2.2;refine wpList_append_own _ hgd s x t ho base e i z 1 bytes ht hi hz hsize hby hzs (by decide) v xs.length xs hs (owns_below' hown hb) ⟨w.heap.size,0,none⟩ 1 1 [u] hx rfl ?_ ?_ hlen.1 hlen.2 (Nat.le_trans hbase hb.size) ?_
 ·intro j y hj
  rcases j with _ | j
  ·simp at hj;subst hj;simp[Addr.add]
  ·simp at hj
 ·intro y hy;simp at hy;subst hy;exact h1
 ·intro v' w' hown' hgr _;refine h v' w' (by unfold Owns1;rw[List.length_append];exact hown') ?_;refine(hb.mono hbase).grown hgr (Nat.le_trans hbase hb.size) ?_;intro k hk;exact(hown.lt k hk).1
def FreshD(B:Nat)(w:World)(v:Value)(l:List Nat):Prop:=
 (v= .slice none 0 0 /\ l= []) \/ ∃b off c,v= .slice (some ⟨b,off,none⟩) l.length c /\ B <= b /\ b<w.heap.size /\ l.length <= c /\ c <= maxLen /\ D64 w (some ⟨b,off,none⟩) l
theorem FreshD.nil(B:Nat)(w:World):FreshD B w (.slice none 0 0) []:= .inl ⟨rfl,rfl⟩
theorem FreshD.isD{B:Nat}{w:World}{v:Value}{l:List Nat}(h:FreshD B w v l):IsD w v l:=by
 rcases h with ⟨rfl,rfl⟩ | ⟨b,off,c,rfl,_,_,h1,h2,h3⟩
 ·exact⟨none,0,rfl,Nat.le_refl _,by unfold maxLen;omega, .inl rfl⟩
 ·exact⟨_,_,rfl,h1,h2,h3⟩
theorem FreshD.below{B:Nat}{w w':World}{v:Value}{l:List Nat}(h:FreshD B w v l)(hb:Below w.heap.size w w'):FreshD B w' v l:=by
 rcases h with h | ⟨b,off,c,rfl,h0,h4,h1,h2,h3⟩
 ·exact .inl h
 ·exact .inr ⟨b,off,c,rfl,h0,Nat.lt_of_lt_of_le h4 hb.size,h1,h2,Cells.below h3 hb⟩
theorem FreshD.mono{B B':Nat}{w:World}{v:Value}{l:List Nat}(h:FreshD B w v l)(hb:B' <= B):FreshD B' w v l:=by
 rcases h with h | ⟨b,off,c,rfl,h0,h4,h1,h2,h3⟩
 ·exact .inl h
 ·exact .inr ⟨b,off,c,rfl,Nat.le_trans hb h0,h4,h1,h2,h3⟩
theorem FreshD.set{B g i:Nat}{w:World}{v x:Value}{l:List Nat}(h:FreshD B w v l)(hg:g<B):FreshD B (w.setCell ⟨g,i,none⟩ x) v l:=by
 rcases h with h | ⟨b,off,c,rfl,h0,h4,h1,h2,h3⟩
 ·exact .inl h
 ·refine .inr ⟨b,off,c,rfl,h0,by simpa using h4,h1,h2,?_⟩
  rcases h3 with h3 | ⟨b',off',hA,hc,ht⟩
  ·exact .inl h3
  ·simp only[Option.some.injEq,Addr.mk.injEq,and_true] at hA;obtain⟨rfl,rfl⟩:=hA;exact .inr ⟨b,off,rfl,fun j hj=>(cell_far w g i b (off+j) x (by omega)).trans (hc j hj),ht.of_eq (heap_setCell_other w ⟨g,i,none⟩ b x (by simp;omega))⟩
theorem Owns1.fresh{w:World}{base:Nat}{e:TypeId}{v:Value}{l:List Nat}(h:Owns1 w base e v (l.map dV)):FreshD base w v l:=by
 have h':w.ownsRow base e 1 v l.length (l.map dV):=by have:=h;unfold Owns1 at this;rwa [List.length_map] at this
 rcases h'.2 with ⟨rfl,hn⟩ | ⟨g,cap,cur,rfl,hbg,hg,h1,h2,hs,ht⟩
 ·exact .inl ⟨rfl,List.eq_nil_of_length_eq_zero hn⟩
 ·refine .inr ⟨g,0,cap,rfl,hbg,(Array.getElem?_eq_some_iff.1 hg).1,h1,h2, .inr ⟨g,0,rfl,fun j hj=> ?_,_,_,_,hg,fun z hz=>by simp at hz⟩⟩;rw[Nat.zero_add,World.ownsRow.cellAt h' j (by omega)];exact dg_map hj
end
section
open Go.RowKit
theorem rtrim_walk(A:Option Addr)(n c:Nat)(l:List Nat)(w:World)(hn:n=l.length)(hc:n <= c)(hm:c <= maxLen)(h:D64 w A l)(hd:T.Dig l):
  Calls Tryz.prog 123 #[.slice A n c] w fun e w'=>e= .returned (.slice A (T.digs (T.val l)).length c) /\ (T.digs (T.val l)).length <= l.length /\ w=w':=by
 unfold maxLen at hm;subst hn;obtain⟨fin,hfin⟩:∃fin:Nat -> Prop,∀k,fin k↔(k <= l.length /\ (∀j,k <= j -> j<l.length -> dg l j=0) /\ (0<k -> dg l (k-1)≠0)):=⟨_,fun _=>Iff.rfl⟩
 have key:Calls Tryz.prog 123 #[.slice A l.length c] w fun e w'=>(∃k,fin k /\ e= .returned (.slice A k c)) /\ w=w':=by
  have HF:=lH hfin;clear hfin;go_enter Tryz.func123,Tryz.ntmps123
  go_wp2
  go_loop [3] (fun v=>∃k:Nat,k <= l.length /\ v= .int .i64 k /\ (∀j,k <= j -> j<l.length -> dg l j=0)) (fun v=>(intOf v).toNat)
  case atStart=>exact⟨l.length,Nat.le_refl _,rfl,fun j h1 h2=>absurd h1 (by omega)⟩
  case round=>
   obtain⟨k,hk,rfl,hz⟩:=hrel;have HZ:=lH hz;clear hz;by_cases h0:0<k
   ·obtain⟨b,off,rfl,hb,hcell⟩:=Cells.at_ h (by omega);have hc1:=hcell (k-1) (by omega);have H:=lH h;clear hcell h;have h0':(0:Int)<(k:Nat):=by omega
    go_wp2
    ·have h0':(((dg l (k-1):Nat):Int)==0)=true:=by assumption
     have h00:dg l (k-1)=0:=by simpa using h0'
     go_round
     case rel=>
      refine⟨k-1,by omega,by first | rfl | (congr 1;omega),fun j h1 h2=> ?_⟩;by_cases hj:j=k-1
      ·rw[hj];exact h00
      ·exact HZ.out j (by omega) h2
     case measure=>simp[intOf];omega
    ·have h0':(((dg l (k-1):Nat):Int)==0)=false:=by assumption
     go_ret
     exact⟨⟨k,(HF.out k).2 ⟨hk,HZ.out,fun _ h=>by rw[h] at h0';simp at h0'⟩,by simp⟩,rfl⟩
   ·obtain rfl:k=0:=by omega
    go_wp2
    go_ret
    exact⟨⟨0,(HF.out 0).2 ⟨hk,HZ.out,fun h=>absurd h (by omega)⟩,by simp⟩,rfl⟩
 refine key.mono ?_;rintro e w' ⟨⟨k,hk,he⟩,hw⟩;obtain⟨h1,h2,h3⟩:=(hfin k).1 hk;have ht:=T.take_can hd h1 h2 h3;have hl:(T.digs (T.val l)).length=k:=by rw[<- ht,List.length_take];omega
 exact⟨by rw[hl];exact he,by omega,hw⟩
theorem rtrim_fresh(B:Nat)(v:Value)(l:List Nat)(w:World)(h:FreshD B w v l)(hd:T.Dig l):
  Calls Tryz.prog 123 #[v] w fun e w'=>∃v',e= .returned v' /\ FreshD B w v' (T.digs (T.val l)) /\ w=w':=by
 rcases h with ⟨rfl,rfl⟩ | ⟨b,off,c,rfl,h0,h4,h1,h2,h3⟩
 ·refine(rtrim_walk none 0 0 [] w rfl (Nat.le_refl _) (by unfold maxLen;omega) (.inl rfl) hd).mono ?_;rintro e w' ⟨rfl,_,rfl⟩;have e:T.digs (T.val [])= []:=by show T.digs 0= [];exact T.digs_zero
  rw[e];exact⟨_,rfl, .inl ⟨rfl,rfl⟩,rfl⟩
 ·refine(rtrim_walk _ _ c l w rfl h1 h2 h3 hd).mono ?_;rintro e w' ⟨rfl,hle,rfl⟩;exact⟨_,rfl, .inr ⟨b,off,c,rfl,h0,h4,by omega,h2,h3.trimmed hd⟩,rfl⟩
end
section
open Go.RowKit
theorem byte_at{s:ByteArray}{ds:List Nat}{neg:Bool}(hs:s.data.toList=(if neg then [45] else [])++ds.reverse.map chr)(hsz:s.size=ds.length+ (if neg then 1 else 0))(hd:T.Dig ds){j:Nat}(hj:j<s.size):
  if s.size-(j+1)<ds.length then s[j].toNat=48+dg ds (s.size-(j+1)) else s[j].toNat=45:=by
 have e:s[j]=s.data.toList[j]'(by rw[Array.length_toList];exact hj):=by rw[Array.getElem_toList];rfl
 rw[e]
 have key:∀ (l:List UInt8) (hl:j<l.length),l=(if neg then [45] else [])++ds.reverse.map chr -> if s.size-(j+1)<ds.length then(l[j]).toNat=48+dg ds (s.size-(j+1)) else(l[j]).toNat=45:=by
  intro l hl h;subst h;have hdig:=hd (s.size-(j+1));cases neg
  ·simp only[Bool.false_eq_true,if_false,Nat.add_zero] at hsz;rw[if_pos (by omega)];simp only[Bool.false_eq_true,if_false,List.nil_append,List.getElem_map,List.getElem_reverse];rw[<- chr_toNat hdig,dg_lt (by omega)];congr 3;omega
  ·simp only[if_true] at hsz
   rcases j with _ | j
   ·rw[if_neg (by omega)];rfl
   ·rw[if_pos (by omega)];simp only[if_true,List.singleton_append,List.getElem_cons_succ,List.getElem_map,List.getElem_reverse];rw[<- chr_toNat hdig,dg_lt (by omega)];congr 3;omega
 exact key _ _ hs
theorem take_succ_dV{ds:List Nat}{k:Nat}(h:k<ds.length):(ds.take (k+1)).map dV=(ds.take k).map dV++ [.int .i64 (dg ds k:Nat)]:=by
 rw[List.take_succ_eq_append_getElem h,List.map_append,dg_lt h];rfl
set_option maxHeartbeats 400000 in
theorem rdigits_any(s:ByteArray)(ds:List Nat)(neg:Bool)(w:World)(hs:s.data.toList=(if neg then [45] else [])++ds.reverse.map chr)(hd:T.Dig ds)(hl:ds.length <= 1099511627776):
  Calls Tryz.prog 98 #[.string s] w fun e w'=>∃v,e= .returned v /\ IsD w' v (T.digs (T.val ds)) /\ Below w.heap.size w w':=by
 obtain⟨i0,hi0,hz0,hz1,hz2⟩:=info_parts info64
 have hsz:s.size=ds.length+ (if neg then 1 else 0):=by
  have:=congrArg List.length hs;rw[List.length_append,List.length_map,List.length_reverse] at this;have e:s.size=s.data.toList.length:=by rw[Array.length_toList];rfl
  rw[e,this];cases neg <;> simp <;> omega
 have hn1:s.size <= 1099511627777:=by rw[hsz];split <;> omega
 have hbig:ds.length <= s.size:=by rw[hsz];omega
 have hnm:s.size <= 9223372036854775807:=by omega
 have HS:=lH hs;have HSZ:=lH hsz;have HD:=lH hd;have HN1:=lH hn1;have HL:=lH hl;have HBIG:=lH hbig;clear hs hsz hd hn1 hl hbig;go_enter Tryz.func98,Tryz.ntmps98
 go_wp2
 go_loopw [3,4] (fun ov iv wr=>∃j:Nat,j <= s.size /\ iv= .int .i64 ((j:Int)-1) /\ Hid (wr.ownsRow w.heap.size 3 1 ov (ds.take (s.size-j)).length ((ds.take (s.size-j)).map dV)) /\ Below w.heap.size w wr) (fun _ iv _=>(intOf iv+1).toNat)
 case atStart=>exact⟨s.size,Nat.le_refl _,by simp,lH (by rw[Nat.sub_self];exact World.ownsRow_nil _ _ _ _),by first | exact Below.refl _ _ | go_grown⟩
 case round=>
  obtain⟨j,hj,rfl,hown,hbw⟩:=hrel
  rcases j with _ | j
  ·have hown0:=hown.out;rw[Nat.sub_zero,List.take_of_length_le HBIG.out] at hown0;obtain⟨A,c,hv,hc1,hc2,hc3⟩:=owns_IsD hown0;have HO:=lH hown0;have HC3:=lH hc3;clear hown0 hown hc3;subst hv;go_wp2_with fail
   refine(rtrim_walk _ _ _ ds _ rfl hc1 hc2 HC3.out HD.out).mono ?_;rintro e w2 ⟨rfl,hle2,rfl⟩;go_wp2_with fail
   go_returns;exact⟨_,rfl,⟨_,_,rfl,by omega,hc2,HC3.out.trimmed HD.out⟩,hbw⟩
  ·have hj1:((j:Nat):Int)<(s.size:Nat):=by omega
   have hby:=byte_at HS.out HSZ.out HD.out (j:=j) (by omega);obtain⟨x,hx⟩:∃x:Nat,s[j].toNat=x:=⟨_,rfl⟩
   rw[hx] at hby;by_cases hk:s.size-(j+1)<ds.length
   ·rw[if_pos hk] at hby;have hdb:=HD.out (s.size-(j+1));have hx1:48 <= ((x:Nat):Int):=by omega
    have hx2:((x:Nat):Int) <= 57:=by omega
    have hne:(((x:Nat):Int) !=45)=true:=by simp;omega
    have hlen:(ds.take (s.size-(j+1))).length=s.size-(j+1):=by rw[List.length_take];omega
    have HK:=lH hk;have HBY:=lH hby;have HLEN:=lH hlen;clear hk hby hlen
    go_wp2_with (at_builtin;refine wpList_append_own _ rfl (.tmp 16) (.tmp 22) 76 rfl w.heap.size 3 i0 (.int .i64 0) 1 8 Tryz.underlying76 hi0 hz0 hz1 hz2 rfl (by decide) _ _ _ rfl (hown.out.alloc _) ⟨wr.heap.size,0,none⟩ 1 1 [.int .i64 (((x:Nat):Int)-48)] rfl rfl ?c1 ?c2 ?c3 ?c4 ?c5 ?_)
    case c1=>
     intro j u hj
     rcases j with _ | j
     ·simp at hj;subst hj;simp[Addr.add]
     ·simp at hj
    case c2=>intro u hu;simp at hu;subst hu;rfl
    case c3=>have:=HN1.out;rw[HLEN.out];unfold maxLen;omega
    case c4=>have:=HN1.out;rw[HLEN.out];omega
    case c5=>
     have h1:=hbw.size;have h3:=size_alloc wr (.cells #[.int .i64 (((x:Nat):Int)-48)] 3);omega
    ·intro v' w1 hown' hgr hnn;have HOWN':=lH hown';have HGR:=lH hgr;clear hown' hgr hnn;go_wp2_with fail
     go_roundw
     case rel=>
      refine⟨j,by omega,by first | rfl | (congr 1;omega),lH ?_,?_⟩
      ·have h0:=HOWN'.out;have e1:s.size-j=s.size-(j+1)+1:=by omega
       rw[e1,List.length_take,Nat.min_eq_left (by have:=HK.out;omega),take_succ_dV HK.out];rw[Nat.min_eq_left (by have:=HK.out;omega), <- List.map_take] at h0;have e2:((x:Nat):Int)-48=(dg ds (s.size-(j+1)):Nat):=by have:=HBY.out;omega
       rw[e2] at h0;exact h0
      ·have h1:=(boxes1 wr (.cells #[.int .i64 (((x:Nat):Int)-48)] 3)).2.2;have h2:=hbw.trans (h1.mono hbw.size);refine h2.grown HGR.out h2.size ?_;intro k hk;have:=(hown.out.lt k hk).1;omega
     case measure=>exact mZ
   ·rw[if_neg hk] at hby;have hne:(((x:Nat):Int) !=45)=false:=by simp;omega
    have HK:=lH hk;have HBY:=lH hby;clear hk hby;go_wp2_with fail
    go_roundw
    case rel=>
     refine⟨j,by omega,by first | rfl | (congr 1;omega),lH ?_,hbw⟩;have h0:=hown.out;rw[List.take_of_length_le (by have:=HK.out;omega)] at h0 ⊢;exact h0
    case measure=>exact mZ
theorem rdigits_walk(a:Int)(w:World)(hl:(T.digs a.natAbs).length<1099511627776):
  Calls Tryz.prog 98 #[.string (txt a)] w fun e w'=>∃v,e= .returned v /\ IsD w' v (T.digs a.natAbs) /\ Below w.heap.size w w':=by
 by_cases h0:a=0
 ·subst h0;have:=rdigits_any (txt 0) [0] false w (by rw[txt_list,itoa_zero];rfl) (T.Dig.cons (by omega) T.Dig.nil) (by simp);rw[show T.val [0]=0 from rfl] at this;exact this
 ·have hp:0<a.natAbs:=by omega
  have:=rdigits_any (txt a) (T.digs a.natAbs) (decide (a<0)) w (by
   rw[txt_list, <- itoa_of _ _ hp];congr 1;by_cases h:a<0
   ·rw[decide_eq_true h,if_pos rfl];omega
   ·rw[decide_eq_false h,if_neg (by simp)];omega) (T.dig_digs _) (by omega)
  rw[T.val_digs] at this;exact this
end
end Go.Proofs.YtdefghfjhgmpfaaGreatDoor
