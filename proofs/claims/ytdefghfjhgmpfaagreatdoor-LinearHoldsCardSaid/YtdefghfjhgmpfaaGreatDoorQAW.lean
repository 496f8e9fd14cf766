/- Parts of this proof: RDivMod RMulW RGcd QCheck. -/
import Derived.Test.YtdefghfjhgmpfaaGreatDoorQAV
import Derived.Test.YtdefghfjhgmpfaaGreatDoorQAJ
import Derived.Test.YtdefghfjhgmpfaaGreatDoorQAU
import Derived.Test.YtdefghfjhgmpfaaGreatDoorQAD
namespace Go.Proofs.YtdefghfjhgmpfaaGreatDoor
section
open Go.RowKit
set_option maxHeartbeats 3200000 in
theorem rdivmod_walk(a b:Int)(w:World)(ha:FewM a)(hb:FewM b)(hb0:b≠0):
  Calls Tryz.prog 96 #[.string (txt a), .string (txt b)] w fun e w'=>e= .returned (.tuple #[.string (txt (Int.fdiv a b)), .string (txt (Int.fmod a b))]) /\ Below w.heap.size w w':=by
 obtain⟨i0,hi0,hz0,hz1,hz2⟩:=info_parts info64;have HFA:=lH ha;have HFB:=lH hb;have HBN:=lH hb0;clear ha hb hb0;obtain⟨SQ,hSQ⟩:=eX (txt (Int.fdiv a b));obtain⟨SR,hSR⟩:=eX (txt (Int.fmod a b));rw[<- hSQ, <- hSR];have HSQ:=lH hSQ;have HSR:=lH hSR;clear hSQ hSR;go_enter Tryz.func96,Tryz.ntmps96;go_wp2_with fail
 refine(rdigits_walk a _ HFA.out.few.lt).mono ?_;rintro e w2 ⟨v1,rfl,hv1,hb1⟩;have HV1:=lH hv1;have HB1:=lH hb1;clear hv1 hb1;go_wp2_with fail
 refine(rdigits_walk b _ HFB.out.few.lt).mono ?_;rintro e w3 ⟨v2,rfl,hv2,hb2⟩;have HV2:=lH hv2;have HV1':=lH (HV1.out.below hb2);have HBW:=lH (HB1.out.trans (hb2.mono HB1.out.size));clear hv2 hb2 HV1 HB1;have hdla:=T.dig_digs a.natAbs;have hla:=HFA.out;have hlb:=HFB.out;unfold FewM at hla hlb;have hva:=T.val_digs a.natAbs;have h1:=HV1'.out;generalize T.digs a.natAbs=la at*;obtain⟨bn,hbn⟩:=eX (b.natAbs);have hbp:0<bn:=by have:=HBN.out;omega
 rw[<- hbn] at hlb;have h2:=HV2.out;rw[<- hbn] at h2;have HV2:=lH h2;clear h2;obtain⟨A,ca,rfl,_,_,hua⟩:=h1;have HUA:=lH hua;have HDA:=lH hdla;have HLA:=lH hla;have HLB:=lH hlb;have HVA:=lH hva;have HBP:=lH hbp;have HBN2:=lH hbn;have hlam:la.length <= 4611686018427387000:=by omega
 clear hua hdla hla hlb hva HV1' hbp hbn
 go_wp2_with (at_make;refine wpList_mk _ rfl (.tmp 16) (.tmp 16) 76 rfl 3 i0 (.int .i64 0) Tryz.underlying76 hi0 hz0 hz1 rfl _ _ la.length rfl rfl rfl rfl (by rw[hz2];have:=HLA.out;omega) (by have:=HLA.out;unfold maxLen;omega) ?_)
 intro w4 hrow hb4 hs4;have HR:=lH (Row64.made hrow);have HB4:=lH hb4;have HS4:=lH hs4;clear hrow hb4 hs4;go_wp2_with fail
 go_loopw [8,10] (fun rv iv wr=>∃ (j r:Nat) (lo:List Nat),((j:Nat):Int) <= (la.length:Nat) /\ iv= .int .i64 ((j:Int)-1) /\ Hid (FreshD (w3.heap.size+1) wr rv (T.digs r)) /\ Hid (r<bn) /\ Hid (Row64 wr w3.heap.size lo) /\ Hid (lo.length=la.length) /\ Hid (T.Dig lo) /\ Hid (T.val (la.drop j)=bn*T.val (lo.drop j)+r) /\ Hid (∀m,m<j -> dg lo m=0) /\ Hid (Below w3.heap.size w3 wr)) (fun _ iv _=>(intOf iv+1).toNat)
 case atStart=>
  refine⟨la.length,0,_,by omega,rfl,lH ?_,HBP,HR,lH List.length_replicate,lH (T.Dig.replicate _),lH ?_,lH (fun m _=>by rw[dg_replicate];split <;> rfl),HB4⟩
  ·rw[T.digs_zero];exact FreshD.nil _ _
  ·rw[List.drop_eq_nil_of_le (Nat.le_refl _),List.drop_eq_nil_of_le (by rw[List.length_replicate];exact Nat.le_refl _)];rfl
 case round=>
  obtain⟨j,r,lo,hj,rfl,hfr,hrb,hrow,hlo,hdlo,hinv,hzero,hbw⟩:=hrel
  rcases j with _ | j
  ·have hend:=hinv.out;rw[List.drop_zero,List.drop_zero,HVA.out] at hend
   have hqv:T.val lo=a.natAbs / b.natAbs:=by
    rw[hend, <- HBN2.out,Nat.mul_add_div HBP.out,Nat.div_eq_of_lt hrb.out,Nat.add_zero]
   have hrv:r=a.natAbs%b.natAbs:=by
    rw[hend, <- HBN2.out,Nat.mul_add_mod,Nat.mod_eq_of_lt hrb.out]
   obtain⟨hp1,hp2,_⟩:=sgI_mul a b;have hpt:=fdiv_text (a:=a) HBN.out;obtain⟨p,hp⟩:∃p,sgI a*sgI b=p:=⟨_,rfl⟩
   have hpt:=hpt p hp;rw[hp] at hp1 hp2;obtain⟨q0,hq0⟩:=eX (sgn (decide (a<0) !=decide (b<0)) (a.natAbs / b.natAbs));obtain⟨r0,hr0⟩:=eX (sgn (decide (a<0)) (a.natAbs%b.natAbs));have hqr:=quot_rest a b HBN.out q0 r0 hq0 hr0;have hx1:txt (sgn (decide (p<0)) (T.val lo))=txt q0:=by rw[hqv,hpt, <- hq0]
   have hx2:txt (sgn (isNeg a) r)=txt r0:=by rw[isNeg_eq,hrv, <- hr0]
   have hfq:Few q0:=by
    unfold Few;rw[hq0,sgn_natAbs];have h1:=T.digs_len_mono (Nat.div_le_self a.natAbs b.natAbs);have h2:=HFA.out;unfold FewM at h2;omega
   have hfr0:Few r0:=by
    unfold Few;rw[hr0,sgn_natAbs];have h1:=T.digs_len_mono (Nat.mod_le a.natAbs b.natAbs);have h2:=HFA.out;unfold FewM at h2;omega
   have hisd:=hrow.out.isD (n:=la.length) hlo.out.symm (by have:=HLA.out;unfold maxLen;omega);have HISD:=lH hisd;have HX1:=lH hx1;have HX2:=lH hx2;have HQR:=lH hqr;have HFQ:=lH hfq;have HFR0:=lH hfr0
   have hlr:(T.digs r).length <= 1099511627776:=by
    have h1:=T.digs_len_mono (Nat.le_of_lt hrb.out);have:=HLB.out;omega
   have HLR:=lH hlr;clear hend hqv hrv hpt hq0 hr0 hqr hx1 hx2 hfq hfr0 hisd hlr;go_wp2_with fail
   refine(rsign_walk a _).mono ?_;rintro e w5 ⟨rfl,rfl⟩;go_wp2_with fail
   refine(rsign_walk b _).mono ?_;rintro e w5 ⟨rfl,rfl⟩;go_wp2_with fail
   refine(rtext_walk (decide (p<0)) _ lo _ HISD.out hdlo.out (by have:=HLA.out;rw[hlo.out];omega)).mono ?_;rintro e w6 ⟨rfl,hb6⟩;rw[HX1.out];have HB6:=lH hb6;clear hb6;go_wp2_with fail
   refine(rsign_walk a _).mono ?_;rintro e w5 ⟨rfl,rfl⟩;go_wp2_with fail
   refine(rtext_walk (isNeg a) _ (T.digs r) _ (hfr.out.isD.below HB6.out) (T.dig_digs r) HLR.out).mono ?_;rintro e w7 ⟨rfl,hb7⟩;rw[T.val_digs,HX2.out];have HBW7:=lH ((HBW.out.trans (hbw.out.mono HBW.out.size)).trans ((HB6.out.trans (hb7.mono HB6.out.size)).mono (Nat.le_trans HBW.out.size hbw.out.size)));clear hb7;by_cases hr00:r0=0
   ·subst hr00;have hfin:=floor_same HQR.out (.inl rfl);have e1:txt q0=SQ:=by rw[HSQ.out,hfin.1]
    have e2:txt 0=SR:=by rw[HSR.out, <- hfin.2]
    have hne:(txt 0).toList= [48]:=by rw[txt_zero,ByteArray.toList_eq]
    rw[e1];rw[e2] at hne ⊢;clear hfin e1 e2;go_wp2_with fail
    go_returns;exact⟨rfl,HBW7.out⟩
   ·have hne0:=txt_ne0 hr00;have hne:¬(txt r0).toList= [48]:=by rw[beq_eq_false_iff_ne] at hne0;exact hne0
    by_cases hs:sgI r0=sgI b
    ·have hsb:(sgI r0 !=sgI b)=false:=by rw[hs];simp
     have hdd:decide (r0<0)=decide (b<0):=by rw[<- isNeg_eq, <- isNeg_eq];unfold isNeg;rw[hs]
     have hfin:=floor_same HQR.out (.inr hdd);have e1:txt q0=SQ:=by rw[HSQ.out,hfin.1]
     have e2:txt r0=SR:=by rw[HSR.out, <- hfin.2]
     have HE1:=lH e1;have HE2:=lH e2;clear hs hdd hfin e1 e2;go_wp2_with fail
     refine(rsign_walk r0 _).mono ?_;rintro e w5 ⟨rfl,rfl⟩;go_wp2_with fail
     refine(rsign_walk b _).mono ?_;rintro e w5 ⟨rfl,rfl⟩;go_wp2_with fail
     go_returns;refine⟨?_,HBW7.out⟩;rw[<- HE1.out, <- HE2.out];rfl
    ·have hsb:(sgI r0 !=sgI b)=true:=by simp[hs]
     have hdd:decide (r0<0)≠decide (b<0):=by
      intro h;apply hs;have h1:sgI r0=if r0<0 then -1 else 1:=by unfold sgI;rw[if_neg hr00]
      have h2:sgI b=if b<0 then -1 else 1:=by unfold sgI;rw[if_neg HBN.out]
      rw[h1,h2];by_cases h3:r0<0
      ·rw[decide_eq_true h3] at h;rw[if_pos h3,if_pos (of_decide_eq_true h.symm)]
      ·rw[decide_eq_false h3] at h;rw[if_neg h3,if_neg (of_decide_eq_false h.symm)]
     have hfin:=floor_other HQR.out hr00 hdd;have e1:txt (q0-1)=SQ:=by rw[HSQ.out,hfin.1]
     have e2:txt (r0+b)=SR:=by rw[HSR.out, <- hfin.2]
     have h1t:(⟨#[49]⟩:ByteArray)=txt 1:=by unfold txt;rw[itoa_nonneg' (by omega)];show _=(⟨(Lib.decDigits 1).toArray⟩:ByteArray);rw[Lib.decDigits_one (by omega)];rfl
     have hs1:=fun W=>rsub_walk q0 1 W HFQ.out (by unfold Few;show(T.digs 1).length<_;rw[T.digs_pos (by omega),show 1 / T.BB=0 from rfl,T.digs_zero];decide)
     rw[e1, <- h1t] at hs1;have ha1:=fun W=>radd_walk r0 b W HFR0.out HFB.out.few
     rw[e2] at ha1;have HS1:=lH hs1;have HA1:=lH ha1;clear hs hdd hfin e1 e2 h1t hs1 ha1;go_wp2_with fail
     refine(rsign_walk r0 _).mono ?_;rintro e w5 ⟨rfl,rfl⟩;go_wp2_with fail
     refine(rsign_walk b _).mono ?_;rintro e w5 ⟨rfl,rfl⟩;go_wp2_with fail
     refine(HS1.out _).mono ?_;rintro e w8 ⟨rfl,hb8⟩;have HB8:=lH (HBW7.out.trans (hb8.mono HBW7.out.size));clear hb8;go_wp2_with fail
     refine(HA1.out _).mono ?_;rintro e w9 ⟨rfl,hb9⟩;have HB9:=lH (HB8.out.trans (hb9.mono HB8.out.size));clear hb9;go_wp2_with fail
     go_returns;exact⟨rfl,HB9.out⟩
  ·obtain⟨wo,rfl⟩:=eX (wr);obtain⟨ba,oa,rfl,hba,hca⟩:=Cells.at_ HUA.out (by omega);have hcx:=((bbelow hbw.out).1 ba (oa+j) hba).trans (hca j (by omega));have hjl:((j:Nat):Int)<(la.length:Nat):=by omega
   have hdx:((dg la j:Nat):Int)<10:=by have:=HDA.out j;omega
   have hlr:(1+ (T.digs r).length <= maxLen) /\ (1+ (T.digs r).length)*8 <= 140737488355328:=by
    have h1:=T.digs_len_mono (Nat.le_of_lt hrb.out);have h2:=HLB.out;unfold maxLen;omega
   have HLR:=lH hlr;have hg1:w3.heap.size+1 <= wo.heap.size:=by have:=hrow.out.lt;omega
   have HG1:=lH hg1;clear hca hlr hg1
   go_wp2_with (at_builtin;refine wpList_prepend _ rfl (.tmp 29) (.tmp 30) 76 rfl 3 i0 (.int .i64 0) 8 Tryz.underlying76 hi0 hz0 hz1 hz2 rfl (.int .i64 (dg la j:Nat)) rfl _ _ _ hfr.out rfl HLR.out ?_)
   intro v5 w5 hown5 hb5;have hfresh:=Owns1.fresh (l:=dg la j::T.digs r) hown5;have HFR5:=lH hfresh;have HB5:=lH hb5;clear hown5 hb5 hfresh;go_wp2_with fail
   refine(rtrim_fresh _ _ (dg la j::T.digs r) _ HFR5.out (T.Dig.cons (HDA.out j) (T.dig_digs r))).mono ?_;rintro e w6 ⟨v6,rfl,hf6,rfl⟩;rw[val_cons10] at hf6;obtain⟨R0,hR0⟩:=eX (dg la j+10*r);rw[<- hR0] at hf6;have HF6:=lH (hf6.mono HG1.out);have HR0:=lH hR0;have hR10:R0<10*bn:=by have:=hrb.out;omega
   have HR10:=lH hR10;have hrow5:Row64 w5 w3.heap.size lo:=hrow.out.below HB5.out hrow.out.lt;have HROW5:=lH hrow5;have HBW5:=lH (hbw.out.trans (HB5.out.mono hbw.out.size));clear hf6 hR0 hR10 hrow5;go_wp2_with fail
   go_loopg [8] R0 (fun g rv wr=>∃ (q r':Nat),Hid (g=r') /\ Hid (bn*q+r'=R0) /\ Hid (FreshD (w3.heap.size+1) wr rv (T.digs r')) /\ Hid (Row64 wr w3.heap.size (lo.set j q)) /\ Hid (Below w3.heap.size w3 wr))
   case atStart=>
    refine⟨0,R0,lH rfl,lH (by simp),HF6,lH ?_,HBW5⟩
    have e:lo.set j 0=lo:=by
     apply ext_dg (by simp);intro m hm;rw[dg_set];split
     ·rename_i h;rw[<- h.1];exact(hzero.out j (by omega)).symm
     ·rfl
    rw[e];exact HROW5.out
   case round=>
    obtain⟨q,r',hg,hq,hfr',hrow',hbw'⟩:=hrel
    have hlr':(T.digs r').length<1000000000:=by
     have h0:r' <= 10*bn:=by have:=hq.out;have:=HR10.out;omega
     have h1:=T.digs_len_mono h0
     have h2:(T.digs (10*bn)).length <= (T.digs bn).length+1:=by
      refine T.digs_len_le ?_;rw[Nat.pow_succ];have:=T.lt_pow_digs bn;rw[Nat.mul_comm,T.BB_eq] at*;omega
     have h3:=HLB.out;omega
    have HLR':=lH hlr';have HV2':=lH (HV2.out.below hbw'.out);have hq9:bn*q <= R0:=by have:=hq.out;omega
    have HQ9:=lH hq9;clear hlr' hq9;by_cases hge:bn <= r'
    ·have hor:(0:Int) <= ordN r' bn:=by unfold ordN;split <;> (try split) <;> omega
     have HGE:=lH hge;clear hge;go_wp2_with fail
     refine(rorder_walk _ _ r' bn _ hfr'.out.isD HV2'.out (Nat.lt_trans HLR'.out (by decide)) (by have:=HLB.out;omega)).mono ?_;rintro e w7 ⟨rfl,hd⟩;have HBD:=lH (hd.below wo.heap.size);have hfr7:=hfr'.out.below (hd.below _);have hv27:=HV2'.out.below (hd.below _);have hrow7:=hrow'.out.below (hd.below _) hrow'.out.lt;have hbw7:=hbw'.out.trans (hd.below _);have HFR7:=lH hfr7;have HV27:=lH hv27;have HROW7:=lH hrow7;have HBW7:=lH hbw7;clear hd hfr7 hv27 hrow7 hbw7;go_wp2_with fail
     refine(rminus_fresh _ _ r' bn _ HFR7.out.isD HV27.out (Nat.lt_trans HLR'.out (by decide)) HGE.out).mono ?_;rintro e w8 ⟨v8,rfl,hf8,hb8⟩;have hrow8:Row64 w8 w3.heap.size (lo.set j q):=HROW7.out.below hb8 HROW7.out.lt;have hjl8:j<(lo.set j q).length:=by rw[List.length_set,hlo.out];omega
     have hc8:=hrow8.cell hjl8;have hcf8:=hrow8.free j
     have hq9:q<9:=by
      have h1:=hq.out;have h2:=HR10.out;have h3:=HGE.out
      rcases Nat.lt_or_ge q 9 with h | h
      ·exact h
      ·have:=Nat.mul_le_mul_left bn h;omega
     rw[dg_set,if_pos ⟨rfl,by rw[hlo.out];omega⟩] at hc8;have hq9':((q:Nat):Int)<9:=by omega
     have HF8:=lH (hf8.mono (B':=w3.heap.size+1) (by have:=HROW7.out.lt;omega));have HB8:=lH (HBW7.out.trans (hb8.mono HBW7.out.size));have HROW8:=lH hrow8;clear hf8 hb8 hrow8 hjl8 hq9;go_wp2_with fail
     go_roundg (r'-bn)
     case measure=>rw[hg.out];have:=HGE.out;have:=HBP.out;omega
     case rel=>
      refine⟨q+1,r'-bn,lH rfl,lH ?_,lH (HF8.out.set (by omega)),lH ?_,lH (HB8.out.setCell (Nat.le_refl _) _)⟩
      ·have:=hq.out;have:=HGE.out;rw[Nat.mul_add];omega
      ·have:=HROW8.out.set j (q+1) (v:= .int .i64 (((q:Nat):Int)+1)) (by simp);rw[List.set_set] at this;exact this
    ·have hor:ordN r' bn<(0:Int):=by unfold ordN;split <;> (try split) <;> omega
     have hord:decide ((0:Int) <= ordN r' bn)=false:=decide_eq_false (by omega);have HLT:Hid (r'<bn):=lH (by omega);clear hge;go_wp2_with fail
     refine(rorder_walk _ _ r' bn _ hfr'.out.isD HV2'.out (Nat.lt_trans HLR'.out (by decide)) (by have:=HLB.out;omega)).mono ?_;rintro e w7 ⟨rfl,hd⟩;have HFR7:=lH (hfr'.out.below (hd.below _));have HROW7:=lH (hrow'.out.below (hd.below _) hrow'.out.lt);have HBW7:=lH (hbw'.out.trans (hd.below _));clear hd;go_wp2_with fail
     go_roundw
     case rel=>
      have hq10:q<10:=by
       have h1:=hq.out;have h2:=HR10.out
       rcases Nat.lt_or_ge q 10 with h | h
       ·exact h
       ·have:=Nat.mul_le_mul_left bn h;omega
      refine⟨j,r',lo.set j q,by omega,by first | rfl | (congr 1;omega),HFR7,HLT,HROW7,lH (by rw[List.length_set];exact hlo.out),lH (hdlo.out.set _ _ hq10),lH (div_round (by omega) hlo.out hinv.out (by rw[hq.out];exact HR0.out)),lH (fun m hm=>by rw[dg_set,if_neg (by omega)];exact hzero.out m (by omega)),HBW7⟩
     case measure=>exact mZ
end
section
open Go.RowKit
set_option maxHeartbeats 1600000 in
theorem rmul_walk(a b:Int)(w:World)(ha:FewM a)(hb:FewM b):
  Calls Tryz.prog 72 #[.string (txt a), .string (txt b)] w fun e w'=>e= .returned (.string (txt (a*b))) /\ Below w.heap.size w w':=by
 obtain⟨i0,hi0,hz0,hz1,hz2⟩:=info_parts info64;have HFA:=lH ha;have HFB:=lH hb;clear ha hb;obtain⟨S,hS⟩:=eX (txt (a*b));rw[<- hS];have HS:=lH hS;clear hS;go_enter Tryz.func72,Tryz.ntmps72;go_wp2_with fail
 refine(rdigits_walk a _ HFA.out.few.lt).mono ?_;rintro e w2 ⟨v1,rfl,hv1,hb1⟩;have HV1:=lH hv1;have HB1:=lH hb1;clear hv1 hb1;go_wp2_with fail
 refine(rdigits_walk b _ HFB.out.few.lt).mono ?_;rintro e w3 ⟨v2,rfl,hv2,hb2⟩;have HV2:=lH hv2;have HV1':=lH (HV1.out.below hb2);have HBW:=lH (HB1.out.trans (hb2.mono HB1.out.size));clear hv2 hb2 HV1 HB1;have hdla:=T.dig_digs a.natAbs;have hdlb:=T.dig_digs b.natAbs;have hla:=HFA.out;have hlb:=HFB.out;unfold FewM at hla hlb;have hva:=T.val_digs a.natAbs;have hvb:=T.val_digs b.natAbs;have h1:=HV1'.out;have h2:=HV2.out;generalize T.digs a.natAbs=la at*;generalize T.digs b.natAbs=lb at*;obtain⟨A,ca,rfl,_,_,hua⟩:=h1;obtain⟨B,cb,rfl,_,_,hub⟩:=h2;have HUA:=lH hua;have HUB:=lH hub;have HDA:=lH hdla;have HDB:=lH hdlb;have HLA:=lH hla;have HLB:=lH hlb;have HVA:=lH hva;have HVB:=lH hvb;have hlam:la.length <= 4611686018427387000:=by omega
 have hlbm:lb.length <= 4611686018427387000:=by omega
 clear hua hub hdla hdlb hla hlb hva hvb HV1' HV2
 go_wp2_with (at_make;refine wpList_mk _ rfl (.tmp 21) (.tmp 21) 76 rfl 3 i0 (.int .i64 0) Tryz.underlying76 hi0 hz0 hz1 rfl _ _ (la.length+lb.length+1) rfl rfl (by push_cast;rfl) (by push_cast;rfl) (by rw[hz2];have:=HLA.out;have:=HLB.out;omega) (by have:=HLA.out;have:=HLB.out;unfold maxLen;omega) ?_)
 intro w4 hrow hb4 hs4;have HR:=lH (Row64.made hrow);have HB4:=lH hb4;have HS4:=lH hs4;clear hrow hb4 hs4;go_wp2_with fail
 go_loopw [8] (fun iv wr=>∃ (i:Nat) (lo:List Nat),((i:Nat):Int) <= (la.length:Nat) /\ iv= .int .i64 i /\ Hid (Row64 wr w3.heap.size lo) /\ Hid (lo.length=la.length+lb.length+1) /\ Hid (T.Dig lo) /\ Hid (T.val lo=T.val (la.take i)*T.val lb) /\ Hid (Below w3.heap.size w3 wr)) (fun iv _=>la.length-(intOf iv).toNat)
 case atStart=>exact⟨0,_,by omega,rfl,HR,lH List.length_replicate,lH (T.Dig.replicate _),lH (by rw[T.val_replicate];simp[T.val]),HB4⟩
 case round=>
  obtain⟨i,lo,hi,rfl,hrow,hlo,hdlo,hval,hbw⟩:=hrel;by_cases hil:((i:Nat):Int)<(la.length:Nat)
  ·obtain⟨wo,rfl⟩:=eX (wr);obtain⟨ba,oa,rfl,hba,hca⟩:=Cells.at_ HUA.out (by omega);have HCA:=lH hca;have hxb:((dg la i:Nat):Int)<10:=by have:=HDA.out i;omega
   clear hca;go_wp2_with fail
   go_loopw [9,10] (fun cv kv wr=>∃ (k c:Nat) (lo':List Nat),((k:Nat):Int) <= (lb.length:Nat)+1 /\ cv= .int .i64 c /\ kv= .int .i64 k /\ Hid (Row64 wr w3.heap.size lo') /\ Hid (lo'.length=la.length+lb.length+1) /\ Hid (T.Dig lo') /\ ((c:Nat):Int) <= 9 /\ Hid (lb.length<k -> c=0) /\ Hid (T.val lo'+T.BB^ (i+k)*c=T.val lo+T.BB^i* (dg la i*T.val (lb.take k))) /\ Hid (∀j,i+k <= j -> dg lo' j=dg lo j) /\ Hid (Below w3.heap.size w3 wr)) (fun _ kv _=>lb.length+1-(intOf kv).toNat)
   case atStart=>exact⟨0,0,lo,by omega,rfl,rfl,hrow,hlo,hdlo,by omega,lH (fun _=>rfl),lH (by simp[T.val]),lH (fun _ _=>rfl),hbw⟩
   case round=>
    obtain⟨k,c,lo',hk,rfl,rfl,hrow',hlo',hdlo',hc9,hcz,hinv,hsame,hbw'⟩:=hrel;have hmem:i+k<lo'.length \/ ¬(i+k<lo'.length):=by omega
    by_cases hkl:((k:Nat):Int)<(lb.length:Nat)
    ·obtain⟨bb,ob,rfl,hbb,hcb⟩:=Cells.at_ HUB.out (by omega);have hcx:=((bbelow hbw'.out).1 ba (oa+i) hba).trans (HCA.out i (by omega));have hcy:=((bbelow hbw'.out).1 bb (ob+k) hbb).trans (hcb k (by omega));have hik:i+k<lo'.length:=by have:=hlo'.out;omega
     have hco:=hrow'.out.cell hik;have hcf:=hrow'.out.free (i+k);have hyb:((dg lb k:Nat):Int)<10:=by have:=HDB.out k;omega
     have hob:((dg lo' (i+k):Nat):Int)<10:=by have:=hdlo'.out (i+k);omega
     obtain⟨p,hp⟩:∃p:Nat,((dg la i:Nat):Int)* ((dg lb k:Nat):Int)=(p:Nat):=⟨dg la i*dg lb k,by push_cast;rfl⟩
     have hpp:p=dg la i*dg lb k:=by have:=hp;exact_mod_cast this.symm
     have hp81:((p:Nat):Int) <= 81:=by
      have h1:dg la i*dg lb k <= 9*9:=Nat.mul_le_mul (by omega) (by omega);omega
     have HPP:=lH hpp;have HIK:=lH hik;clear hcb hmem hik hpp;go_wp2_with fail
     go_quiet (fail)
     go_wp2_with fail
     go_roundw
     case rel=>
      obtain⟨s,hs⟩:=eX (dg lo' (i+k)+c+p);have hsi:((dg lo' (i+k):Nat):Int)+ (c:Nat)+ (p:Nat)=(s:Nat):=by omega
      have hstep:=rmul_inner (lo:=lo) (lb:=lb) (V:=T.val lo) (x:=dg la i) (s:=s) HIK.out hinv.out (by rw[hs,HPP.out]) hsame.out;refine⟨k+1,s / 10,lo'.set (i+k) (s%10),by omega,?_,by simp,lH ((hrow'.out.drewN _).set (i+k) (s%10) ?_),lH (by rw[List.length_set];exact hlo'.out),lH (hdlo'.out.set _ _ (Nat.mod_lt _ (by decide))),by omega,lH (fun h=>by omega),lH hstep.1,lH hstep.2,lH ((hbw'.out.trans (below_drewN _ _ _)).setCell (Nat.le_refl _) _)⟩
      ·rw[hsi];congr 1
      ·rw[hsi];congr 1
     case measure=>simp[intOf];omega
    ·have hkl':((lb.length:Nat):Int) <= (k:Nat):=by omega
     by_cases hc0:c=0
     ·subst hc0
      have hval':T.val lo'=T.val (la.take (i+1))*T.val lb:=by
       have:=hinv.out;rw[Nat.mul_zero,Nat.add_zero,T.val_take_of_le (by omega),hval.out] at this;rw[this,T.val_take_succ,Nat.add_mul,Nat.mul_assoc]
      have HV:=lH hval';have hdk:decide (k<lb.length)=false:=decide_eq_false (by omega);clear hkl hmem hval';go_wp2_with fail
      go_roundw
      case rel=>exact⟨i+1,lo',by omega,by go_num,hrow',hlo',hdlo',HV,hbw'⟩
      case measure=>simp[intOf];omega
     ·have hkb:k=lb.length:=by
       rcases Nat.lt_or_ge lb.length k with h | h
       ·exact absurd (hcz.out h) hc0
       ·omega
      have hik:i+k<lo'.length:=by have:=hlo'.out;omega
      have hdz:dg lo' (i+k)=0:=by
       rw[hsame.out (i+k) (Nat.le_refl _),hkb];refine dgT_zero (n:=i+lb.length) ?_ (Nat.le_refl _);rw[hval.out,Nat.pow_add];have h1:=T.val_lt (T.Dig.take HDA.out i);rw[List.length_take,Nat.min_eq_left (by omega)] at h1;have h2:=T.val_lt HDB.out;exact Nat.mul_lt_mul'' h1 h2
      have hco:=hrow'.out.cell hik;have hcf:=hrow'.out.free (i+k);rw[hdz] at hco;have hyz:dg lb k=0:=dg_ge (by omega);have hcpos:(0:Int)<((c:Nat):Int):=by omega
      have hcp2:decide (0<c)=true:=decide_eq_true (by omega);have hdk:decide (k<lb.length)=false:=decide_eq_false (by omega);have HIK:=lH hik;have HDZ:=lH hdz;have HYZ:=lH hyz;have HKB:=lH hkb;have HC0:=lH hc0;clear hkl hmem hdz hyz hkb hc0 hik;go_wp2_with fail
      go_roundw
      case rel=>
       have hstep:=rmul_inner (lo:=lo) (lb:=lb) (V:=T.val lo) (x:=dg la i) (s:=c) HIK.out hinv.out (by rw[HDZ.out,HYZ.out];omega) hsame.out;refine⟨k+1,c / 10,lo'.set (i+k) (c%10),by have:=HKB.out;omega,by simp,by simp,lH (hrow'.out.set (i+k) (c%10) (by simp)),lH (by rw[List.length_set];exact hlo'.out),lH (hdlo'.out.set _ _ (Nat.mod_lt _ (by decide))),by omega,lH (fun h=>by omega),lH hstep.1,lH hstep.2,lH (hbw'.out.setCell (Nat.le_refl _) _)⟩
      case measure=>have:=HKB.out;simp[intOf];omega
  ·have hend:T.val lo=a.natAbs*b.natAbs:=by
    have:=hval.out;rw[T.val_take_of_le (by omega),HVA.out,HVB.out] at this;exact this
   have HEND:=lH hend;clear hend;obtain⟨hp1,hp2,hp3⟩:=sgI_mul a b;obtain⟨p,hp⟩:∃p,sgI a*sgI b=p:=⟨_,rfl⟩
   rw[hp] at hp1 hp2 hp3;have HP3:=lH hp3;have hisd:=hrow.out.isD (n:=la.length+lb.length+1) hlo.out.symm (by have:=HLA.out;have:=HLB.out;unfold maxLen;omega);have HISD:=lH hisd;clear hp3 hisd;go_wp2_with fail
   refine(rsign_walk a _).mono ?_;rintro e w5 ⟨rfl,rfl⟩;go_wp2_with fail
   refine(rsign_walk b _).mono ?_;rintro e w5 ⟨rfl,rfl⟩;go_wp2_with fail
   refine(rtext_walk (decide (p<0)) _ lo _ HISD.out hdlo.out (by have:=HLA.out;have:=HLB.out;rw[hlo.out];omega)).mono ?_;rintro e w6 ⟨rfl,hb6⟩;have HB6:=lH ((HBW.out.trans (hbw.out.mono HBW.out.size)).trans (hb6.mono (Nat.le_trans HBW.out.size hbw.out.size)));rw[txt_sgn_of HS.out (by rw[HEND.out];exact HP3.out)];clear hb6;go_wp2_with fail
   go_returns;exact⟨rfl,HB6.out⟩
end
section
open Go.RowKit
theorem txt_abs(a:Int):txt (sgn false (T.val (T.digs a.natAbs)))=txt (a.natAbs:Nat):=by rw[T.val_digs];rfl
theorem fewM_nat{a:Int}(h:FewM a):FewM (a.natAbs:Nat):=by unfold FewM at*;rw[Int.natAbs_natCast];exact h
theorem fewM_le{a:Int}{n:Nat}(h:FewM a)(hn:n <= a.natAbs):FewM (n:Nat):=by
 unfold FewM at*;rw[Int.natAbs_natCast];exact Nat.lt_of_le_of_lt (T.digs_len_mono hn) h
set_option maxHeartbeats 800000 in
theorem rgcd_walk(a b:Int)(w:World)(ha:FewM a)(hb:FewM b):
  Calls Tryz.prog 95 #[.string (txt a), .string (txt b)] w fun e w'=>e= .returned (.string (txt (Nat.gcd a.natAbs b.natAbs:Nat))) /\ Below w.heap.size w w':=by
 have HFA:=lH ha;have HFB:=lH hb;clear ha hb;obtain⟨S,hS⟩:=eX (txt (Nat.gcd a.natAbs b.natAbs:Nat));rw[<- hS];have HS:=lH hS;clear hS;go_enter Tryz.func95,Tryz.ntmps95;go_wp2_with fail
 refine(rdigits_walk a _ HFA.out.few.lt).mono ?_;rintro e w2 ⟨v1,rfl,hv1,hb1⟩;have HV1:=lH hv1;have HB1:=lH hb1;clear hv1 hb1;go_wp2_with fail
 refine(rtext_walk false _ _ _ HV1.out (T.dig_digs _) HFA.out.few.le).mono ?_;rintro e w3 ⟨rfl,hb3⟩;rw[txt_abs];have HB3:=lH (HB1.out.trans (hb3.mono HB1.out.size));clear hb3;go_wp2_with fail
 refine(rdigits_walk b _ HFB.out.few.lt).mono ?_;rintro e w4 ⟨v2,rfl,hv2,hb4⟩;have HV2:=lH hv2;have HB4:=lH (HB3.out.trans (hb4.mono HB3.out.size));clear hv2 hb4;go_wp2_with fail
 refine(rtext_walk false _ _ _ HV2.out (T.dig_digs _) HFB.out.few.le).mono ?_;rintro e w5 ⟨rfl,hb5⟩;rw[txt_abs];have HB5:=lH (HB4.out.trans (hb5.mono HB4.out.size));clear hb5;go_wp2_with fail
 go_loopg [5,6] b.natAbs (fun g xv yv wr=>∃x y:Nat,xv= .string (txt (x:Nat)) /\ yv= .string (txt (y:Nat)) /\ Hid (g=y) /\ Hid (Nat.gcd x y=Nat.gcd a.natAbs b.natAbs) /\ Hid (FewM (x:Nat)) /\ Hid (FewM (y:Nat)) /\ Hid (Below w.heap.size w wr))
 case atStart=>exact⟨a.natAbs,b.natAbs,rfl,rfl,lH rfl,lH rfl,lH (fewM_nat HFA.out),lH (fewM_nat HFB.out),HB5⟩
 case round=>
  obtain⟨x,y,rfl,rfl,hg,hgcd,hfx,hfy,hbw⟩:=hrel;by_cases hy:y=0
  ·subst hy
   have hxS:txt (x:Nat)=S:=by
    rw[HS.out, <- hgcd.out,Nat.gcd_zero_right]
   have h48:(txt ((0:Nat):Int)).toList= [48]:=by rw[show((0:Nat):Int)=0 from rfl,txt_zero,ByteArray.toList_eq]
   have h48b:((txt ((0:Nat):Int)).toList== [48])=true:=by rw[h48];rfl
   have h48c:((txt (0:Int)).toList== [48])=true:=h48b;have h48d:(txt (0:Int)).toList= [48]:=h48;rw[hxS];clear hxS h48 h48b;go_wp2_with fail
   go_returns;exact⟨rfl,hbw.out⟩
  ·have hyi:((y:Nat):Int)≠0:=by omega
   have h48b:=txt_ne0 hyi;have h48:¬(txt ((y:Nat):Int)).toList= [48]:=by rw[beq_eq_false_iff_ne] at h48b;exact h48b
   have HYI:=lH hyi;clear hyi;go_wp2_with fail
   refine(rdivmod_walk x y _ hfx.out hfy.out HYI.out).mono ?_;rintro e w6 ⟨rfl,hb6⟩;have HB6:=lH (hbw.out.trans (hb6.mono hbw.out.size));have hmod:Int.fmod (x:Nat) (y:Nat)=((x%y:Nat):Int):=by rw[Int.fmod_eq_emod_of_nonneg _ (by omega)];rfl
   rw[hmod];clear hb6 hmod;go_wp2_with fail
   go_roundg (x%y)
   case measure=>rw[hg.out];exact Nat.mod_lt _ (by omega)
   case rel=>
    refine⟨y,x%y,rfl,rfl,lH rfl,lH ?_,hfy,lH ?_,HB6⟩
    ·rw[<- hgcd.out,Nat.gcd_comm x y,Nat.gcd_rec y x,Nat.gcd_comm]
    ·exact fewM_le hfy.out (by rw[Int.natAbs_natCast];exact Nat.le_of_lt (Nat.mod_lt _ (by omega)))
end
section
open Go.RowKit
theorem ba_ext{a b:ByteArray}(h:a.data.toList=b.data.toList):a=b:=by
 cases a with
 | mk da=>
  cases b with
  | mk db=>
   congr 1;exact Array.toList_inj.1 h
set_option maxHeartbeats 1600000 in
theorem parts_walk(s:ByteArray)(w:World)(hs:s.size <= 1000000000):Calls Tryz.prog 58 #[.string s] w fun e w'=>∃a b,e= .returned (.tuple #[.string a, .string b]) /\ a.data.toList=cutA s.data.toList /\ b.data.toList=partB s.data.toList /\ Below w.heap.size w w':=by
 obtain⟨k,hk⟩:=eX ((cutA s.data.toList).length)
 have hle:k <= s.size:=by
  have h1:=congrArg List.length (cut_join s.data.toList);rw[List.length_append,list_size] at h1;omega
 have HK:=lH hk;have HS:=lH hs;have hw:=lH ((slash_walk s w hs));rw[<- hk] at hw;clear hk hs;go_enter Tryz.func58,Tryz.ntmps58;go_wp2_with fail
 refine hw.out.mono ?_;rintro e w' ⟨rfl,rfl⟩;clear hw;by_cases he:k=s.size
 ·have hA:Hid (cutA s.data.toList=s.data.toList /\ partB s.data.toList= [49]):=lH (by
   have h1:=congrArg List.length (cut_join s.data.toList);rw[List.length_append,list_size, <- HK.out] at h1;have h2:cutR s.data.toList= []:=List.eq_nil_of_length_eq_zero (by omega)
   exact⟨cut_none h2,by unfold partB;rw[if_pos h2]⟩)
  have hei:((k:Nat):Int)=((s.size:Nat):Int):=by omega
  have heb:(((k:Nat):Int)== ((s.size:Nat):Int))=true:=by rw[beq_iff_eq];omega
  clear HK;subst he;go_wp2_with fail
  go_returns;exact⟨_,_,rfl,hA.out.1.symm,hA.out.2.symm,Below.refl _ _⟩
 ·have hA:Hid (cutA s.data.toList=s.data.toList.take k /\ partB s.data.toList=s.data.toList.drop (k+1)):=lH (by
   have h1:=congrArg List.length (cut_join s.data.toList);rw[List.length_append,list_size, <- HK.out] at h1;have h2:cutR s.data.toList≠ []:=fun e=>by rw[e] at h1;simp at h1;exact he h1
   have h3:=cut_some h2;obtain⟨a,ha⟩:=eX (cutA s.data.toList);obtain⟨b,hb⟩:=eX (cutB s.data.toList);have h4:k=a.length:=by rw[ha];exact HK.out
   unfold partB;rw[if_neg h2, <- ha, <- hb,h3, <- ha, <- hb,h4]
   exact⟨by simp,by simp⟩)
  have heb:(((k:Nat):Int)== ((s.size:Nat):Int))=false:=by rw[beq_eq_false_iff_ne];omega
  have hei:¬((k:Nat):Int)=((s.size:Nat):Int):=by omega
  have hl1:((k:Nat):Int)+1 <= ((s.size:Nat):Int):=by omega
  have hki:((k:Nat):Int) <= ((s.size:Nat):Int):=by omega
  have hsi:((s.size:Nat):Int) <= 1000000000:=by have:=HS.out;omega
  clear HK he;go_wp2_with fail
  go_region
  go_wp2_with fail
  go_returns;refine⟨_,_,rfl,?_,?_,(Below.refl _ _).drew⟩
  ·rw[extract_list,hA.out.1];rfl
  ·rw[extract_list,hA.out.2,List.take_of_length_le (by rw[list_size];exact Nat.le_refl _)]
theorem txt_ba{s:ByteArray}{a:Int}(h:s.data.toList=Lib.itoa a):s=txt a:=ba_ext (by rw[h,txt_list])
theorem rchk_ref(l:List UInt8):rchk l=if dgs (body (cutA l))=false \/ dgs (partB l)=false then 14 else if(partB l).all (· ==48)=true then 19 else
  if(1<(body (cutA l)).length /\ (body (cutA l)).head? =some 48) \/ cutA l= [45,48] \/ (partB l).head? =some 48 then 3 else
  if cutR l≠ [] /\ (partB l= [49] \/ Nat.gcd (dv (body (cutA l))) (dv (partB l))≠1) then 3 else 0:=by
 have key:∀a:List UInt8,dgs (body a)=true -> (chk a=3↔(1<(body a).length /\ (body a).head? =some 48) \/ a= [45,48]):=by
  intro a ha;have h0:=dgs_not ha;unfold chk;rw[if_neg (fun e=>h0 (.inl e)),if_neg (fun e=>h0 (.inr e))];by_cases h48:(body a).head? =some 48
  ·by_cases hl:1<(body a).length
   ·rw[if_pos ⟨h48, .inl hl⟩];simp[hl,h48]
   ·by_cases h45: a.head? =some 45
    ·rw[if_pos ⟨h48, .inr h45⟩];simp only[hl,false_and,false_or,true_iff];cases a with
     | nil=>cases h45
     | cons c a=>
      obtain rfl:c=45:=by simpa using h45
      have hb:body (45::a)=a:=by unfold body;simp
      rw[hb] at h48 hl;cases a with
      | nil=>cases h48
      | cons d a=>
       obtain rfl:d=48:=by simpa using h48
       have:a= []:=List.eq_nil_of_length_eq_zero (by simp only[List.length_cons] at hl;omega);rw[this]
    ·rw[if_neg (fun e=>e.2.elim hl h45)];simp only[hl,false_and,false_or];refine⟨fun e=>by omega,fun e=> ?_⟩;rw[e] at h45;simp at h45
  ·rw[if_neg (fun e=>h48 e.1)];refine⟨fun e=>by omega,fun e=> ?_⟩
   rcases e with e | e
   ·exact absurd e.2 h48
   ·rw[e] at h48;simp[body] at h48
 by_cases hA:dgs (body (cutA l))=true
 ·have k:=key _ hA;have kd:=chk_dgs hA;by_cases hc:cutR l= []
  ·have hp:partB l= [49]:=by unfold partB;rw[if_pos hc]
   rw[hp,rchk_num hc,if_neg (by rw[hA];simp;decide),if_neg (by decide),if_neg (c:=cutR l≠ [] /\ _) (fun e=>e.1 hc)];by_cases h3:chk (cutA l)=3
   ·rw[h3,if_pos]
    rcases k.1 h3 with e | e
    ·exact .inl e
    ·exact .inr (.inl e)
   ·rw[if_neg]
    ·rcases kd with e | e
     ·exact e
     ·exact absurd e h3
    ·rintro(e | e | e)
     ·exact h3 (k.2 (.inl e))
     ·exact h3 (k.2 (.inr e))
     ·simp at e
  ·have hp:partB l=cutB l:=by unfold partB;rw[if_neg hc]
   rw[hp];by_cases hb:dgs (cutB l)=true
   ·rw[if_neg (by rw[hA,hb];simp)];by_cases hz:(cutB l).all (· ==48)=true
    ·rw[if_pos hz];exact rchk_zero hA hc hb hz
    ·have hz':(cutB l).all (· ==48)=false:=by simpa using hz
     rw[if_neg (by rw[hz'];simp)];unfold rchk;rw[if_neg hc,if_neg (fun e=>e.elim (chk_dgs_ne hA) (dgs_not hb)),if_neg (by rw[hz'];simp)];by_cases h3:chk (cutA l)=3
     ·rw[if_pos (.inl h3)]
      rcases k.1 h3 with e | e
      ·rw[if_pos (.inl e)]
      ·rw[if_pos (.inr (.inl e))]
     ·have kn:=fun e=>h3 (k.2 e)
      by_cases h48:(cutB l).head? =some 48
      ·rw[if_pos (.inr (.inl h48)),if_pos (.inr (.inr h48))]
      ·rw[if_neg (c:=_ \/ cutA l= [45,48] \/ _) (by rintro(e | e | e);exact kn (.inl e);exact kn (.inr e);exact h48 e)];by_cases h1:cutB l= [49] \/ Nat.gcd (dv (body (cutA l))) (dv (cutB l))≠1
       ·rw[if_pos (.inr (.inr h1)),if_pos ⟨hc,h1⟩]
       ·rw[if_neg (by rintro(e | e | e);exact h3 e;exact h48 e;exact h1 e),if_neg (fun e=>h1 e.2)]
   ·have hb':dgs (cutB l)=false:=by simpa using hb
    rw[if_pos (.inr hb')];exact rchk_syntax (.inr ⟨hc,hb'⟩)
 ·have hA':dgs (body (cutA l))=false:=by simpa using hA
  rw[if_pos (.inl hA')];exact rchk_syntax (.inl hA')
end
end Go.Proofs.YtdefghfjhgmpfaaGreatDoor
