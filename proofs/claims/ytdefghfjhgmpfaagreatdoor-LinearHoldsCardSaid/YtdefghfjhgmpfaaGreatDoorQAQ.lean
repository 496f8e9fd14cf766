/- Parts of this proof: RatH RatG Rats Less. -/
import Derived.Test.YtdefghfjhgmpfaaGreatDoorQAO
import Derived.Test.YtdefghfjhgmpfaaGreatDoorQAP
import Derived.Test.YtdefghfjhgmpfaaGreatDoorQAM
import Derived.Test.YtdefghfjhgmpfaaGreatDoorQAE
namespace Go.Proofs.YtdefghfjhgmpfaaGreatDoor
section
open Go.RowKit
open Lp (RL)
set_option maxHeartbeats 1600000 in
theorem rsubq_walk(va vb:Value)(a b:Rat)(w:World)(ha:IsRat w va a)(hb:IsRat w vb b)(hla:RL 1000000000000 a)(hlb:RL 1000000000000 b):
  Calls Tryz.prog 153 #[va,vb] w fun e w'=>∃v,e= .returned v /\ IsRat w' v (a-b) /\ Below w.heap.size w w':=by
 obtain⟨sa,Aa,la,ca,ta,Ba,ma,da,rfl⟩:=ha.shape;obtain⟨sb,Ab,lb,cb,tb,Bb,mb,db,rfl⟩:=hb.shape;have HLA:=lH hla;have HLB:=lH hlb;clear hla hlb;obtain⟨W,hW,RA,RB,RR,HB⟩:=eN3 w [.bool sa, .slice Aa la ca, .bool ta, .slice Ba ma da] 105 [.bool sb, .slice Ab lb cb, .bool tb, .slice Bb mb db] 105 [.bool false, .slice none 0 0, .bool false, .slice none 0 0] 105;have VA:=lH ((ha).below HB.out);have VB:=lH ((hb).below HB.out);clear ha hb;go_enter Tryz.func153,Tryz.ntmps153;go_wp2_with fail
 rw[<- hW];clear hW;go_wp2_with fail
 have HRG:=rG W;have HRD:Hid (Below W.heap.size W W.drew):=lH (Below.refl _ _).drew;have glRA:=RA.out.lt;obtain⟨g0RA,g1RA,g2RA,g3RA⟩:=aT4 RA.out;have glRB:=RB.out.lt;obtain⟨g0RB,g1RB,g2RB,g3RB⟩:=aT4 RB.out;have KS:=lH (kC g0RA (kC g1RA (kC g2RA (kC g3RA (kC g0RB (kC g1RB (kC g2RB (kN g3RB))))))));have neRR:=RR.out.lt;have KT:=lH (k4C (w.heap.size+1+1) g0RA (k4C (w.heap.size+1+1) g1RA (k4C (w.heap.size+1+1) g2RA (k4C (w.heap.size+1+1) g3RA (k4C (w.heap.size+1+1) g0RB (k4C (w.heap.size+1+1) g1RB (k4C (w.heap.size+1+1) g2RB (k4N (w.heap.size+1+1) g3RB))))))));clear neRR;have tok0:True:=trivial;have tok1:True:=trivial
 go_region_held3 (fun w'=> w'.cell? ⟨w.heap.size,0,none⟩=some (.bool sa) /\ w'.cell? ⟨w.heap.size,1,none⟩=some (.slice Aa la ca) /\ w'.cell? ⟨w.heap.size,2,none⟩=some (.bool ta) /\ w'.cell? ⟨w.heap.size,3,none⟩=some (.slice Ba ma da) /\ w'.cell? ⟨(w.heap.size+1),0,none⟩=some (.bool sb) /\ w'.cell? ⟨(w.heap.size+1),1,none⟩=some (.slice Ab lb cb) /\ w'.cell? ⟨(w.heap.size+1),2,none⟩=some (.bool tb) /\ w'.cell? ⟨(w.heap.size+1),3,none⟩=some (.slice Bb mb db))
  (first | (with_reducible exact KS.out _ HRD.out) | (with_reducible exact KS.out _ HRG.out) | (with_reducible exact KT.out _ _ _ _ _ HRG.out) | (exact KS.out _ (HRG.out.trans ((below_new _ _).mono HRG.out.size))) | (exact KS.out _ (HRG.out.trans (((below_new _ _).drew).mono HRG.out.size))) | go_keep)
  (first
   | (go_at_call 69
      have _t:=tok0;refine(rnegq_walk _ b _ (by exact VB.out)).mono ?_;rintro e w1 ⟨ve,rfl,he,hb1⟩;have hb1:Below W.heap.size W w1:=bD hb1;obtain⟨se,Ae,le,ce,te,Be,me,de,rfl⟩:=he.shape;have Ve:=lH he;replace VA:=lH (VA.out.below hb1);replace VB:=lH (VB.out.below hb1);replace RA:=rW RA hb1;replace RB:=rW RB hb1;replace RR:=rW RR hb1;replace HB:=bT HB hb1;replace HRG:=bT HRG hb1
      clear hb1 tok0 _t he)
   | (go_at_call 143
      have _t:=tok1;refine(raddq_walk _ _ a (-b) _ (by exact VA.out) (by exact Ve.out) HLA.out HLB.out.neg).mono ?_;rintro e w2 ⟨vr,rfl,hr,hb2⟩;have hb2:Below w1.heap.size w1 w2:=bD hb2;obtain⟨sr,Ar,lr,cr,tr,Br,mr,dr,rfl⟩:=hr.shape;have Vr:=lH hr;replace VA:=lH (VA.out.below hb2);replace VB:=lH (VB.out.below hb2);replace Ve:=lH (Ve.out.below hb2);replace RA:=rW RA hb2;replace RB:=rW RB hb2;replace RR:=rW RR hb2;replace HB:=bT HB hb2;replace HRG:=bT HRG hb2;rw[<- Rat.sub_eq_add_neg] at hr;replace Vr:=lH hr;have hr:=res_store4 RR.out (by decide) (by omega) HB.out Vr.out;have HRES:=lH hr;clear hr;obtain⟨k0RR,kf0RR,k1RR,kf1RR,k2RR,kf2RR,k3RR,kf3RR⟩:=aF4 RR.out;have klRR:=RR.out.lt
      clear hb2 tok1 _t hr))
 clear glRA g0RA g1RA g2RA g3RA glRB g0RB g1RB g2RB g3RB KS HRG HRD KT;go_wp2_with fail
 refine bodyPost_ret (v:= .agg #[.bool sr, .slice Ar lr cr, .bool tr, .slice Br mr dr]) (by simp[results,Tryz.results153,go_sem,k0RR,k1RR,k2RR,k3RR]) rfl ?_;exact⟨_,rfl,HRES.out.1,HRES.out.2⟩
set_option maxHeartbeats 1600000 in
theorem rdivq_walk(va vb:Value)(a b:Rat)(w:World)(ha:IsRat w va a)(hb:IsRat w vb b)(hb0:b≠0)(hla:RL 1000000000000 a)(hlb:RL 1000000000000 b):
  Calls Tryz.prog 179 #[va,vb] w fun e w'=>∃v,e= .returned (.tuple #[v, .int .i64 0]) /\ IsRat w' v (a / b) /\ Below w.heap.size w w':=by
 obtain⟨sa,Aa,la,ca,ta,Ba,ma,da,rfl⟩:=ha.shape;obtain⟨sb,Ab,lb,cb,tb,Bb,mb,db,rfl⟩:=hb.shape;have HLA:=lH hla;have HLB:=lH hlb;clear hla hlb;have hbn:b.num≠0:=fun e=>hb0 (Rat.num_eq_zero.1 e)
 have hsg:(sgI b.num==0)=false:=sgI_ne hbn;have HBN:=lH hbn;have HSG:=lH hsg;clear hbn hsg hb0;obtain⟨W,hW,RA,RB,RR,HB⟩:=eN3 w [.bool sa, .slice Aa la ca, .bool ta, .slice Ba ma da] 105 [.bool sb, .slice Ab lb cb, .bool tb, .slice Bb mb db] 105 [.bool false, .slice none 0 0, .bool false, .slice none 0 0] 105;have VA:=lH ((ha).below HB.out);have VB:=lH ((hb).below HB.out);clear ha hb;obtain⟨k0,k1,k2,k3⟩:=aT4 RB.out;have kl:=RB.out.lt;go_enter Tryz.func179,Tryz.ntmps179;go_wp2_with fail
 rw[<- hW];clear hW;refine(rsgn_walk _ b _ VB.out).mono ?_;rintro e w1 ⟨rfl,hb1⟩;replace VA:=lH (VA.out.below hb1);replace VB:=lH (VB.out.below hb1);replace RA:=rW RA hb1;replace RB:=rW RB hb1;replace RR:=rW RR hb1;replace HB:=bT HB hb1;clear hb1;clear k0 k1 k2 k3 kl;have hsg:=HSG.out;go_wp2_with fail
 have HRG:=rG w1;have HRD:Hid (Below w1.heap.size w1 w1.drew):=lH (Below.refl _ _).drew;have glRA:=RA.out.lt;obtain⟨g0RA,g1RA,g2RA,g3RA⟩:=aT4 RA.out;have glRB:=RB.out.lt;obtain⟨g0RB,g1RB,g2RB,g3RB⟩:=aT4 RB.out;have KS:=lH (kC g0RA (kC g1RA (kC g2RA (kC g3RA (kC g0RB (kC g1RB (kC g2RB (kN g3RB))))))));have neRR:=RR.out.lt;have KT:=lH (k4C (w.heap.size+1+1) g0RA (k4C (w.heap.size+1+1) g1RA (k4C (w.heap.size+1+1) g2RA (k4C (w.heap.size+1+1) g3RA (k4C (w.heap.size+1+1) g0RB (k4C (w.heap.size+1+1) g1RB (k4C (w.heap.size+1+1) g2RB (k4N (w.heap.size+1+1) g3RB))))))));clear neRR;have tok0:True:=trivial;have tok1:True:=trivial;have tok2:True:=trivial;have tok3:True:=trivial;have tok4:True:=trivial
 go_region_held3 (fun w'=> w'.cell? ⟨w.heap.size,0,none⟩=some (.bool sa) /\ w'.cell? ⟨w.heap.size,1,none⟩=some (.slice Aa la ca) /\ w'.cell? ⟨w.heap.size,2,none⟩=some (.bool ta) /\ w'.cell? ⟨w.heap.size,3,none⟩=some (.slice Ba ma da) /\ w'.cell? ⟨(w.heap.size+1),0,none⟩=some (.bool sb) /\ w'.cell? ⟨(w.heap.size+1),1,none⟩=some (.slice Ab lb cb) /\ w'.cell? ⟨(w.heap.size+1),2,none⟩=some (.bool tb) /\ w'.cell? ⟨(w.heap.size+1),3,none⟩=some (.slice Bb mb db))
  (first | (with_reducible exact KS.out _ HRD.out) | (with_reducible exact KS.out _ HRG.out) | (with_reducible exact KT.out _ _ _ _ _ HRG.out) | (exact KS.out _ (HRG.out.trans ((below_new _ _).mono HRG.out.size))) | (exact KS.out _ (HRG.out.trans (((below_new _ _).drew).mono HRG.out.size))) | go_keep)
  (first
   | (go_at_call 142
      have _t:=tok0;refine(den_walk _ b _ (by exact VB.out)).mono ?_;rintro e w2 ⟨ve,rfl,he,hb2⟩;have hb2:Below w1.heap.size w1 w2:=bD hb2;obtain⟨se,Ae,le,ce,rfl⟩:=he.shape;have Ve:=lH he;replace VA:=lH (VA.out.below hb2);replace VB:=lH (VB.out.below hb2);replace RA:=rW RA hb2;replace RB:=rW RB hb2;replace RR:=rW RR hb2;replace HB:=bT HB hb2;replace HRG:=bT HRG hb2
      clear hb2 tok0 _t he)
   | (go_at_call 141
      have _t:=tok1;refine(mul_walk _ _ a.num (b.den:Int) _ (by exact VA.out.parts.1) (by exact Ve.out) ((HLA.out.limn).l1 (by decide)) ((HLB.out.limd).l1 (by decide))).mono ?_;rintro e w3 ⟨vf,rfl,hf,hb3⟩;have hb3:Below w2.heap.size w2 w3:=bD hb3;obtain⟨sf,Af,lf,cf,rfl⟩:=hf.shape;have Vf:=lH hf;replace VA:=lH (VA.out.below hb3);replace VB:=lH (VB.out.below hb3);replace Ve:=lH (Ve.out.below hb3);replace RA:=rW RA hb3;replace RB:=rW RB hb3;replace RR:=rW RR hb3;replace HB:=bT HB hb3;replace HRG:=bT HRG hb3
      clear hb3 tok1 _t hf)
   | (go_at_call 142
      have _t:=tok2;refine(den_walk _ a _ (by exact VA.out)).mono ?_;rintro e w4 ⟨vg,rfl,hg,hb4⟩;have hb4:Below w3.heap.size w3 w4:=bD hb4;obtain⟨sg,Ag,lg,cg,rfl⟩:=hg.shape;have Vg:=lH hg;replace VA:=lH (VA.out.below hb4);replace VB:=lH (VB.out.below hb4);replace Ve:=lH (Ve.out.below hb4);replace Vf:=lH (Vf.out.below hb4);replace RA:=rW RA hb4;replace RB:=rW RB hb4;replace RR:=rW RR hb4;replace HB:=bT HB hb4;replace HRG:=bT HRG hb4
      clear hb4 tok2 _t hg)
   | (go_at_call 141
      have _t:=tok3;refine(mul_walk _ _ (a.den:Int) b.num _ (by exact Vg.out) (by exact VB.out.parts.1) ((HLA.out.limd).l1 (by decide)) ((HLB.out.limn).l1 (by decide))).mono ?_;rintro e w5 ⟨vh,rfl,hh,hb5⟩;have hb5:Below w4.heap.size w4 w5:=bD hb5;obtain⟨sh,Ah,lh,ch,rfl⟩:=hh.shape;have Vh:=lH hh;replace VA:=lH (VA.out.below hb5);replace VB:=lH (VB.out.below hb5);replace Ve:=lH (Ve.out.below hb5);replace Vf:=lH (Vf.out.below hb5);replace Vg:=lH (Vg.out.below hb5);replace RA:=rW RA hb5;replace RB:=rW RB hb5;replace RR:=rW RR hb5;replace HB:=bT HB hb5;replace HRG:=bT HRG hb5
      clear hb5 tok3 _t hh)
   | (go_at_call 154
      have _t:=tok4;refine(reduced_walk _ _ (a.num* (b.den:Int)) ((a.den:Int)*b.num) _ (by exact Vf.out) (by exact Vh.out) (by have h1:=a.den_nz;exact Int.mul_ne_zero (by omega) HBN.out) ((HLA.out.limn.mul HLB.out.limd).mono (by decide)) ((HLA.out.limd.mul HLB.out.limn).mono (by decide))).mono ?_;rintro e w6 ⟨vr,rfl,hr,hb6⟩;have hb6:Below w5.heap.size w5 w6:=bD hb6;obtain⟨sr,Ar,lr,cr,tr,Br,mr,dr,rfl⟩:=hr.shape;have Vr:=lH hr;replace VA:=lH (VA.out.below hb6);replace VB:=lH (VB.out.below hb6);replace Ve:=lH (Ve.out.below hb6);replace Vf:=lH (Vf.out.below hb6);replace Vg:=lH (Vg.out.below hb6);replace Vh:=lH (Vh.out.below hb6);replace RA:=rW RA hb6;replace RB:=rW RB hb6;replace RR:=rW RR hb6;replace HB:=bT HB hb6;replace HRG:=bT HRG hb6;rw[qdiv] at hr;replace Vr:=lH hr;have hr:=res_store4 RR.out (by decide) (by omega) HB.out Vr.out;have HRES:=lH hr;clear hr;obtain⟨k0RR,kf0RR,k1RR,kf1RR,k2RR,kf2RR,k3RR,kf3RR⟩:=aF4 RR.out;have klRR:=RR.out.lt
      clear hb6 tok4 _t hr))
 clear glRA g0RA g1RA g2RA g3RA glRB g0RB g1RB g2RB g3RB KS HRG HRD KT;go_wp2_with fail
 refine bodyPost_ret (v:= .tuple #[.agg #[.bool sr, .slice Ar lr cr, .bool tr, .slice Br mr dr], .int .i64 0]) (by simp[results,Tryz.results179,go_sem,k0RR,k1RR,k2RR,k3RR]) rfl ?_;exact⟨_,rfl,HRES.out.1,HRES.out.2⟩
set_option maxHeartbeats 1600000 in
theorem quo_walk(va vb:Value)(a b:Rat)(w:World)(ha:IsRat w va a)(hb:IsRat w vb b)(hb0:b≠0)(hla:RL 1000000000000 a)(hlb:RL 1000000000000 b):
  Calls Tryz.prog 152 #[va,vb] w fun e w'=>∃v,e= .returned v /\ IsRat w' v (a / b) /\ Below w.heap.size w w':=by
 obtain⟨sa,Aa,la,ca,ta,Ba,ma,da,rfl⟩:=ha.shape;obtain⟨sb,Ab,lb,cb,tb,Bb,mb,db,rfl⟩:=hb.shape;have HLA:=lH hla;have HLB:=lH hlb;have HB0:=lH hb0;clear hla hlb hb0;obtain⟨W,hW,RA,RB,RR,HB⟩:=eN3 w [.bool sa, .slice Aa la ca, .bool ta, .slice Ba ma da] 105 [.bool sb, .slice Ab lb cb, .bool tb, .slice Bb mb db] 105 [.bool false, .slice none 0 0, .bool false, .slice none 0 0] 105;have VA:=lH ((ha).below HB.out);have VB:=lH ((hb).below HB.out);clear ha hb;have k0:=aI 0 RA;have j0:=aI 0 RB;have k1:=aI 1 RA;have j1:=aI 1 RB;have k2:=aI 2 RA;have j2:=aI 2 RB;have k3:=aI 3 RA;have j3:=aI 3 RB;have kl:=RA.out.lt;have jl:=RB.out.lt;go_enter Tryz.func152,Tryz.ntmps152;go_wp2_with fail
 rw[<- hW];clear hW;refine(rdivq_walk _ _ a b _ VA.out VB.out HB0.out HLA.out HLB.out).mono ?_;rintro e w1 ⟨vq,rfl,hq,hb1⟩;obtain⟨sq,Aq,lq,cq,tq,Bq,mq,dq,rfl⟩:=hq.shape;have Vq:=lH hq;clear hq;replace VA:=lH (VA.out.below hb1);replace VB:=lH (VB.out.below hb1);replace RA:=rW RA hb1;replace RB:=rW RB hb1;replace RR:=rW RR hb1;replace HB:=bT HB hb1;clear hb1 k0 k1 k2 k3 j0 j1 j2 j3 kl jl;obtain⟨k0RR,k1RR,k2RR,k3RR⟩:=aT4 RR.out;have klRR:=RR.out.lt;have kf0RR:=RR.out.free 0;have kf1RR:=RR.out.free 1;have kf2RR:=RR.out.free 2;have kf3RR:=RR.out.free 3;have hr:=res_store4 RR.out (by decide) (by omega) HB.out Vq.out;have HRES:=lH hr;clear hr;go_wp2_with fail
 refine bodyPost_ret (v:= .agg #[.bool sq, .slice Aq lq cq, .bool tq, .slice Bq mq dq]) (by simp[results,Tryz.results152,go_sem,k0RR,k1RR,k2RR,k3RR,klRR]) rfl ?_;exact⟨_,rfl,HRES.out.1.below (below_new _ _),HRES.out.2.trans ((below_new _ _).mono HRES.out.2.size)⟩
end
section
open Go.RowKit
open Lp (RL)
set_option maxHeartbeats 3200000 in
theorem rcmpq_walk(va vb:Value)(a b:Rat)(w:World)(ha:IsRat w va a)(hb:IsRat w vb b)(hla:RL 1000000000000 a)(hlb:RL 1000000000000 b):
  Calls Tryz.prog 119 #[va,vb] w fun e w'=>e= .returned (.int .i64 (cmpQ a b)) /\ Below w.heap.size w w':=by
 obtain⟨sa,Aa,la,ca,ta,Ba,ma,da,rfl⟩:=ha.shape;obtain⟨sb,Ab,lb,cb,tb,Bb,mb,db,rfl⟩:=hb.shape;have HLA:=lH hla;have HLB:=lH hlb;clear hla hlb;by_cases ha1:a.den=1
 ·have HA1:=lH ha1;clear ha1;obtain⟨W,hW,RA,RB,HB⟩:=eN2 w [.bool sa, .slice Aa la ca, .bool ta, .slice Ba ma da] 105 [.bool sb, .slice Ab lb cb, .bool tb, .slice Bb mb db] 105;have VA:=lH ((ha).below HB.out);have VB:=lH ((hb).below HB.out);clear ha hb;obtain⟨k0,k1,k2,k3⟩:=aT4 RA.out;have kl:=RA.out.lt;go_enter Tryz.func119,Tryz.ntmps119;go_wp2_with fail
  rw[<- hW];clear hW;refine(whole_walk _ a _ VA.out (HLA.out.mono (by decide))).mono ?_;rintro e w1 ⟨rfl,hb1⟩;replace VA:=lH (VA.out.below hb1);replace VB:=lH (VB.out.below hb1);replace RA:=rW RA hb1;replace RB:=rW RB hb1;replace HB:=bT HB hb1;clear hb1;clear k0 k1 k2 k3 kl;rw[show decide (a.den=1)=true from by simpa using HA1.out];obtain⟨k0RB,k1RB,k2RB,k3RB⟩:=aT4 RB.out;have klRB:=RB.out.lt;go_wp2_with fail
  clear k0RB k1RB k2RB k3RB klRB;refine(whole_walk _ b _ VB.out (HLB.out.mono (by decide))).mono ?_;rintro e w2 ⟨rfl,hb2⟩;replace VA:=lH (VA.out.below hb2);replace VB:=lH (VB.out.below hb2);replace RA:=rW RA hb2;replace RB:=rW RB hb2;replace HB:=bT HB hb2;clear hb2;by_cases hb1:b.den=1
  ·rw[show decide (b.den=1)=true from by simpa using hb1];have HB1:=lH hb1;clear hb1;obtain⟨k0RA,k1RA,k2RA,k3RA⟩:=aT4 RA.out;have klRA:=RA.out.lt;obtain⟨k0RB,k1RB,k2RB,k3RB⟩:=aT4 RB.out;have klRB:=RB.out.lt;go_wp2_with fail
   clear k0RA k1RA k2RA k3RA klRA k0RB k1RB k2RB k3RB klRB;refine(compare_walk _ _ a.num b.num _ VA.out.parts.1 VB.out.parts.1 ((HLA.out.limn).l1 (by decide)) ((HLB.out.limn).l1 (by decide))).mono ?_;rintro e w3 ⟨rfl,hb3⟩;replace VA:=lH (VA.out.below hb3);replace VB:=lH (VB.out.below hb3);replace RA:=rW RA hb3;replace RB:=rW RB hb3;replace HB:=bT HB hb3;clear hb3;go_wp2_with fail
   go_returns;exact⟨by rw[<- cmpQ_whole HA1.out HB1.out];rfl,HB.out⟩
  ·rw[show decide (b.den=1)=false from by simpa using hb1];clear hb1;go_wp2_with fail
   have HRG:=rG w2;have HRD:Hid (Below w2.heap.size w2 w2.drew):=lH (Below.refl _ _).drew;have glRA:=RA.out.lt;obtain⟨g0RA,g1RA,g2RA,g3RA⟩:=aT4 RA.out;have glRB:=RB.out.lt;obtain⟨g0RB,g1RB,g2RB,g3RB⟩:=aT4 RB.out;have KS:=lH (kC g0RA (kC g1RA (kC g2RA (kC g3RA (kC g0RB (kC g1RB (kC g2RB (kN g3RB))))))));have tok0:True:=trivial;have tok1:True:=trivial;have tok2:True:=trivial;have tok3:True:=trivial;have tok4:True:=trivial
   go_region_held3 (fun w'=> w'.cell? ⟨w.heap.size,0,none⟩=some (.bool sa) /\ w'.cell? ⟨w.heap.size,1,none⟩=some (.slice Aa la ca) /\ w'.cell? ⟨w.heap.size,2,none⟩=some (.bool ta) /\ w'.cell? ⟨w.heap.size,3,none⟩=some (.slice Ba ma da) /\ w'.cell? ⟨(w.heap.size+1),0,none⟩=some (.bool sb) /\ w'.cell? ⟨(w.heap.size+1),1,none⟩=some (.slice Ab lb cb) /\ w'.cell? ⟨(w.heap.size+1),2,none⟩=some (.bool tb) /\ w'.cell? ⟨(w.heap.size+1),3,none⟩=some (.slice Bb mb db))
    (first | (with_reducible exact KS.out _ HRD.out) | (with_reducible exact KS.out _ HRG.out) | (exact KS.out _ (HRG.out.trans ((below_new _ _).mono HRG.out.size))) | (exact KS.out _ (HRG.out.trans (((below_new _ _).drew).mono HRG.out.size))) | go_keep)
    (first
     | (go_at_call 142
        have _t:=tok0;refine(den_walk _ b _ (by exact VB.out)).mono ?_;rintro e w3 ⟨ve,rfl,he,hb3⟩;have hb3:Below w2.heap.size w2 w3:=bD hb3;obtain⟨se,Ae,le,ce,rfl⟩:=he.shape;have Ve:=lH he;replace VA:=lH (VA.out.below hb3);replace VB:=lH (VB.out.below hb3);replace RA:=rW RA hb3;replace RB:=rW RB hb3;replace HB:=bT HB hb3;replace HRG:=bT HRG hb3
        clear hb3 tok0 _t he)
     | (go_at_call 141
        have _t:=tok1;refine(mul_walk _ _ a.num (b.den:Int) _ (by exact VA.out.parts.1) (by exact Ve.out) ((HLA.out.limn).l1 (by decide)) ((HLB.out.limd).l1 (by decide))).mono ?_;rintro e w4 ⟨vf,rfl,hf,hb4⟩;have hb4:Below w3.heap.size w3 w4:=bD hb4;obtain⟨sf,Af,lf,cf,rfl⟩:=hf.shape;have Vf:=lH hf;replace VA:=lH (VA.out.below hb4);replace VB:=lH (VB.out.below hb4);replace Ve:=lH (Ve.out.below hb4);replace RA:=rW RA hb4;replace RB:=rW RB hb4;replace HB:=bT HB hb4;replace HRG:=bT HRG hb4
        clear hb4 tok1 _t hf)
     | (go_at_call 142
        have _t:=tok2;refine(den_walk _ a _ (by exact VA.out)).mono ?_;rintro e w5 ⟨vg,rfl,hg,hb5⟩;have hb5:Below w4.heap.size w4 w5:=bD hb5;obtain⟨sg,Ag,lg,cg,rfl⟩:=hg.shape;have Vg:=lH hg;replace VA:=lH (VA.out.below hb5);replace VB:=lH (VB.out.below hb5);replace Ve:=lH (Ve.out.below hb5);replace Vf:=lH (Vf.out.below hb5);replace RA:=rW RA hb5;replace RB:=rW RB hb5;replace HB:=bT HB hb5;replace HRG:=bT HRG hb5
        clear hb5 tok2 _t hg)
     | (go_at_call 141
        have _t:=tok3;refine(mul_walk _ _ b.num (a.den:Int) _ (by exact VB.out.parts.1) (by exact Vg.out) ((HLB.out.limn).l1 (by decide)) ((HLA.out.limd).l1 (by decide))).mono ?_;rintro e w6 ⟨vh,rfl,hh,hb6⟩;have hb6:Below w5.heap.size w5 w6:=bD hb6;obtain⟨sh,Ah,lh,ch,rfl⟩:=hh.shape;have Vh:=lH hh;replace VA:=lH (VA.out.below hb6);replace VB:=lH (VB.out.below hb6);replace Ve:=lH (Ve.out.below hb6);replace Vf:=lH (Vf.out.below hb6);replace Vg:=lH (Vg.out.below hb6);replace RA:=rW RA hb6;replace RB:=rW RB hb6;replace HB:=bT HB hb6;replace HRG:=bT HRG hb6
        clear hb6 tok3 _t hh)
     | (go_at_call 133
        have _t:=tok4;refine(compare_walk _ _ (a.num* (b.den:Int)) (b.num* (a.den:Int)) _ (by exact Vf.out) (by exact Vh.out) ((HLA.out.limn.mul HLB.out.limd).l1 (by decide)) ((HLB.out.limn.mul HLA.out.limd).l1 (by decide))).mono ?_;rintro e w7 ⟨rfl,hb7⟩;have hb7:Below w6.heap.size w6 w7:=bD hb7;replace VA:=lH (VA.out.below hb7);replace VB:=lH (VB.out.below hb7);replace Ve:=lH (Ve.out.below hb7);replace Vf:=lH (Vf.out.below hb7);replace Vg:=lH (Vg.out.below hb7);replace Vh:=lH (Vh.out.below hb7);replace RA:=rW RA hb7;replace RB:=rW RB hb7;replace HB:=bT HB hb7;replace HRG:=bT HRG hb7
        clear hb7 tok4 _t))
   clear glRA g0RA g1RA g2RA g3RA glRB g0RB g1RB g2RB g3RB KS HRG HRD;go_wp2_with fail
   go_returns;exact⟨by rw[<- cmpQ_cross];rfl,HB.out⟩
 ·obtain⟨W,hW⟩:=eX (((w.alloc (.cells #[.bool sa, .slice Aa la ca, .bool ta, .slice Ba ma da] 105)).alloc (.cells #[.bool sb, .slice Ab lb cb, .bool tb, .slice Bb mb db] 105)));obtain⟨r0,r1,hWs,hWB⟩:=boxes2 w (.cells #[.bool sa, .slice Aa la ca, .bool ta, .slice Ba ma da] 105) (.cells #[.bool sb, .slice Ab lb cb, .bool tb, .slice Bb mb db] 105);rw[<- hW] at r0 r1 hWs hWB;have RA:Hid (Row W w.heap.size 105 [.bool sa, .slice Aa la ca, .bool ta, .slice Ba ma da]):=lH r0;have RB:Hid (Row W (w.heap.size+1) 105 [.bool sb, .slice Ab lb cb, .bool tb, .slice Bb mb db]):=lH r1;have VA:=lH ((ha).below hWB);have VB:=lH ((hb).below hWB);have HB:=lH hWB;clear r0 r1 hWs hWB;clear ha hb;obtain⟨k0,k1,k2,k3⟩:=aT4 RA.out;have kl:=RA.out.lt;go_enter Tryz.func119,Tryz.ntmps119;go_wp2_with fail
  rw[<- hW];clear hW;refine(whole_walk _ a _ VA.out (HLA.out.mono (by decide))).mono ?_;rintro e w1 ⟨rfl,hb1⟩;replace VA:=lH (VA.out.below hb1);replace VB:=lH (VB.out.below hb1);replace RA:=rW RA hb1;replace RB:=rW RB hb1;replace HB:=bT HB hb1;clear hb1;clear k0 k1 k2 k3 kl;rw[show decide (a.den=1)=false from by simpa using ha1];clear ha1;go_wp2_with fail
  have HRG:=rG w1;have HRD:Hid (Below w1.heap.size w1 w1.drew):=lH (Below.refl _ _).drew;have glRA:=RA.out.lt;obtain⟨g0RA,g1RA,g2RA,g3RA⟩:=aT4 RA.out;have glRB:=RB.out.lt;obtain⟨g0RB,g1RB,g2RB,g3RB⟩:=aT4 RB.out;have KS:=lH (kC g0RA (kC g1RA (kC g2RA (kC g3RA (kC g0RB (kC g1RB (kC g2RB (kN g3RB))))))));have tok0:True:=trivial;have tok1:True:=trivial;have tok2:True:=trivial;have tok3:True:=trivial;have tok4:True:=trivial
  go_region_held3 (fun w'=> w'.cell? ⟨w.heap.size,0,none⟩=some (.bool sa) /\ w'.cell? ⟨w.heap.size,1,none⟩=some (.slice Aa la ca) /\ w'.cell? ⟨w.heap.size,2,none⟩=some (.bool ta) /\ w'.cell? ⟨w.heap.size,3,none⟩=some (.slice Ba ma da) /\ w'.cell? ⟨(w.heap.size+1),0,none⟩=some (.bool sb) /\ w'.cell? ⟨(w.heap.size+1),1,none⟩=some (.slice Ab lb cb) /\ w'.cell? ⟨(w.heap.size+1),2,none⟩=some (.bool tb) /\ w'.cell? ⟨(w.heap.size+1),3,none⟩=some (.slice Bb mb db))
   (first | (with_reducible exact KS.out _ HRD.out) | (with_reducible exact KS.out _ HRG.out) | (exact KS.out _ (HRG.out.trans ((below_new _ _).mono HRG.out.size))) | (exact KS.out _ (HRG.out.trans (((below_new _ _).drew).mono HRG.out.size))) | go_keep)
   (first
    | (go_at_call 142
       have _t:=tok0;refine(den_walk _ b _ (by exact VB.out)).mono ?_;rintro e w2 ⟨ve,rfl,he,hb2⟩;have hb2:Below w1.heap.size w1 w2:=bD hb2;obtain⟨se,Ae,le,ce,rfl⟩:=he.shape;have Ve:=lH he;replace VA:=lH (VA.out.below hb2);replace VB:=lH (VB.out.below hb2);replace RA:=rW RA hb2;replace RB:=rW RB hb2;replace HB:=bT HB hb2;replace HRG:=bT HRG hb2
       clear hb2 tok0 _t he)
    | (go_at_call 141
       have _t:=tok1;refine(mul_walk _ _ a.num (b.den:Int) _ (by exact VA.out.parts.1) (by exact Ve.out) ((HLA.out.limn).l1 (by decide)) ((HLB.out.limd).l1 (by decide))).mono ?_;rintro e w3 ⟨vf,rfl,hf,hb3⟩;have hb3:Below w2.heap.size w2 w3:=bD hb3;obtain⟨sf,Af,lf,cf,rfl⟩:=hf.shape;have Vf:=lH hf;replace VA:=lH (VA.out.below hb3);replace VB:=lH (VB.out.below hb3);replace Ve:=lH (Ve.out.below hb3);replace RA:=rW RA hb3;replace RB:=rW RB hb3;replace HB:=bT HB hb3;replace HRG:=bT HRG hb3
       clear hb3 tok1 _t hf)
    | (go_at_call 142
       have _t:=tok2;refine(den_walk _ a _ (by exact VA.out)).mono ?_;rintro e w4 ⟨vg,rfl,hg,hb4⟩;have hb4:Below w3.heap.size w3 w4:=bD hb4;obtain⟨sg,Ag,lg,cg,rfl⟩:=hg.shape;have Vg:=lH hg;replace VA:=lH (VA.out.below hb4);replace VB:=lH (VB.out.below hb4);replace Ve:=lH (Ve.out.below hb4);replace Vf:=lH (Vf.out.below hb4);replace RA:=rW RA hb4;replace RB:=rW RB hb4;replace HB:=bT HB hb4;replace HRG:=bT HRG hb4
       clear hb4 tok2 _t hg)
    | (go_at_call 141
       have _t:=tok3;refine(mul_walk _ _ b.num (a.den:Int) _ (by exact VB.out.parts.1) (by exact Vg.out) ((HLB.out.limn).l1 (by decide)) ((HLA.out.limd).l1 (by decide))).mono ?_;rintro e w5 ⟨vh,rfl,hh,hb5⟩;have hb5:Below w4.heap.size w4 w5:=bD hb5;obtain⟨sh,Ah,lh,ch,rfl⟩:=hh.shape;have Vh:=lH hh;replace VA:=lH (VA.out.below hb5);replace VB:=lH (VB.out.below hb5);replace Ve:=lH (Ve.out.below hb5);replace Vf:=lH (Vf.out.below hb5);replace Vg:=lH (Vg.out.below hb5);replace RA:=rW RA hb5;replace RB:=rW RB hb5;replace HB:=bT HB hb5;replace HRG:=bT HRG hb5
       clear hb5 tok3 _t hh)
    | (go_at_call 133
       have _t:=tok4;refine(compare_walk _ _ (a.num* (b.den:Int)) (b.num* (a.den:Int)) _ (by exact Vf.out) (by exact Vh.out) ((HLA.out.limn.mul HLB.out.limd).l1 (by decide)) ((HLB.out.limn.mul HLA.out.limd).l1 (by decide))).mono ?_;rintro e w6 ⟨rfl,hb6⟩;have hb6:Below w5.heap.size w5 w6:=bD hb6;replace VA:=lH (VA.out.below hb6);replace VB:=lH (VB.out.below hb6);replace Ve:=lH (Ve.out.below hb6);replace Vf:=lH (Vf.out.below hb6);replace Vg:=lH (Vg.out.below hb6);replace Vh:=lH (Vh.out.below hb6);replace RA:=rW RA hb6;replace RB:=rW RB hb6;replace HB:=bT HB hb6;replace HRG:=bT HRG hb6
       clear hb6 tok4 _t))
  clear glRA g0RA g1RA g2RA g3RA glRB g0RB g1RB g2RB g3RB KS HRG HRD;go_wp2_with fail
  go_returns;exact⟨by rw[<- cmpQ_cross];rfl,HB.out⟩
end
section
open Go.RowKit
open Lp (RL upd)
theorem ne_rat:105≠160:=by decide
def RB(w:World)(g n:Nat)(f:Nat -> Rat):Prop:=
 ∃cs:List Value,Row w g 105 cs /\ n*4 <= cs.length /\ ∀j,j<n -> ∃s A l c t B m d,cs[j*4]? =some (.bool s) /\ cs[j*4+1]? =some (.slice A l c) /\ cs[j*4+2]? =some (.bool t) /\ cs[j*4+3]? =some (.slice B m d) /\
  IsRat w (.agg #[.bool s, .slice A l c, .bool t, .slice B m d]) (f j)
section
variable {w w':World} {g n:Nat} {f:Nat -> Rat}
theorem RB.lt(h:RB w g n f):g<w.heap.size:=by obtain⟨cs,hr,_⟩:=h;exact hr.lt
theorem RB.below(h:RB w g n f)(hb:Below w.heap.size w w'):RB w' g n f:=by
 obtain⟨cs,hr,hl,hc⟩:=h;refine⟨cs,hr.below hb hr.lt,hl,fun j hj=> ?_⟩;obtain⟨s,A,l,c,t,B,m,d,h1,h2,h3,h4,h5⟩:=hc j hj;exact⟨s,A,l,c,t,B,m,d,h1,h2,h3,h4,h5.below hb⟩
theorem RB.other{g':Nat}{e:TypeId}{cs':List Value}(h:RB w g n f)(hg:w.grownBy w' (some g'))(hr':Row w g' e cs')(he:e≠160)(hne:g≠g'):RB w' g n f:=by
 obtain⟨cs,hr,hl,hc⟩:=h;refine⟨cs,hr.other hg hne,hl,fun j hj=> ?_⟩;obtain⟨s,A,l,c,t,B,m,d,h1,h2,h3,h4,h5⟩:=hc j hj;exact⟨s,A,l,c,t,B,m,d,h1,h2,h3,h4,h5.other hg hr' he⟩
theorem RB.take{k:Nat}(h:RB w g n f)(hk:k <= n):RB w g k f:=by
 obtain⟨cs,hr,hl,hc⟩:=h;exact⟨cs,hr,by omega,fun j hj=>hc j (by omega)⟩
theorem RB.congr{f':Nat -> Rat}(h:RB w g n f)(hf:∀j,j<n -> f j=f' j):RB w g n f':=by
 obtain⟨cs,hr,hl,hc⟩:=h;exact⟨cs,hr,hl,fun j hj=>by rw[<- hf j hj];exact hc j hj⟩
theorem RB.row(h:RB w g n f):∃cs,Row w g 105 cs:=by obtain⟨cs,hr,_⟩:=h;exact⟨cs,hr⟩
theorem RB.at_(h:RB w g n f){j:Nat}(hj:j<n):∃s A l c t B m d,w.cell? ⟨g,j*4,none⟩=some (.bool s) /\ w.cell? ⟨g,j*4+1,none⟩=some (.slice A l c) /\ w.cell? ⟨g,j*4+2,none⟩=some (.bool t) /\ w.cell? ⟨g,j*4+3,none⟩=some (.slice B m d) /\
  IsRat w (.agg #[.bool s, .slice A l c, .bool t, .slice B m d]) (f j):=by
 obtain⟨cs,hr,hl,hc⟩:=h;obtain⟨s,A,l,c,t,B,m,d,h1,h2,h3,h4,h5⟩:=hc j hj;exact⟨s,A,l,c,t,B,m,d,hr.at_ _ h1,hr.at_ _ h2,hr.at_ _ h3,hr.at_ _ h4,h5⟩
theorem RB.free(h:RB w g n f)(j:Nat): w.frozen? ⟨g,j,none⟩=false:=by obtain⟨cs,hr,_⟩:=h;exact hr.free j
theorem RB.set(h:RB w g n f){j:Nat}{x y z u:Value}{q:Rat}(hj:j<n)(hq:IsRat w (.agg #[x,y,z,u]) q):
  RB ((((w.setCell ⟨g,j*4,none⟩ x).setCell ⟨g,j*4+1,none⟩ y).setCell ⟨g,j*4+2,none⟩ z).setCell ⟨g,j*4+3,none⟩ u) g n (upd f j q):=by
 obtain⟨cs,hr,hl,hc⟩:=h;have hg:=grownBy_set4 w g (j*4) (j*4+1) (j*4+2) (j*4+3) x y z u;refine⟨_,(((hr.set _ x).set _ y).set _ z).set _ u,by simpa using hl,fun i hi=> ?_⟩;by_cases e:i=j
 ·subst e;obtain⟨s,A,l,c,t,B,m,d,hv⟩:=hq.shape;simp only[Value.agg.injEq] at hv;obtain⟨rfl,rfl,rfl,rfl⟩:x= .bool s /\ y= .slice A l c /\ z= .bool t /\ u= .slice B m d:=by simpa using hv
  refine⟨s,A,l,c,t,B,m,d,?_,?_,?_,?_,by rw[Lp.upd_same];exact hq.other hg hr ne_rat⟩ <;> simp[List.getElem?_set] <;> omega
 ·obtain⟨s,A,l,c,t,B,m,d,h1,h2,h3,h4,h5⟩:=hc i hi;refine⟨s,A,l,c,t,B,m,d,?_,?_,?_,?_,by rw[Lp.upd_other _ _ e];exact h5.other hg hr ne_rat⟩
  ·rw[List.getElem?_set_ne (by omega),List.getElem?_set_ne (by omega),List.getElem?_set_ne (by omega),List.getElem?_set_ne (by omega)];exact h1
  ·rw[List.getElem?_set_ne (by omega),List.getElem?_set_ne (by omega),List.getElem?_set_ne (by omega),List.getElem?_set_ne (by omega)];exact h2
  ·rw[List.getElem?_set_ne (by omega),List.getElem?_set_ne (by omega),List.getElem?_set_ne (by omega),List.getElem?_set_ne (by omega)];exact h3
  ·rw[List.getElem?_set_ne (by omega),List.getElem?_set_ne (by omega),List.getElem?_set_ne (by omega),List.getElem?_set_ne (by omega)];exact h4
end
def IsRats(w:World)(v:Value)(n:Nat)(f:Nat -> Rat):Prop:=∃A c,v= .slice A n c /\ n <= c /\ c <= maxLen /\ (n=0 \/ ∃g,A=some ⟨g,0,none⟩ /\ RB w g n f)
theorem IsRats.below{w w':World}{v:Value}{n:Nat}{f:Nat -> Rat}(h:IsRats w v n f)(hb:Below w.heap.size w w'):IsRats w' v n f:=by
 obtain⟨A,c,hv,h1,h2,h3⟩:=h;exact⟨A,c,hv,h1,h2,h3.imp id fun⟨g,hA,hr⟩=>⟨g,hA,hr.below hb⟩⟩
theorem IsRats.congr{w:World}{v:Value}{n:Nat}{f f':Nat -> Rat}(h:IsRats w v n f)(hf:∀j,j<n -> f j=f' j):IsRats w v n f':=by
 obtain⟨A,c,hv,h1,h2,h3⟩:=h;exact⟨A,c,hv,h1,h2,h3.imp id fun⟨g,hA,hr⟩=>⟨g,hA,hr.congr hf⟩⟩
theorem sgI_zero{q:Rat}:sgI q.num=0↔q=0:=by
 rw[<- Rat.num_eq_zero];unfold sgI;split
 ·constructor <;> intro h <;> omega
 ·split
  ·simp[*]
  ·constructor <;> intro h <;> omega
theorem cell_below{w w':World}{b o:Nat}{v:Value}(hb:Below w.heap.size w w')(h: w.cell? ⟨b,o,none⟩=some v): w'.cell? ⟨b,o,none⟩=some v:=(hb.cell (World.block_lt_of_cell? w _ h)).trans h
theorem cell_other{w w':World}{b o g:Nat}{v:Value}(hg:w.grownBy w' (some g))(hne:b≠g)(h: w.cell? ⟨b,o,none⟩=some v): w'.cell? ⟨b,o,none⟩=some v:=hg.cell h (by simp;exact hne)
theorem cell_lt{w:World}{b o:Nat}{v:Value}(h: w.cell? ⟨b,o,none⟩=some v):b<w.heap.size:= World.block_lt_of_cell? w _ h
def Quad(w:World)(b o:Nat)(x y z u:Value):Prop:= w.cell? ⟨b,o,none⟩=some x /\ w.cell? ⟨b,o+1,none⟩=some y /\ w.cell? ⟨b,o+2,none⟩=some z /\ w.cell? ⟨b,o+3,none⟩=some u
theorem Quad.lt{w:World}{b o:Nat}{x y z u:Value}(h:Quad w b o x y z u):b<w.heap.size:= World.block_lt_of_cell? w _ h.1
theorem Quad.below{w w':World}{b o:Nat}{x y z u:Value}(h:Quad w b o x y z u)(hb:Below w.heap.size w w'):Quad w' b o x y z u:=
 ⟨(hb.cell h.lt).trans h.1,(hb.cell (p:=⟨b,o+1,none⟩) h.lt).trans h.2.1,(hb.cell (p:=⟨b,o+2,none⟩) h.lt).trans h.2.2.1,(hb.cell (p:=⟨b,o+3,none⟩) h.lt).trans h.2.2.2⟩
theorem Quad.other{w w':World}{b o g:Nat}{x y z u:Value}(h:Quad w b o x y z u)(hg:w.grownBy w' (some g))(hne:b≠g):Quad w' b o x y z u:=
 ⟨hg.cell h.1 (by simp;exact hne),hg.cell h.2.1 (by simp;exact hne),hg.cell h.2.2.1 (by simp;exact hne),hg.cell h.2.2.2 (by simp;exact hne)⟩
theorem RB.quad{w:World}{g n:Nat}{f:Nat -> Rat}(h:RB w g n f){j:Nat}(hj:j<n):∃s A l c t B m d,Quad w g (j*4) (.bool s) (.slice A l c) (.bool t) (.slice B m d) /\ IsRat w (.agg #[.bool s, .slice A l c, .bool t, .slice B m d]) (f j):=by
 obtain⟨s,A,l,c,t,B,m,d,h1,h2,h3,h4,h5⟩:=h.at_ hj;exact⟨s,A,l,c,t,B,m,d,⟨h1,h2,h3,h4⟩,h5⟩
def AtQ(w:World)(g:Nat)(q:Rat):Prop:=∃s A l c t B m d,Row w g 105 [.bool s, .slice A l c, .bool t, .slice B m d] /\ IsRat w (.agg #[.bool s, .slice A l c, .bool t, .slice B m d]) q
theorem AtQ.mk{w:World}{g:Nat}{q:Rat}{s t:Bool}{A B:Option Addr}{l c m d:Nat}(h:Row w g 105 [.bool s, .slice A l c, .bool t, .slice B m d])(h':IsRat w (.agg #[.bool s, .slice A l c, .bool t, .slice B m d]) q):AtQ w g q:=⟨s,A,l,c,t,B,m,d,h,h'⟩
theorem AtQ.below{w w':World}{g:Nat}{q:Rat}(h:AtQ w g q)(hb:Below w.heap.size w w'):AtQ w' g q:=by
 obtain⟨s,A,l,c,t,B,m,d,hr,hq⟩:=h;exact⟨s,A,l,c,t,B,m,d,hr.below hb hr.lt,hq.below hb⟩
open Lp (dotN sumTo)
theorem dotN_succ(n:Nat)(a b:Nat -> Rat):dotN (n+1) a b=dotN n a b+a n*b n:=rfl
structure Chg (S:Nat -> Prop) (w w':World):Prop where
 os:w'.os=w.os
 tape:w'.tape=w.tape
 output:w'.output=w.output
 size:w.heap.size <= w'.heap.size
 block:∀k,k<w.heap.size -> ¬S k -> w'.heap[k]? =w.heap[k]?
section
variable {S:Nat -> Prop} {w w' w'':World}
theorem Chg.refl(S:Nat -> Prop)(w:World):Chg S w w:=⟨rfl,rfl,rfl,Nat.le_refl _,fun _ _ _=>rfl⟩
theorem Chg.of_below(h:Below w.heap.size w w'):Chg S w w':=⟨h.os,h.tape,h.output,h.size,fun k hk _=>h.block k hk⟩
theorem Chg.thenB(h:Chg S w w')(hb:Below w'.heap.size w' w''):Chg S w w'':=
 ⟨hb.os.trans h.os,hb.tape.trans h.tape,hb.output.trans h.output,Nat.le_trans h.size hb.size,fun k hk hs=>(hb.block k (Nat.lt_of_lt_of_le hk h.size)).trans (h.block k hk hs)⟩
theorem Chg.thenG{g:Nat}(h:Chg S w w')(hg:w'.grownBy w'' (some g))(hs:S g \/ w.heap.size <= g):Chg S w w'':=
 ⟨hg.os.trans h.os,hg.tape.trans h.tape,hg.output.trans h.output,Nat.le_trans h.size hg.size,fun k hk hk'=>(hg.block k (Nat.lt_of_lt_of_le hk h.size) (fun e=>by
  simp only[Option.some.injEq] at e;subst e
  rcases hs with hs | hs
  ·exact hk' hs
  ·omega)).trans (h.block k hk hk')⟩
theorem Chg.trans{T:Nat -> Prop}(h:Chg S w w')(h':Chg T w' w'')(hT:∀k,T k -> S k \/ w.heap.size <= k):Chg S w w'':=
 ⟨h'.os.trans h.os,h'.tape.trans h.tape,h'.output.trans h.output,Nat.le_trans h.size h'.size,fun k hk hs=>(h'.block k (Nat.lt_of_lt_of_le hk h.size) (fun ht=>by
  rcases hT k ht with h1 | h1
  ·exact hs h1
  ·omega)).trans (h.block k hk hs)⟩
theorem Chg.below(h:Chg S w w'){B:Nat}(hB:B <= w.heap.size)(hS:∀k,S k -> B <= k):Below B w w':=
 ⟨h.os,h.tape,h.output,h.size,fun k hk=>h.block k (by omega) (fun hs=>by have:=hS k hs;omega)⟩
def NonU(S:Nat -> Prop)(w:World):Prop:=∀k,S k -> ∃e cs,Row w k e cs /\ e≠160
theorem U32.chg{A:Option Addr}{l:List Nat}(h:U32 w A l)(hc:Chg S w w')(hn:NonU S w):U32 w' A l:=by
 rcases h with h | ⟨b,off,hA,hcell,ht⟩
 ·exact .inl h
 ·have hb:w'.heap[b]? =w.heap[b]? :=hc.block b ht.lt fun hs=>by
   obtain⟨e,cs,hr,he⟩:=hn b hs;exact row_type_ne hr he ht rfl
  exact .inr ⟨b,off,hA,fun j hj=>(World.cell?_of_block (a:=⟨b,off+j,none⟩) hb).trans (hcell j hj),ht.of_eq hb⟩
theorem IsInt.chg{v:Value}{n:Int}(h:IsInt w v n)(hc:Chg S w w')(hn:NonU S w):IsInt w' v n:=by
 obtain⟨A,c,hv,h1,h2,h3⟩:=h;exact⟨A,c,hv,h1,h2,h3.chg hc hn⟩
theorem IsRat.chg{v:Value}{q:Rat}(h:IsRat w v q)(hc:Chg S w w')(hn:NonU S w):IsRat w' v q:=by
 obtain⟨s,A,l,c,t,B,m,d,hv,h1,y,h2,h3⟩:=h;exact⟨s,A,l,c,t,B,m,d,hv,h1.chg hc hn,y,h2.chg hc hn,h3⟩
theorem Row.chg{g:Nat}{e:TypeId}{cs:List Value}(h:Row w g e cs)(hc:Chg S w w')(hs:¬S g):Row w' g e cs:=(hc.block g h.lt hs).trans h
theorem RB.chg{g n:Nat}{f:Nat -> Rat}(h:RB w g n f)(hc:Chg S w w')(hn:NonU S w)(hs:¬S g):RB w' g n f:=by
 obtain⟨cs,hr,hl,hcs⟩:=h;refine⟨cs,hr.chg hc hs,hl,fun j hj=> ?_⟩;obtain⟨s,A,l,c,t,B,m,d,h1,h2,h3,h4,h5⟩:=hcs j hj;exact⟨s,A,l,c,t,B,m,d,h1,h2,h3,h4,h5.chg hc hn⟩
theorem NonU.rb{g n:Nat}{f:Nat -> Rat}(h:RB w g n f):NonU (fun k=>k=g) w:=fun k hk=>by
 subst hk;obtain⟨cs,hr⟩:=h.row;exact⟨_,_,hr,ne_rat⟩
end
end
section
open Go.RowKit
open Lp (RL upd)
theorem lessF_skip{f p:Nat -> Rat}{q:Rat}{k:Nat}(h:p k=0)(j:Nat):(if j<k then f j-q*p j else f j)=(if j<k+1 then f j-q*p j else f j):=by
 by_cases e:j=k
 ·subst e;rw[if_neg (Nat.lt_irrefl _),if_pos (by omega),h];grind
 ·by_cases e2:j<k
  ·rw[if_pos e2,if_pos (by omega)]
  ·rw[if_neg e2,if_neg (by omega)]
theorem lessF_step{f p:Nat -> Rat}{q:Rat}{k:Nat}(j:Nat):upd (fun j=>if j<k then f j-q*p j else f j) k (f k-q*p k) j=(if j<k+1 then f j-q*p j else f j):=by
 by_cases e:j=k
 ·subst e;rw[Lp.upd_same,if_pos (by omega)]
 ·rw[Lp.upd_other _ _ e];by_cases e2:j<k
  ·rw[if_pos e2,if_pos (by omega)]
  ·rw[if_neg e2,if_neg (by omega)]
set_option maxHeartbeats 3200000 in
theorem less_walk(g h ca cb n nb:Nat)(f p:Nat -> Rat)(vq:Value)(q:Rat)(w:World)(hf:RB w g n f)(hp:RB w h nb p)(hne:g≠h)(hn:n <= nb)(hnm:n <= 9223372036854775807)(hq:IsRat w vq q)
  (hlf:∀j,j<n -> RL 400000000000 (f j)) (hlp:∀j,j<n -> RL 400000000000 (p j)) (hlq:RL 400000000000 q):
  Calls Tryz.prog 150 #[.slice (some ⟨g,0,none⟩) n ca, .slice (some ⟨h,0,none⟩) nb cb,vq] w fun e w'=>e= .returned (.tuple #[]) /\ RB w' g n (fun j=>f j-q*p j) /\ Chg (fun k=>k=g) w w':=by
 obtain⟨sq,Aq,lq,cq,tq,Bq,mq,dq,rfl⟩:=hq.shape;have HLF:=lH hlf;have HLP:=lH hlp;have HLQ:=lH hlq;have hgl:=hf.lt;have hhl:=hp.lt;clear hlf hlp hlq;by_cases h0:q=0
 ·have hz:sgI q.num=0:=sgI_zero.2 h0;have HZ:=lH hz;have H0:=lH h0;clear hz h0;obtain⟨W,hW,RQ,HB⟩:=eN1 w [.bool sq, .slice Aq lq cq, .bool tq, .slice Bq mq dq] 105;have VQ:=lH ((hq).below HB.out);have BF:=lH ((hf).below HB.out);have BP:=lH ((hp).below HB.out);clear hq hf hp;replace HB:Hid (Chg (fun k=>k=g) w W):=lH (Chg.of_below HB.out);obtain⟨k0,k1,k2,k3⟩:=aT4 RQ.out;have kl:=RQ.out.lt;go_enter Tryz.func150,Tryz.ntmps150;go_wp2_with fail
  rw[<- hW];clear hW;refine(rsgn_walk _ q _ VQ.out).mono ?_;rintro e w1 ⟨rfl,hb1⟩;replace VQ:=lH (VQ.out.below hb1);replace RQ:=rW RQ hb1;replace BF:=lH (BF.out.below hb1);replace BP:=lH (BP.out.below hb1);replace HB:=lH (HB.out.thenB hb1);clear hb1;rw[HZ.out];clear k0 k1 k2 k3 kl;go_wp2_with fail
  go_returns;exact⟨rfl,BF.out.congr (fun j _=>by rw[H0.out];grind),HB.out⟩
 ·have hsa:(sgI q.num==0)=false:=by simpa using (not_congr sgI_zero).2 h0
  have HSA:=lH hsa;clear hsa h0;obtain⟨W,hW,RQ,HB⟩:=eN1 w [.bool sq, .slice Aq lq cq, .bool tq, .slice Bq mq dq] 105;have VQ:=lH ((hq).below HB.out);have BF:=lH ((hf).below HB.out);have BP:=lH ((hp).below HB.out);clear hq hf hp;replace HB:Hid (Chg (fun k=>k=g) w W):=lH (Chg.of_below HB.out);obtain⟨k0,k1,k2,k3⟩:=aT4 RQ.out;have kl:=RQ.out.lt;go_enter Tryz.func150,Tryz.ntmps150;go_wp2_with fail
  rw[<- hW];clear hW;refine(rsgn_walk _ q _ VQ.out).mono ?_;rintro e w1 ⟨rfl,hb1⟩;replace VQ:=lH (VQ.out.below hb1);replace RQ:=rW RQ hb1;replace BF:=lH (BF.out.below hb1);replace BP:=lH (BP.out.below hb1);replace HB:=lH (HB.out.thenB hb1);clear hb1;have hsa:=HSA.out;clear k0 k1 k2 k3 kl;go_wp2_with fail
  clear hsa;have HF0:=lH (BF.out.congr (f':=fun j=>if j<0 then f j-q*p j else f j) (fun j _=>by simp))
  go_loopw [12] (fun iv wr=>∃k:Nat,k <= n /\ iv= .int .i64 k /\ RB wr g n (fun j=>if j<k then f j-q*p j else f j) /\ RB wr h nb p /\ Row wr w.heap.size 105 [.bool sq, .slice Aq lq cq, .bool tq, .slice Bq mq dq] /\ IsRat wr (.agg #[.bool sq, .slice Aq lq cq, .bool tq, .slice Bq mq dq]) q /\ Chg (fun k=>k=g) w wr)
   (fun iv _=>n-(intOf iv).toNat)
  case atStart=>exact⟨0,Nat.zero_le _,rfl,HF0.out,BP.out,RQ.out,VQ.out,HB.out⟩
  case round=>
   clear BF BP RQ VQ HB HF0;obtain⟨k,hk,rfl,hbf,hbp,hrq,hvq,hbw⟩:=hrel;have BF:=lH hbf;have BP:=lH hbp;have RQ:=lH hrq;have VQ:=lH hvq;have HB:=lH hbw;clear hbf hbp hrq hvq hbw;by_cases hkn:((k:Nat):Int)<(n:Nat)
   ·have hkn':k<n:=by omega
    have hkb:((k:Nat):Int)<(nb:Nat):=by omega
    obtain⟨sx,Ax,lx,cx,tx,Bx,mx,dx,hQx,hvQx⟩:=(BF.out).quad hkn';have Qx:=lH hQx;have Vx:=lH hvQx;clear hQx hvQx;obtain⟨sy,Ay,ly,cy,ty,By,my,dy,hQy,hvQy⟩:=(BP.out).quad (show k<nb by omega);have Qy:=lH hQy;have Vy:=lH hvQy;clear hQy hvQy;rw[show(if k<k then f k-q*p k else f k)=f k from if_neg (Nat.lt_irrefl k)] at Vx;by_cases h1:p k=0
    ·have hz:sgI (p k).num=0:=sgI_zero.2 h1;have HZ:=lH hz;have H1:=lH h1;clear hz h1;obtain⟨k0Qy,k1Qy,k2Qy,k3Qy⟩:=Qy.out;have klQy:=Qy.out.lt;go_wp2_with fail
     clear k0Qy k1Qy k2Qy k3Qy klQy;refine(rsgn_walk _ (p k) _ Vy.out).mono ?_;rintro e w2 ⟨rfl,hb2⟩;replace VQ:=lH (VQ.out.below hb2);replace Vx:=lH (Vx.out.below hb2);replace Vy:=lH (Vy.out.below hb2);replace RQ:=rW RQ hb2;replace Qx:=lH (Qx.out.below hb2);replace Qy:=lH (Qy.out.below hb2);replace BF:=lH (BF.out.below hb2);replace BP:=lH (BP.out.below hb2);replace HB:=lH (HB.out.thenB hb2);clear hb2;rw[HZ.out];go_wp2_with fail
     go_roundw
     case rel=>exact⟨k+1,by omega,by simp,BF.out.congr (fun j _=>lessF_skip H1.out j),BP.out,RQ.out,VQ.out,HB.out⟩
     case measure=>exact mZ
    ·have hsb:(sgI (p k).num !=0)=true:=by simpa using (not_congr sgI_zero).2 h1
     clear h1;obtain⟨k0Qy,k1Qy,k2Qy,k3Qy⟩:=Qy.out;have klQy:=Qy.out.lt;go_wp2_with fail
     clear k0Qy k1Qy k2Qy k3Qy klQy;refine(rsgn_walk _ (p k) _ Vy.out).mono ?_;rintro e w2 ⟨rfl,hb2⟩;replace VQ:=lH (VQ.out.below hb2);replace Vx:=lH (Vx.out.below hb2);replace Vy:=lH (Vy.out.below hb2);replace RQ:=rW RQ hb2;replace Qx:=lH (Qx.out.below hb2);replace Qy:=lH (Qy.out.below hb2);replace BF:=lH (BF.out.below hb2);replace BP:=lH (BP.out.below hb2);replace HB:=lH (HB.out.thenB hb2);clear hb2;go_wp2_with fail
     have HRG:=rG w2;have glRQ:=RQ.out.lt;obtain⟨g0RQ,g1RQ,g2RQ,g3RQ⟩:=aT4 RQ.out;have glQx:=Qx.out.lt;obtain⟨g0Qx,g1Qx,g2Qx,g3Qx⟩:=Qx.out;have glQy:=Qy.out.lt;obtain⟨g0Qy,g1Qy,g2Qy,g3Qy⟩:=Qy.out;have KS:=lH (kC g0RQ (kC g1RQ (kC g2RQ (kC g3RQ (kC g0Qx (kC g1Qx (kC g2Qx (kC g3Qx (kC g0Qy (kC g1Qy (kC g2Qy (kN g3Qy))))))))))));clear glRQ g0RQ g1RQ g2RQ g3RQ glQx g0Qx g1Qx g2Qx g3Qx glQy g0Qy g1Qy g2Qy g3Qy;refine rL KS.out (fun i=>decide (14 <= i)) ?_;have hh:=KS.out _ HRG.out;refine tKs 0 21 hh ?_;refine tKs 1 22 hh ?_;refine tKs 2 23 hh ?_;refine tKs 3 24 hh ?_;refine tKs 4 25 hh ?_;refine tKs 5 26 hh ?_;refine tKs 6 27 hh ?_;refine tKs 7 28 hh ?_;refine tKs 8 29 hh ?_;refine tKs 9 30 hh ?_;refine tKs 10 31 hh ?_;refine rD 11 (fun K hK=> ?_);go_simp;refine(rmulq_walk _ _ q (p k) _ (by exact VQ.out) (by exact Vy.out) (HLQ.out.mono (by decide)) ((HLP.out k hkn').mono (by decide))).mono ?_;rintro e w3 ⟨vz,rfl,hz,hb3⟩;have hb3:Below w2.heap.size w2 w3:=bD hb3;obtain⟨sz,Az,lz,cz,tz,Bz,mz,dz,rfl⟩:=hz.shape;have Vz:=lH hz;clear hz;replace VQ:=lH (VQ.out.below hb3);replace Vx:=lH (Vx.out.below hb3);replace Vy:=lH (Vy.out.below hb3);replace RQ:=rW RQ hb3;replace Qx:=lH (Qx.out.below hb3);replace Qy:=lH (Qy.out.below hb3);replace BF:=lH (BF.out.below hb3);replace BP:=lH (BP.out.below hb3);replace HB:=lH (HB.out.thenB hb3);replace HRG:=bT HRG hb3;clear hh hb3;have hh:=KS.out _ HRG.out;refine kH hK hh ?_;clear hK K;refine rD 12 (fun K hK=> ?_);go_simp;refine(rsubq_walk _ _ (f k) (q*p k) _ (by exact Vx.out) (by exact Vz.out) ((HLF.out k hkn').mono (by decide)) ((HLQ.out.mul (HLP.out k hkn')).mono (by decide))).mono ?_;rintro e w4 ⟨vr,rfl,hr,hb4⟩;have hb4:Below w3.heap.size w3 w4:=bD hb4;obtain⟨sr,Ar,lr,cr,tr,Br,mr,dr,rfl⟩:=hr.shape;have Vr:=lH hr;clear hr;replace VQ:=lH (VQ.out.below hb4);replace Vx:=lH (Vx.out.below hb4);replace Vy:=lH (Vy.out.below hb4);replace Vz:=lH (Vz.out.below hb4);replace RQ:=rW RQ hb4;replace Qx:=lH (Qx.out.below hb4);replace Qy:=lH (Qy.out.below hb4);replace BF:=lH (BF.out.below hb4);replace BP:=lH (BP.out.below hb4);replace HB:=lH (HB.out.thenB hb4);replace HRG:=bT HRG hb4;have kx0:=Qx.out.1;have kx1:=Qx.out.2.1;have kx2:=Qx.out.2.2.1;have kx3:=Qx.out.2.2.2;have kxl:=Qx.out.lt;have kf0:=BF.out.free (k*4);have kf1:=BF.out.free (k*4+1);have kf2:=BF.out.free (k*4+2);have kf3:=BF.out.free (k*4+3);clear hh hb4;have hh:=KS.out _ HRG.out;refine kH hK hh ?_;clear hK K;refine tKs 13 34 hh ?_;refine rD 14 (fun K hK=> ?_);go_simp;refine kL hK ?_;clear hK K;refine dN ?_ _;clear hh KS HRG;clear kx0 kx1 kx2 kx3 kxl kf0 kf1 kf2 kf3;clear Qx;have hg5:World.grownBy w4 ((((w4.setCell ⟨g,k*4,none⟩ (.bool sr)).setCell ⟨g,k*4+1,none⟩ (.slice Ar lr cr)).setCell ⟨g,k*4+2,none⟩ (.bool tr)).setCell ⟨g,k*4+3,none⟩ (.slice Br mr dr)) (some g):=grownBy_set4 _ _ _ _ _ _ _ _ _ _;obtain⟨cs5,hro5⟩:=BF.out.row;have ql5RQ:=RQ.out.lt;have ql5Qy:=Qy.out.lt;have ql5BF:=BF.out.lt;have ql5BP:=BP.out.lt;have hset5:=BF.out.set hkn' Vr.out;replace VQ:=lH (VQ.out.other hg5 hro5 ne_rat);replace Vx:=lH (Vx.out.other hg5 hro5 ne_rat);replace Vy:=lH (Vy.out.other hg5 hro5 ne_rat);replace Vz:=lH (Vz.out.other hg5 hro5 ne_rat);replace Vr:=lH (Vr.out.other hg5 hro5 ne_rat);replace RQ:=lH (RQ.out.other hg5 (by omega));replace Qy:=lH (Qy.out.other hg5 (by omega));replace BP:=lH (BP.out.other hg5 hro5 ne_rat (by omega));replace HB:=lH (HB.out.thenG hg5 (.inl rfl));replace BF:=lH hset5;obtain⟨w5,hw5⟩:=eX (((((w4.setCell ⟨g,k*4,none⟩ (.bool sr)).setCell ⟨g,k*4+1,none⟩ (.slice Ar lr cr)).setCell ⟨g,k*4+2,none⟩ (.bool tr)).setCell ⟨g,k*4+3,none⟩ (.slice Br mr dr)));rw[<- hw5] at VQ Vx Vy Vz Vr RQ Qy BF BP HB;clear hg5 hro5 hset5 ql5RQ ql5Qy ql5BF ql5BP;rw[<- hw5];clear hw5;go_wp2_with fail
     go_roundw
     case rel=>exact⟨k+1,by omega,by simp,BF.out.congr (fun j _=>lessF_step j),BP.out,RQ.out,VQ.out,HB.out⟩
     case measure=>exact mZ
   ·obtain rfl:k=n:=by omega
    go_wp2_with fail
    go_returns;exact⟨rfl,BF.out.congr (fun j hj=>by rw[if_pos hj]),HB.out⟩
end
end Go.Proofs.YtdefghfjhgmpfaaGreatDoor
