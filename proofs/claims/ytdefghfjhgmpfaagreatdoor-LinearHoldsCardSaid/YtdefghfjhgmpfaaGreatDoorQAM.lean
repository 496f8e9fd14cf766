/- Parts of this proof: RatA RatC. -/
import Derived.Test.YtdefghfjhgmpfaaGreatDoorQAL
import Derived.Test.YtdefghfjhgmpfaaGreatDoorQAE
namespace Go.Proofs.YtdefghfjhgmpfaaGreatDoor
section
open Go.RowKit
open Lp (RL)
set_option maxHeartbeats 1600000 in
theorem one_walk(w:World):
  Calls Tryz.prog 134 #[] w fun e w'=>∃v,e= .returned v /\ IsInt w' v (1) /\ Below w.heap.size w w':=by
 obtain⟨W,hW,RR,HB⟩:=eN1 w [.bool false, .slice none 0 0] 103;go_enter Tryz.func134,Tryz.ntmps134;go_wp2_with fail
 rw[<- hW];clear hW;refine(from_walk 1 _ (by decide) (by decide)).mono ?_;rintro e w1 ⟨vx,rfl,hx,hb1⟩;obtain⟨sx,Ax,lx,cx,rfl⟩:=hx.shape;have Vx:=lH hx;clear hx;replace RR:=rW RR hb1;replace HB:=bT HB hb1;clear hb1;obtain⟨k0RR,k1RR⟩:=aT2 RR.out;have klRR:=RR.out.lt;have kf0RR:=RR.out.free 0;have kf1RR:=RR.out.free 1;have hr:=res_store2 RR.out (by decide) (by omega) HB.out Vx.out;have HRES:=lH hr;clear hr;go_wp2_with fail
 refine bodyPost_ret (v:= .agg #[.bool sx, .slice Ax lx cx]) (by simp[results,Tryz.results134,go_sem,k0RR,k1RR]) rfl ?_;exact⟨_,rfl,HRES.out.1,HRES.out.2⟩
set_option maxHeartbeats 1600000 in
theorem rfromq_walk(n:Int)(h1: -9223372036854775808 <= n)(h2:n <= 9223372036854775807)(w:World):
  Calls Tryz.prog 75 #[.int .i64 n] w fun e w'=>∃v,e= .returned v /\ IsRat w' v ((n:Rat)) /\ Below w.heap.size w w':=by
 obtain⟨W,hW,RR,HB⟩:=eN1 w [.bool false, .slice none 0 0, .bool false, .slice none 0 0] 105;go_enter Tryz.func75,Tryz.ntmps75;go_wp2_with fail
 rw[<- hW];clear hW;refine(from_walk n _ h1 h2).mono ?_;rintro e w1 ⟨vx,rfl,hx,hb1⟩;obtain⟨sx,Ax,lx,cx,rfl⟩:=hx.shape;have Vx:=lH hx;clear hx;replace RR:=rW RR hb1;replace HB:=bT HB hb1;clear hb1;obtain⟨k0RR,k1RR,k2RR,k3RR⟩:=aT4 RR.out;have klRR:=RR.out.lt;have kf0RR:=RR.out.free 0;have kf1RR:=RR.out.free 1;have kf2RR:=RR.out.free 2;have kf3RR:=RR.out.free 3;have hr:=res_store4 RR.out (by decide) (by omega) HB.out (IsRat.mk (q:=(n:Rat)) Vx.out (IsInt.zero_ _) (Rat.num_intCast n).symm (.inr ⟨rfl,Rat.den_intCast n⟩));have HRES:=lH hr;clear hr;go_wp2_with fail
 refine bodyPost_ret (v:= .agg #[.bool sx, .slice Ax lx cx, .bool false, .slice none 0 0]) (by simp[results,Tryz.results75,go_sem,k0RR,k1RR,k2RR,k3RR]) rfl ?_;exact⟨_,rfl,HRES.out.1,HRES.out.2⟩
set_option maxHeartbeats 1600000 in
theorem rsgn_walk(va:Value)(a:Rat)(w:World)(ha:IsRat w va a):
  Calls Tryz.prog 76 #[va] w fun e w'=>e= .returned (.int .i64 (sgI a.num)) /\ Below w.heap.size w w':=by
 obtain⟨sa,Aa,la,ca,ta,Ba,ma,da,rfl⟩:=ha.shape;obtain⟨W,hW,RA,HB⟩:=eN1 w [.bool sa, .slice Aa la ca, .bool ta, .slice Ba ma da] 105;have VA:=lH ((ha).below HB.out);obtain⟨k0,k1⟩:=aT2 RA.out;have kl:=RA.out.lt;clear ha;go_enter Tryz.func76,Tryz.ntmps76;go_wp2_with fail
 rw[<- hW];clear hW;refine(sign_walk _ a.num _ VA.out.parts.1).mono ?_;rintro e w1 ⟨rfl,hb1⟩;replace VA:=lH (VA.out.below hb1);replace RA:=rW RA hb1;replace HB:=bT HB hb1;clear hb1;go_wp2_with fail
 go_returns;exact⟨rfl,HB.out⟩
end
section
open Go.RowKit
open Lp (RL)
set_option maxHeartbeats 1600000 in
theorem den_walk(va:Value)(a:Rat)(w:World)(ha:IsRat w va a):
  Calls Tryz.prog 142 #[va] w fun e w'=>∃v,e= .returned v /\ IsInt w' v ((a.den:Int)) /\ Below w.heap.size w w':=by
 obtain⟨sa,Aa,la,ca,ta,Ba,ma,da,rfl⟩:=ha.shape;obtain⟨hna,y,hda,hy⟩:=ha.parts;by_cases h0:y=0
 ·subst h0;have HY:=lH hy;clear hy;obtain⟨W,hW,RA,RR,HB⟩:=eN2 w [.bool sa, .slice Aa la ca, .bool ta, .slice Ba ma da] 105 [.bool false, .slice none 0 0] 103;have VD:=lH ((hda).below HB.out);clear ha hna hda;have k2:=aI 2 RA;have k3:=aI 3 RA;have kl:=RA.out.lt;go_enter Tryz.func142,Tryz.ntmps142;go_wp2_with fail
  rw[<- hW];clear hW;refine(sign_walk _ 0 _ VD.out).mono ?_;rintro e w1 ⟨rfl,hb1⟩;replace VD:=lH (VD.out.below hb1);replace RA:=rW RA hb1;replace RR:=rW RR hb1;replace HB:=bT HB hb1;clear hb1;rw[show sgI 0=0 from rfl];clear k2 k3 kl;go_wp2_with fail
  refine(one_walk _).mono ?_;rintro e w2 ⟨vo,rfl,ho,hb2⟩;obtain⟨so,Ao,lo,co,rfl⟩:=ho.shape;have Vo:=lH ho;clear ho;replace VD:=lH (VD.out.below hb2);replace RA:=rW RA hb2;replace RR:=rW RR hb2;replace HB:=bT HB hb2;clear hb2;obtain⟨k0RR,k1RR⟩:=aT2 RR.out;have klRR:=RR.out.lt;have kf0RR:=RR.out.free 0;have kf1RR:=RR.out.free 1;have hr:=res_store2 RR.out (by decide) (by omega) HB.out Vo.out;have HRES:=lH hr;clear hr;go_wp2_with fail
  refine bodyPost_ret (v:= .agg #[.bool so, .slice Ao lo co]) (by simp[results,Tryz.results142,go_sem,k0RR,k1RR]) rfl ?_;exact⟨_,rfl,by rw[show(a.den:Int)=1 from by have:=HY.out;have:=a.den_nz;omega];exact HRES.out.1,HRES.out.2⟩
 ·have hyd:y=(a.den:Int):=by omega
  subst hyd;have hsg:sgI (a.den:Int)=1:=by unfold sgI;rw[if_neg (by omega),if_neg (by omega)]
  have HSG:=lH hsg;clear hsg hy h0;obtain⟨W,hW,RA,RR,HB⟩:=eN2 w [.bool sa, .slice Aa la ca, .bool ta, .slice Ba ma da] 105 [.bool false, .slice none 0 0] 103;have VD:=lH ((hda).below HB.out);clear ha hna hda;have k2:=aI 2 RA;have k3:=aI 3 RA;have kl:=RA.out.lt;go_enter Tryz.func142,Tryz.ntmps142;go_wp2_with fail
  rw[<- hW];clear hW;refine(sign_walk _ _ _ VD.out).mono ?_;rintro e w1 ⟨rfl,hb1⟩;replace VD:=lH (VD.out.below hb1);replace RA:=rW RA hb1;replace RR:=rW RR hb1;replace HB:=bT HB hb1;clear hb1;rw[HSG.out];clear k2 k3 kl;have k2RA:=aI 2 RA;have k3RA:=aI 3 RA;have klRA:=RA.out.lt;obtain⟨k0RR,k1RR⟩:=aT2 RR.out;have klRR:=RR.out.lt;have kf0RR:=RR.out.free 0;have kf1RR:=RR.out.free 1;have hr:=res_store2 RR.out (by decide) (by omega) HB.out VD.out;have HRES:=lH hr;clear hr;go_wp2_with fail
  refine bodyPost_ret (v:= .agg #[.bool ta, .slice Ba ma da]) (by simp[results,Tryz.results142,go_sem,k0RR,k1RR]) rfl ?_;exact⟨_,rfl,HRES.out.1,HRES.out.2⟩
set_option maxHeartbeats 1600000 in
theorem rnegq_walk(va:Value)(a:Rat)(w:World)(ha:IsRat w va a):
  Calls Tryz.prog 69 #[va] w fun e w'=>∃v,e= .returned v /\ IsRat w' v (-a) /\ Below w.heap.size w w':=by
 obtain⟨sa,Aa,la,ca,ta,Ba,ma,da,rfl⟩:=ha.shape;obtain⟨hna,y,hda,hy⟩:=ha.parts;have HY:=lH hy;clear hy;obtain⟨W,hW,RA,RR,HB⟩:=eN2 w [.bool sa, .slice Aa la ca, .bool ta, .slice Ba ma da] 105 [.bool false, .slice none 0 0, .bool false, .slice none 0 0] 105;have VN:=lH ((hna).below HB.out);have VD:=lH ((hda).below HB.out);clear ha hna hda;go_enter Tryz.func69,Tryz.ntmps69;go_wp2_with fail
 rw[<- hW];clear hW;go_wp2_with fail
 have HRG:=rG W;have HRD:Hid (Below W.heap.size W W.drew):=lH (Below.refl _ _).drew;have glRA:=RA.out.lt;obtain⟨g0RA,g1RA,g2RA,g3RA⟩:=aT4 RA.out;have KS:=lH (kC g0RA (kC g1RA (kC g2RA (kN g3RA))));have neRR:=RR.out.lt;have KT:=lH (k4C (w.heap.size+1) g0RA (k4C (w.heap.size+1) g1RA (k4C (w.heap.size+1) g2RA (k4N (w.heap.size+1) g3RA))));clear neRR;have tok0:True:=trivial
 go_region_held3 (fun w'=> w'.cell? ⟨w.heap.size,0,none⟩=some (.bool sa) /\ w'.cell? ⟨w.heap.size,1,none⟩=some (.slice Aa la ca) /\ w'.cell? ⟨w.heap.size,2,none⟩=some (.bool ta) /\ w'.cell? ⟨w.heap.size,3,none⟩=some (.slice Ba ma da))
  (first | (with_reducible exact KS.out _ HRD.out) | (with_reducible exact KS.out _ HRG.out) | (with_reducible exact KT.out _ _ _ _ _ HRG.out) | (exact KS.out _ (HRG.out.trans ((below_new _ _).mono HRG.out.size))) | (exact KS.out _ (HRG.out.trans (((below_new _ _).drew).mono HRG.out.size))) | go_keep)
  (first
   | (go_at_call 108
      have _t:=tok0;refine(neg_walk _ a.num _ (by exact VN.out)).mono ?_;rintro e w1 ⟨vn,rfl,hn,hb1⟩;have hb1:Below W.heap.size W w1:=bD hb1;obtain⟨sn,An,ln,cn,rfl⟩:=hn.shape;have Vn:=lH hn;replace VN:=lH (VN.out.below hb1);replace VD:=lH (VD.out.below hb1);replace RA:=rW RA hb1;replace RR:=rW RR hb1;replace HB:=bT HB hb1;replace HRG:=bT HRG hb1;have hr:=res_store4 RR.out (by decide) (by omega) HB.out (IsRat.mk (q:= -a) Vn.out VD.out (Rat.neg_num a).symm (by rw[Rat.neg_den];exact HY.out));have HRES:=lH hr;clear hr;obtain⟨k0RR,kf0RR,k1RR,kf1RR,k2RR,kf2RR,k3RR,kf3RR⟩:=aF4 RR.out;have klRR:=RR.out.lt
      clear hb1 tok0 _t hn))
 clear glRA g0RA g1RA g2RA g3RA KS HRG HRD KT;go_wp2_with fail
 refine bodyPost_ret (v:= .agg #[.bool sn, .slice An ln cn, .bool ta, .slice Ba ma da]) (by simp[results,Tryz.results69,go_sem,k0RR,k1RR,k2RR,k3RR]) rfl ?_;exact⟨_,rfl,HRES.out.1,HRES.out.2⟩
end
end Go.Proofs.YtdefghfjhgmpfaaGreatDoor
