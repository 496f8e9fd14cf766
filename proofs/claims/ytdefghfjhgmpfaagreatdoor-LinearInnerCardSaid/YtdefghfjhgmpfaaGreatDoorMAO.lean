/- Parts of this proof: RatH RatG Rats Less Dot. -/
import Derived.Test.YtdefghfjhgmpfaaGreatDoorMAM
import Derived.Test.YtdefghfjhgmpfaaGreatDoorMAN
import Derived.Test.YtdefghfjhgmpfaaGreatDoorMAK
import Derived.Test.YtdefghfjhgmpfaaGreatDoorMAE
namespace Go.Proofs.YtdefghfjhgmpfaaGreatDoor
open Tryz
section
open Go.RowKit
open Lp (RL)
set_option maxHeartbeats 1600000 in
theorem vw(va vb:Value)(a b:Rat)(w:World)(ha:eO w va a)(hb:eO w vb b)(a8:RL 1000000000000 a)(a9:RL 1000000000000 b):
  Calls prog 153 #[va,vb] w fun e w'=>∃v,e= .returned v /\ eO w' v (a-b) /\ Below w.heap.size w w':=by
 obtain⟨sa,Aa,la,ca,ta,Ba,ma,da,rfl⟩:=ha.shape;obtain⟨sb,Ab,lb,cb,tb,Bb,mb,db,rfl⟩:=hb.shape;have ac:=lH a8;have ad:=lH a9;clear a8 a9;obtain⟨W,hW,O,RB,F,M⟩:=eN3 w [.bool sa, .slice Aa la ca, .bool ta, .slice Ba ma da] 105 [.bool sb, .slice Ab lb cb, .bool tb, .slice Bb mb db] 105 [.bool false, .slice none 0 0, .bool false, .slice none 0 0] 105;have T:=lH ((ha).below M.o);have U:=lH ((hb).below M.o);clear ha hb;go_enter func153,ntmps153;go_wp2_with fail
 rw[<- hW];clear hW;go_wp2_with fail
 have h:=rG W;have a6:Hid (Below W.heap.size W W.drew):=lH (Below.refl _ _).drew;have ae:=O.o.lt;obtain⟨Y,a0,a2,a4⟩:=aT4 O.o;have af:=RB.o.lt;obtain⟨Z,a1,a3,a5⟩:=aT4 RB.o;have R:=lH (kC Y (kC a0 (kC a2 (kC a4 (kC Z (kC a1 (kC a3 (kN a5))))))));have ak:=F.o.lt;have KT:=lH (k4C (w.heap.size+1+1) Y (k4C (w.heap.size+1+1) a0 (k4C (w.heap.size+1+1) a2 (k4C (w.heap.size+1+1) a4 (k4C (w.heap.size+1+1) Z (k4C (w.heap.size+1+1) a1 (k4C (w.heap.size+1+1) a3 (k4N (w.heap.size+1+1) a5))))))));clear ak;have aa:True:=trivial;have ab:True:=trivial
 go_region_held3 (fun w'=> w'.cell? ⟨w.heap.size,0,none⟩=some (.bool sa) /\ w'.cell? ⟨w.heap.size,1,none⟩=some (.slice Aa la ca) /\ w'.cell? ⟨w.heap.size,2,none⟩=some (.bool ta) /\ w'.cell? ⟨w.heap.size,3,none⟩=some (.slice Ba ma da) /\ w'.cell? ⟨(w.heap.size+1),0,none⟩=some (.bool sb) /\ w'.cell? ⟨(w.heap.size+1),1,none⟩=some (.slice Ab lb cb) /\ w'.cell? ⟨(w.heap.size+1),2,none⟩=some (.bool tb) /\ w'.cell? ⟨(w.heap.size+1),3,none⟩=some (.slice Bb mb db))
  (first | (with_reducible exact R.o _ a6.o) | (with_reducible exact R.o _ h.o) | (with_reducible exact KT.o _ _ _ _ _ h.o) | (exact R.o _ (h.o.trans ((eD _ _).mono h.o.size))) | (exact R.o _ (h.o.trans (((eD _ _).drew).mono h.o.size))) | go_keep)
  (first
   | (go_at_call 69
      have _t:=aa;refine(nU _ b _ (by exact U.o)).mono ?_;rintro e w1 ⟨ve,rfl,he,E⟩;have E:Below W.heap.size W w1:=bD E;obtain⟨se,Ae,le,ce,te,Be,me,de,rfl⟩:=he.shape;have X:=lH he;replace T:=lH (T.o.below E);replace U:=lH (U.o.below E);replace O:=rW O E;replace RB:=rW RB E;replace F:=rW F E;replace M:=bT M E;replace h:=bT h E
      clear E aa _t he)
   | (go_at_call 143
      have _t:=ab;refine(zf _ _ a (-b) _ (by exact T.o) (by exact X.o) ac.o ad.o.neg).mono ?_;rintro e w2 ⟨vr,rfl,G,t⟩;have t:Below w1.heap.size w1 w2:=bD t;obtain⟨sr,Ar,lr,cr,tr,Br,mr,dr,rfl⟩:=G.shape;have Vr:=lH G;replace T:=lH (T.o.below t);replace U:=lH (U.o.below t);replace X:=lH (X.o.below t);replace O:=rW O t;replace RB:=rW RB t;replace F:=rW F t;replace M:=bT M t;replace h:=bT h t;rw[<- Rat.sub_eq_add_neg] at G;replace Vr:=lH G;have G:=iY F.o dC oM M.o Vr.o;have a7:=lH G;clear G;obtain⟨ag,al,ah,am,ai,an,aj,ao⟩:=aF4 F.o;have ap:=F.o.lt
      clear t ab _t G))
 clear ae Y a0 a2 a4 af Z a1 a3 a5 R h a6 KT;go_wp2_with fail
 refine bodyPost_ret (v:= .agg #[.bool sr, .slice Ar lr cr, .bool tr, .slice Br mr dr]) (by simp[results,results153,go_sem,ag,ah,ai,aj]) rfl ?_;exact⟨_,rfl,a7.o.1,a7.o.2⟩
set_option maxHeartbeats 1600000 in
theorem FE(va vb:Value)(a b:Rat)(w:World)(ha:eO w va a)(hb:eO w vb b)(af:b≠0)(ag:RL 1000000000000 a)(ah:RL 1000000000000 b):
  Calls prog 179 #[va,vb] w fun e w'=>∃v,e= .returned (.tuple #[v, .int .i64 0]) /\ eO w' v (a / b) /\ Below w.heap.size w w':=by
 obtain⟨sa,Aa,la,ca,ta,Ba,ma,da,rfl⟩:=ha.shape;obtain⟨sb,Ab,lb,cb,tb,Bb,mb,db,rfl⟩:=hb.shape;have a1:=lH ag;have a2:=lH ah;clear ag ah;have ab:b.num≠0:=fun e=>af (Rat.num_eq_zero.1 e)
 have ac:(sgI b.num==0)=false:=uT ab;have an:=lH ab;have ao:=lH ac;clear ab ac af;obtain⟨W,hW,G,RB,t,E⟩:=eN3 w [.bool sa, .slice Aa la ca, .bool ta, .slice Ba ma da] 105 [.bool sb, .slice Ab lb cb, .bool tb, .slice Bb mb db] 105 [.bool false, .slice none 0 0, .bool false, .slice none 0 0] 105;have M:=lH ((ha).below E.o);have F:=lH ((hb).below E.o);clear ha hb;obtain⟨k0,k1,k2,k3⟩:=aT4 RB.o;have kl:=RB.o.lt;go_enter func179,ntmps179;go_wp2_with fail
 rw[<- hW];clear hW;refine(fU _ b _ F.o).mono ?_;rintro e w1 ⟨rfl,a0⟩;replace M:=lH (M.o.below a0);replace F:=lH (F.o.below a0);replace G:=rW G a0;replace RB:=rW RB a0;replace t:=rW t a0;replace E:=bT E a0;clear a0;clear k0 k1 k2 k3 kl;have ac:=ao.o;go_wp2_with fail
 have h:=rG w1;have ad:Hid (Below w1.heap.size w1 w1.drew):=lH (Below.refl _ _).drew;have ap:=G.o.lt;obtain⟨a3,a5,a7,a9⟩:=aT4 G.o;have aq:=RB.o.lt;obtain⟨a4,a6,a8,aa⟩:=aT4 RB.o;have KS:=lH (kC a3 (kC a5 (kC a7 (kC a9 (kC a4 (kC a6 (kC a8 (kN aa))))))));have ax:=t.o.lt;have KT:=lH (k4C (w.heap.size+1+1) a3 (k4C (w.heap.size+1+1) a5 (k4C (w.heap.size+1+1) a7 (k4C (w.heap.size+1+1) a9 (k4C (w.heap.size+1+1) a4 (k4C (w.heap.size+1+1) a6 (k4C (w.heap.size+1+1) a8 (k4N (w.heap.size+1+1) aa))))))));clear ax;have ai:True:=trivial;have aj:True:=trivial;have ak:True:=trivial;have al:True:=trivial;have am:True:=trivial
 go_region_held3 (fun w'=> w'.cell? ⟨w.heap.size,0,none⟩=some (.bool sa) /\ w'.cell? ⟨w.heap.size,1,none⟩=some (.slice Aa la ca) /\ w'.cell? ⟨w.heap.size,2,none⟩=some (.bool ta) /\ w'.cell? ⟨w.heap.size,3,none⟩=some (.slice Ba ma da) /\ w'.cell? ⟨(w.heap.size+1),0,none⟩=some (.bool sb) /\ w'.cell? ⟨(w.heap.size+1),1,none⟩=some (.slice Ab lb cb) /\ w'.cell? ⟨(w.heap.size+1),2,none⟩=some (.bool tb) /\ w'.cell? ⟨(w.heap.size+1),3,none⟩=some (.slice Bb mb db))
  (first | (with_reducible exact KS.o _ ad.o) | (with_reducible exact KS.o _ h.o) | (with_reducible exact KT.o _ _ _ _ _ h.o) | (exact KS.o _ (h.o.trans ((eD _ _).mono h.o.size))) | (exact KS.o _ (h.o.trans (((eD _ _).drew).mono h.o.size))) | go_keep)
  (first
   | (go_at_call 142
      have _t:=ai;refine(ji _ b _ (by exact F.o)).mono ?_;rintro e w2 ⟨ve,rfl,he,X⟩;have X:Below w1.heap.size w1 w2:=bD X;obtain⟨se,Ae,le,ce,rfl⟩:=he.shape;have Y:=lH he;replace M:=lH (M.o.below X);replace F:=lH (F.o.below X);replace G:=rW G X;replace RB:=rW RB X;replace t:=rW t X;replace E:=bT E X;replace h:=bT h X
      clear X ai _t he)
   | (go_at_call 141
      have _t:=aj;refine(jr _ _ a.num (b.den:Int) _ (by exact M.o.parts.1) (by exact Y.o) ((a1.o.fE).l1 dC) ((a2.o.fB).l1 dC)).mono ?_;rintro e w3 ⟨vf,rfl,hf,U⟩;have U:Below w2.heap.size w2 w3:=bD U;obtain⟨sf,Af,lf,cf,rfl⟩:=hf.shape;have Vf:=lH hf;replace M:=lH (M.o.below U);replace F:=lH (F.o.below U);replace Y:=lH (Y.o.below U);replace G:=rW G U;replace RB:=rW RB U;replace t:=rW t U;replace E:=bT E U;replace h:=bT h U
      clear U aj _t hf)
   | (go_at_call 142
      have _t:=ak;refine(ji _ a _ (by exact M.o)).mono ?_;rintro e w4 ⟨vg,rfl,hg,T⟩;have T:Below w3.heap.size w3 w4:=bD T;obtain⟨sg,Ag,lg,cg,rfl⟩:=hg.shape;have Vg:=lH hg;replace M:=lH (M.o.below T);replace F:=lH (F.o.below T);replace Y:=lH (Y.o.below T);replace Vf:=lH (Vf.o.below T);replace G:=rW G T;replace RB:=rW RB T;replace t:=rW t T;replace E:=bT E T;replace h:=bT h T
      clear T ak _t hg)
   | (go_at_call 141
      have _t:=al;refine(jr _ _ (a.den:Int) b.num _ (by exact Vg.o) (by exact F.o.parts.1) ((a1.o.fB).l1 dC) ((a2.o.fE).l1 dC)).mono ?_;rintro e w5 ⟨vh,rfl,hh,R⟩;have R:Below w4.heap.size w4 w5:=bD R;obtain⟨sh,Ah,lh,ch,rfl⟩:=hh.shape;have Vh:=lH hh;replace M:=lH (M.o.below R);replace F:=lH (F.o.below R);replace Y:=lH (Y.o.below R);replace Vf:=lH (Vf.o.below R);replace Vg:=lH (Vg.o.below R);replace G:=rW G R;replace RB:=rW RB R;replace t:=rW t R;replace E:=bT E R;replace h:=bT h R
      clear R al _t hh)
   | (go_at_call 154
      have _t:=am;refine(qJ _ _ (a.num* (b.den:Int)) ((a.den:Int)*b.num) _ (by exact Vf.o) (by exact Vh.o) (by have h1:=a.den_nz;exact Int.mul_ne_zero oM an.o) ((a1.o.fE.mul a2.o.fB).mono dC) ((a1.o.fB.mul a2.o.fE).mono dC)).mono ?_;rintro e w6 ⟨vr,rfl,Z,O⟩;have O:Below w5.heap.size w5 w6:=bD O;obtain⟨sr,Ar,lr,cr,tr,Br,mr,dr,rfl⟩:=Z.shape;have Vr:=lH Z;replace M:=lH (M.o.below O);replace F:=lH (F.o.below O);replace Y:=lH (Y.o.below O);replace Vf:=lH (Vf.o.below O);replace Vg:=lH (Vg.o.below O);replace Vh:=lH (Vh.o.below O);replace G:=rW G O;replace RB:=rW RB O;replace t:=rW t O;replace E:=bT E O;replace h:=bT h O;rw[FC] at Z;replace Vr:=lH Z;have Z:=iY t.o dC oM E.o Vr.o;have ae:=lH Z;clear Z;obtain⟨ar,ay,au,az,av,aA,aw,aB⟩:=aF4 t.o;have aC:=t.o.lt
      clear O am _t Z))
 clear ap a3 a5 a7 a9 aq a4 a6 a8 aa KS h ad KT;go_wp2_with fail
 refine bodyPost_ret (v:= .tuple #[.agg #[.bool sr, .slice Ar lr cr, .bool tr, .slice Br mr dr], .int .i64 0]) (by simp[results,results179,go_sem,ar,au,av,aw]) rfl ?_;exact⟨_,rfl,ae.o.1,ae.o.2⟩
set_option maxHeartbeats 1600000 in
theorem zg(va vb:Value)(a b:Rat)(w:World)(G:eO w va a)(M:eO w vb b)(U:b≠0)(X:RL 1000000000000 a)(Y:RL 1000000000000 b):
  Calls prog 152 #[va,vb] w fun e w'=>∃v,e= .returned v /\ eO w' v (a / b) /\ Below w.heap.size w w':=by
 obtain⟨sa,Aa,la,ca,ta,Ba,ma,da,rfl⟩:=G.shape;obtain⟨sb,Ab,lb,cb,tb,Bb,mb,db,rfl⟩:=M.shape;have a1:=lH X;have a2:=lH Y;have a0:=lH U;clear X Y U;obtain⟨W,T,E,RB,h,t⟩:=eN3 w [.bool sa, .slice Aa la ca, .bool ta, .slice Ba ma da] 105 [.bool sb, .slice Ab lb cb, .bool tb, .slice Bb mb db] 105 [.bool false, .slice none 0 0, .bool false, .slice none 0 0] 105;have VA:=lH ((G).below t.o);have VB:=lH ((M).below t.o);clear G M;have k0:=aI 0 E;have j0:=aI 0 RB;have k1:=aI 1 E;have j1:=aI 1 RB;have k2:=aI 2 E;have j2:=aI 2 RB;have k3:=aI 3 E;have j3:=aI 3 RB;have kl:=E.o.lt;have jl:=RB.o.lt;go_enter func152,ntmps152;go_wp2_with fail
 rw[<- T];clear T;refine(FE _ _ a b _ VA.o VB.o a0.o a1.o a2.o).mono ?_;rintro e w1 ⟨vq,rfl,R,O⟩;obtain⟨sq,Aq,lq,cq,tq,Bq,mq,dq,rfl⟩:=R.shape;have Vq:=lH R;clear R;replace h:=rW h O;replace t:=bT t O;clear O k0 k1 k2 k3 j0 j1 j2 j3 kl jl;obtain⟨a3,a4,a5,a6⟩:=aT4 h.o;have a7:=h.o.lt;have a8:=h.o.free 0;have a9:=h.o.free 1;have aa:=h.o.free 2;have ab:=h.o.free 3;have Z:=iY h.o dC oM t.o Vq.o;have F:=lH Z;clear Z;go_wp2_with fail
 refine bodyPost_ret (v:= .agg #[.bool sq, .slice Aq lq cq, .bool tq, .slice Bq mq dq]) (by simp[results,results152,go_sem,a3,a4,a5,a6,a7]) rfl ?_;exact⟨_,rfl,F.o.1.below (eD _ _),F.o.2.trans ((eD _ _).mono F.o.2.size)⟩
end
section
open Go.RowKit
open Lp (RL)
set_option maxHeartbeats 3200000 in
theorem sM(va vb:Value)(a b:Rat)(w:World)(ha:eO w va a)(hb:eO w vb b)(au:RL 1000000000000 a)(av:RL 1000000000000 b):
  Calls prog 119 #[va,vb] w fun e w'=>e= .returned (.int .i64 (jq a b)) /\ Below w.heap.size w w':=by
 obtain⟨sa,Aa,la,ca,ta,Ba,ma,da,rfl⟩:=ha.shape;obtain⟨sb,Ab,lb,cb,tb,Bb,mb,db,rfl⟩:=hb.shape;have a1:=lH au;have a2:=lH av;clear au av;by_cases ai:a.den=1
 ·have aq:=lH ai;clear ai;obtain⟨W,hW,h,RB,t⟩:=eN2 w [.bool sa, .slice Aa la ca, .bool ta, .slice Ba ma da] 105 [.bool sb, .slice Ab lb cb, .bool tb, .slice Bb mb db] 105;have E:=lH ((ha).below t.o);have G:=lH ((hb).below t.o);clear ha hb;obtain⟨k0,k1,k2,k3⟩:=aT4 h.o;have kl:=h.o.lt;go_enter func119,ntmps119;go_wp2_with fail
  rw[<- hW];clear hW;refine(lG _ a _ E.o (a1.o.mono dC)).mono ?_;rintro e w1 ⟨rfl,X⟩;replace E:=lH (E.o.below X);replace G:=lH (G.o.below X);replace h:=rW h X;replace RB:=rW RB X;replace t:=bT t X;clear X;clear k0 k1 k2 k3 kl;rw[show decide (a.den=1)=true from by simpa using aq.o];obtain⟨al,am,an,ao⟩:=aT4 RB.o;have ap:=RB.o.lt;go_wp2_with fail
  clear al am an ao ap;refine(lG _ b _ G.o (a2.o.mono dC)).mono ?_;rintro e w2 ⟨rfl,Y⟩;replace E:=lH (E.o.below Y);replace G:=lH (G.o.below Y);replace h:=rW h Y;replace RB:=rW RB Y;replace t:=bT t Y;clear Y;by_cases X:b.den=1
  ·rw[show decide (b.den=1)=true from by simpa using X];have aw:=lH X;clear X;obtain⟨ax,ay,az,aA⟩:=aT4 h.o;have aB:=h.o.lt;obtain⟨al,am,an,ao⟩:=aT4 RB.o;have ap:=RB.o.lt;go_wp2_with fail
   clear ax ay az aA aB al am an ao ap;refine(jK _ _ a.num b.num _ E.o.parts.1 G.o.parts.1 ((a1.o.fE).l1 dC) ((a2.o.fE).l1 dC)).mono ?_;rintro e w3 ⟨rfl,R⟩;replace t:=bT t R;clear R;go_wp2_with fail
   go_returns;exact⟨by rw[<- FD aq.o aw.o];rfl,t.o⟩
  ·rw[show decide (b.den=1)=false from by simpa using X];clear X;go_wp2_with fail
   have F:=rG w2;have a3:Hid (Below w2.heap.size w2 w2.drew):=lH (Below.refl _ _).drew;have aj:=h.o.lt;obtain⟨a4,a6,a8,aa⟩:=aT4 h.o;have ak:=RB.o.lt;obtain⟨a5,a7,a9,ab⟩:=aT4 RB.o;have KS:=lH (kC a4 (kC a6 (kC a8 (kC aa (kC a5 (kC a7 (kC a9 (kN ab))))))));have ad:True:=trivial;have ae:True:=trivial;have af:True:=trivial;have ag:True:=trivial;have ah:True:=trivial
   go_region_held3 (fun w'=> w'.cell? ⟨w.heap.size,0,none⟩=some (.bool sa) /\ w'.cell? ⟨w.heap.size,1,none⟩=some (.slice Aa la ca) /\ w'.cell? ⟨w.heap.size,2,none⟩=some (.bool ta) /\ w'.cell? ⟨w.heap.size,3,none⟩=some (.slice Ba ma da) /\ w'.cell? ⟨(w.heap.size+1),0,none⟩=some (.bool sb) /\ w'.cell? ⟨(w.heap.size+1),1,none⟩=some (.slice Ab lb cb) /\ w'.cell? ⟨(w.heap.size+1),2,none⟩=some (.bool tb) /\ w'.cell? ⟨(w.heap.size+1),3,none⟩=some (.slice Bb mb db))
    (first | (with_reducible exact KS.o _ a3.o) | (with_reducible exact KS.o _ F.o) | (exact KS.o _ (F.o.trans ((eD _ _).mono F.o.size))) | (exact KS.o _ (F.o.trans (((eD _ _).drew).mono F.o.size))) | go_keep)
    (first
     | (go_at_call 142
        have _t:=ad;refine(ji _ b _ (by exact G.o)).mono ?_;rintro e w3 ⟨ve,rfl,he,R⟩;have R:Below w2.heap.size w2 w3:=bD R;obtain⟨se,Ae,le,ce,rfl⟩:=he.shape;have U:=lH he;replace E:=lH (E.o.below R);replace G:=lH (G.o.below R);replace h:=rW h R;replace RB:=rW RB R;replace t:=bT t R;replace F:=bT F R
        clear R ad _t he)
     | (go_at_call 141
        have _t:=ae;refine(jr _ _ a.num (b.den:Int) _ (by exact E.o.parts.1) (by exact U.o) ((a1.o.fE).l1 dC) ((a2.o.fB).l1 dC)).mono ?_;rintro e w4 ⟨vf,rfl,hf,T⟩;have T:Below w3.heap.size w3 w4:=bD T;obtain⟨sf,Af,lf,cf,rfl⟩:=hf.shape;have Z:=lH hf;replace E:=lH (E.o.below T);replace G:=lH (G.o.below T);replace U:=lH (U.o.below T);replace h:=rW h T;replace RB:=rW RB T;replace t:=bT t T;replace F:=bT F T
        clear T ae _t hf)
     | (go_at_call 142
        have _t:=af;refine(ji _ a _ (by exact E.o)).mono ?_;rintro e w5 ⟨vg,rfl,hg,O⟩;have O:Below w4.heap.size w4 w5:=bD O;obtain⟨sg,Ag,lg,cg,rfl⟩:=hg.shape;have Vg:=lH hg;replace E:=lH (E.o.below O);replace G:=lH (G.o.below O);replace U:=lH (U.o.below O);replace Z:=lH (Z.o.below O);replace h:=rW h O;replace RB:=rW RB O;replace t:=bT t O;replace F:=bT F O
        clear O af _t hg)
     | (go_at_call 141
        have _t:=ag;refine(jr _ _ b.num (a.den:Int) _ (by exact G.o.parts.1) (by exact Vg.o) ((a2.o.fE).l1 dC) ((a1.o.fB).l1 dC)).mono ?_;rintro e w6 ⟨vh,rfl,hh,M⟩;have M:Below w5.heap.size w5 w6:=bD M;obtain⟨sh,Ah,lh,ch,rfl⟩:=hh.shape;have Vh:=lH hh;replace E:=lH (E.o.below M);replace G:=lH (G.o.below M);replace U:=lH (U.o.below M);replace Z:=lH (Z.o.below M);replace Vg:=lH (Vg.o.below M);replace h:=rW h M;replace RB:=rW RB M;replace t:=bT t M;replace F:=bT F M
        clear M ag _t hh)
     | (go_at_call 133
        have _t:=ah;refine(jK _ _ (a.num* (b.den:Int)) (b.num* (a.den:Int)) _ (by exact Z.o) (by exact Vh.o) ((a1.o.fE.mul a2.o.fB).l1 dC) ((a2.o.fE.mul a1.o.fB).l1 dC)).mono ?_;rintro e w7 ⟨rfl,a0⟩;have a0:Below w6.heap.size w6 w7:=bD a0;replace E:=lH (E.o.below a0);replace G:=lH (G.o.below a0);replace U:=lH (U.o.below a0);replace Z:=lH (Z.o.below a0);replace Vg:=lH (Vg.o.below a0);replace Vh:=lH (Vh.o.below a0);replace h:=rW h a0;replace RB:=rW RB a0;replace t:=bT t a0;replace F:=bT F a0
        clear a0 ah _t))
   clear aj a4 a6 a8 aa ak a5 a7 a9 ab KS F a3;go_wp2_with fail
   go_returns;exact⟨by rw[<- sJ];rfl,t.o⟩
 ·obtain⟨W,hW⟩:=eX (((w.alloc (.cells #[.bool sa, .slice Aa la ca, .bool ta, .slice Ba ma da] 105)).alloc (.cells #[.bool sb, .slice Ab lb cb, .bool tb, .slice Bb mb db] 105)));obtain⟨r0,r1,ar,ac⟩:=rA w (.cells #[.bool sa, .slice Aa la ca, .bool ta, .slice Ba ma da] 105) (.cells #[.bool sb, .slice Ab lb cb, .bool tb, .slice Bb mb db] 105);rw[<- hW] at r0 r1 ar ac;have h:Hid (Row W w.heap.size 105 [.bool sa, .slice Aa la ca, .bool ta, .slice Ba ma da]):=lH r0;have RB:Hid (Row W (w.heap.size+1) 105 [.bool sb, .slice Ab lb cb, .bool tb, .slice Bb mb db]):=lH r1;have E:=lH ((ha).below ac);have G:=lH ((hb).below ac);have t:=lH ac;clear r0 r1 ar ac;clear ha hb;obtain⟨k0,k1,k2,k3⟩:=aT4 h.o;have kl:=h.o.lt;go_enter func119,ntmps119;go_wp2_with fail
  rw[<- hW];clear hW;refine(lG _ a _ E.o (a1.o.mono dC)).mono ?_;rintro e w1 ⟨rfl,X⟩;replace E:=lH (E.o.below X);replace G:=lH (G.o.below X);replace h:=rW h X;replace RB:=rW RB X;replace t:=bT t X;clear X;clear k0 k1 k2 k3 kl;rw[show decide (a.den=1)=false from by simpa using ai];clear ai;go_wp2_with fail
  have F:=rG w1;have a3:Hid (Below w1.heap.size w1 w1.drew):=lH (Below.refl _ _).drew;have aj:=h.o.lt;obtain⟨a4,a6,a8,aa⟩:=aT4 h.o;have ak:=RB.o.lt;obtain⟨a5,a7,a9,ab⟩:=aT4 RB.o;have KS:=lH (kC a4 (kC a6 (kC a8 (kC aa (kC a5 (kC a7 (kC a9 (kN ab))))))));have ad:True:=trivial;have ae:True:=trivial;have af:True:=trivial;have ag:True:=trivial;have ah:True:=trivial
  go_region_held3 (fun w'=> w'.cell? ⟨w.heap.size,0,none⟩=some (.bool sa) /\ w'.cell? ⟨w.heap.size,1,none⟩=some (.slice Aa la ca) /\ w'.cell? ⟨w.heap.size,2,none⟩=some (.bool ta) /\ w'.cell? ⟨w.heap.size,3,none⟩=some (.slice Ba ma da) /\ w'.cell? ⟨(w.heap.size+1),0,none⟩=some (.bool sb) /\ w'.cell? ⟨(w.heap.size+1),1,none⟩=some (.slice Ab lb cb) /\ w'.cell? ⟨(w.heap.size+1),2,none⟩=some (.bool tb) /\ w'.cell? ⟨(w.heap.size+1),3,none⟩=some (.slice Bb mb db))
   (first | (with_reducible exact KS.o _ a3.o) | (with_reducible exact KS.o _ F.o) | (exact KS.o _ (F.o.trans ((eD _ _).mono F.o.size))) | (exact KS.o _ (F.o.trans (((eD _ _).drew).mono F.o.size))) | go_keep)
   (first
    | (go_at_call 142
       have _t:=ad;refine(ji _ b _ (by exact G.o)).mono ?_;rintro e w2 ⟨ve,rfl,he,Y⟩;have Y:Below w1.heap.size w1 w2:=bD Y;obtain⟨se,Ae,le,ce,rfl⟩:=he.shape;have U:=lH he;replace E:=lH (E.o.below Y);replace G:=lH (G.o.below Y);replace h:=rW h Y;replace RB:=rW RB Y;replace t:=bT t Y;replace F:=bT F Y
       clear Y ad _t he)
    | (go_at_call 141
       have _t:=ae;refine(jr _ _ a.num (b.den:Int) _ (by exact E.o.parts.1) (by exact U.o) ((a1.o.fE).l1 dC) ((a2.o.fB).l1 dC)).mono ?_;rintro e w3 ⟨vf,rfl,hf,R⟩;have R:Below w2.heap.size w2 w3:=bD R;obtain⟨sf,Af,lf,cf,rfl⟩:=hf.shape;have Z:=lH hf;replace E:=lH (E.o.below R);replace G:=lH (G.o.below R);replace U:=lH (U.o.below R);replace h:=rW h R;replace RB:=rW RB R;replace t:=bT t R;replace F:=bT F R
       clear R ae _t hf)
    | (go_at_call 142
       have _t:=af;refine(ji _ a _ (by exact E.o)).mono ?_;rintro e w4 ⟨vg,rfl,hg,T⟩;have T:Below w3.heap.size w3 w4:=bD T;obtain⟨sg,Ag,lg,cg,rfl⟩:=hg.shape;have Vg:=lH hg;replace E:=lH (E.o.below T);replace G:=lH (G.o.below T);replace U:=lH (U.o.below T);replace Z:=lH (Z.o.below T);replace h:=rW h T;replace RB:=rW RB T;replace t:=bT t T;replace F:=bT F T
       clear T af _t hg)
    | (go_at_call 141
       have _t:=ag;refine(jr _ _ b.num (a.den:Int) _ (by exact G.o.parts.1) (by exact Vg.o) ((a2.o.fE).l1 dC) ((a1.o.fB).l1 dC)).mono ?_;rintro e w5 ⟨vh,rfl,hh,O⟩;have O:Below w4.heap.size w4 w5:=bD O;obtain⟨sh,Ah,lh,ch,rfl⟩:=hh.shape;have Vh:=lH hh;replace E:=lH (E.o.below O);replace G:=lH (G.o.below O);replace U:=lH (U.o.below O);replace Z:=lH (Z.o.below O);replace Vg:=lH (Vg.o.below O);replace h:=rW h O;replace RB:=rW RB O;replace t:=bT t O;replace F:=bT F O
       clear O ag _t hh)
    | (go_at_call 133
       have _t:=ah;refine(jK _ _ (a.num* (b.den:Int)) (b.num* (a.den:Int)) _ (by exact Z.o) (by exact Vh.o) ((a1.o.fE.mul a2.o.fB).l1 dC) ((a2.o.fE.mul a1.o.fB).l1 dC)).mono ?_;rintro e w6 ⟨rfl,M⟩;have M:Below w5.heap.size w5 w6:=bD M;replace E:=lH (E.o.below M);replace G:=lH (G.o.below M);replace U:=lH (U.o.below M);replace Z:=lH (Z.o.below M);replace Vg:=lH (Vg.o.below M);replace Vh:=lH (Vh.o.below M);replace h:=rW h M;replace RB:=rW RB M;replace t:=bT t M;replace F:=bT F M
       clear M ah _t))
  clear aj a4 a6 a8 aa ak a5 a7 a9 ab KS F a3;go_wp2_with fail
  go_returns;exact⟨by rw[<- sJ];rfl,t.o⟩
end
section
open Go.RowKit
open Lp (RL upd)
theorem ic:105≠160:=dC
def RB(w:World)(g n:Nat)(f:Nat -> Rat):Prop:=
 ∃cs:List Value,Row w g 105 cs /\ n*4 <= cs.length /\ ∀j,j<n -> ∃s A l c t B m d,cs[j*4]? =some (.bool s) /\ cs[j*4+1]? =some (.slice A l c) /\ cs[j*4+2]? =some (.bool t) /\ cs[j*4+3]? =some (.slice B m d) /\
  eO w (.agg #[.bool s, .slice A l c, .bool t, .slice B m d]) (f j)
section
variable {w w':World} {g n:Nat} {f:Nat -> Rat}
theorem RB.lt(h:RB w g n f):g<w.heap.size:=by obtain⟨cs,t,_⟩:=h;exact t.lt
theorem RB.below(h:RB w g n f)(E:Below w.heap.size w w'):RB w' g n f:=by
 obtain⟨cs,F,X,T⟩:=h;refine⟨cs,F.below E F.lt,X,fun j U=> ?_⟩;obtain⟨s,A,l,c,t,B,m,d,h1,G,M,O,R⟩:=T j U;exact⟨s,A,l,c,t,B,m,d,h1,G,M,O,R.below E⟩
theorem RB.other{g':Nat}{e:TypeId}{F:List Value}(h:RB w g n f)(E:w.grownBy w' (some g'))(a0:Row w g' e F)(U:e≠160)(Z:g≠g'):RB w' g n f:=by
 obtain⟨cs,hr,Y,T⟩:=h;refine⟨cs,hr.other E Z,Y,fun j X=> ?_⟩;obtain⟨s,A,l,c,t,B,m,d,h1,G,M,O,R⟩:=T j X;exact⟨s,A,l,c,t,B,m,d,h1,G,M,O,R.other E a0 U⟩
theorem RB.take{k:Nat}(h:RB w g n f)(G:k <= n):RB w g k f:=by
 obtain⟨cs,E,M,t⟩:=h;exact⟨cs,E,by omega,fun j F=>t j oM⟩
theorem RB.congr{f':Nat -> Rat}(h:RB w g n f)(F:∀j,j<n -> f j=f' j):RB w g n f':=by
 obtain⟨cs,M,G,E⟩:=h;exact⟨cs,M,G,fun j t=>by rw[<- F j t];exact E j t⟩
theorem RB.row(h:RB w g n f):∃cs,Row w g 105 cs:=by obtain⟨cs,t,_⟩:=h;exact⟨cs,t⟩
theorem RB.at_(h:RB w g n f){j:Nat}(T:j<n):∃s A l c t B m d,w.cell? ⟨g,j*4,none⟩=some (.bool s) /\ w.cell? ⟨g,j*4+1,none⟩=some (.slice A l c) /\ w.cell? ⟨g,j*4+2,none⟩=some (.bool t) /\ w.cell? ⟨g,j*4+3,none⟩=some (.slice B m d) /\
  eO w (.agg #[.bool s, .slice A l c, .bool t, .slice B m d]) (f j):=by
 obtain⟨cs,E,U,R⟩:=h;obtain⟨s,A,l,c,t,B,m,d,h1,F,G,M,O⟩:=R j T;exact⟨s,A,l,c,t,B,m,d,E.at_ _ h1,E.at_ _ F,E.at_ _ G,E.at_ _ M,O⟩
theorem RB.free(h:RB w g n f)(j:Nat): w.frozen? ⟨g,j,none⟩=false:=by obtain⟨cs,t,_⟩:=h;exact t.free j
theorem RB.set(h:RB w g n f){j:Nat}{x y z u:Value}{q:Rat}(hj:j<n)(G:eO w (.agg #[x,y,z,u]) q):
  RB ((((w.setCell ⟨g,j*4,none⟩ x).setCell ⟨g,j*4+1,none⟩ y).setCell ⟨g,j*4+2,none⟩ z).setCell ⟨g,j*4+3,none⟩ u) g n (upd f j q):=by
 obtain⟨cs,E,Z,X⟩:=h;have F:=il w g (j*4) (j*4+1) (j*4+2) (j*4+3) x y z u;refine⟨_,(((E.set _ x).set _ y).set _ z).set _ u,by simpa using Z,fun i Y=> ?_⟩;by_cases e:i=j
 ·subst e;obtain⟨s,A,l,c,t,B,m,d,M⟩:=G.shape;simp only[Value.agg.injEq] at M;obtain⟨rfl,rfl,rfl,rfl⟩:x= .bool s /\ y= .slice A l c /\ z= .bool t /\ u= .slice B m d:=by simpa using M
  refine⟨s,A,l,c,t,B,m,d,?_,?_,?_,?_,by rw[Lp.upd_same];exact G.other F E ic⟩ <;> simp[List.getElem?_set] <;> omega
 ·obtain⟨s,A,l,c,t,B,m,d,h1,O,R,T,U⟩:=X i Y;refine⟨s,A,l,c,t,B,m,d,?_,?_,?_,?_,by rw[Lp.eT _ _ e];exact U.other F E ic⟩
  ·rw[List.getElem?_set_ne oM,List.getElem?_set_ne oM,List.getElem?_set_ne oM,List.getElem?_set_ne oM];exact h1
  ·rw[List.getElem?_set_ne oM,List.getElem?_set_ne oM,List.getElem?_set_ne oM,List.getElem?_set_ne oM];exact O
  ·rw[List.getElem?_set_ne oM,List.getElem?_set_ne oM,List.getElem?_set_ne oM,List.getElem?_set_ne oM];exact R
  ·rw[List.getElem?_set_ne oM,List.getElem?_set_ne oM,List.getElem?_set_ne oM,List.getElem?_set_ne oM];exact T
end
def eZ(w:World)(v:Value)(n:Nat)(f:Nat -> Rat):Prop:=∃A c,v= .slice A n c /\ n <= c /\ c <= maxLen /\ (n=0 \/ ∃g,A=some ⟨g,0,none⟩ /\ RB w g n f)
theorem eZ.below{w w':World}{v:Value}{n:Nat}{f:Nat -> Rat}(h:eZ w v n f)(G:Below w.heap.size w w'):eZ w' v n f:=by
 obtain⟨A,c,O,h1,t,E⟩:=h;exact⟨A,c,O,h1,t,E.imp id fun⟨g,F,M⟩=>⟨g,F,M.below G⟩⟩
theorem eZ.congr{w:World}{v:Value}{n:Nat}{f f':Nat -> Rat}(h:eZ w v n f)(G:∀j,j<n -> f j=f' j):eZ w v n f':=by
 obtain⟨A,c,O,h1,t,E⟩:=h;exact⟨A,c,O,h1,t,E.imp id fun⟨g,F,M⟩=>⟨g,F,M.congr G⟩⟩
theorem iZ{q:Rat}:sgI q.num=0↔q=0:=by
 rw[<- Rat.num_eq_zero];unfold sgI;split
 ·constructor <;> intro h <;> omega
 ·split
  ·simp[*]
  ·constructor <;> intro h <;> omega
theorem cell_below{w w':World}{b o:Nat}{v:Value}(t:Below w.heap.size w w')(h: w.cell? ⟨b,o,none⟩=some v): w'.cell? ⟨b,o,none⟩=some v:=(t.cell (World.block_lt_of_cell? w _ h)).trans h
theorem fP{w w':World}{b o g:Nat}{v:Value}(t:w.grownBy w' (some g))(E:b≠g)(h: w.cell? ⟨b,o,none⟩=some v): w'.cell? ⟨b,o,none⟩=some v:=t.cell h (by simp;exact E)
theorem eG{w:World}{b o:Nat}{v:Value}(h: w.cell? ⟨b,o,none⟩=some v):b<w.heap.size:= World.block_lt_of_cell? w _ h
def kw(w:World)(b o:Nat)(x y z u:Value):Prop:= w.cell? ⟨b,o,none⟩=some x /\ w.cell? ⟨b,o+1,none⟩=some y /\ w.cell? ⟨b,o+2,none⟩=some z /\ w.cell? ⟨b,o+3,none⟩=some u
theorem kw.lt{w:World}{b o:Nat}{x y z u:Value}(h:kw w b o x y z u):b<w.heap.size:= World.block_lt_of_cell? w _ h.1
theorem kw.below{w w':World}{b o:Nat}{x y z u:Value}(h:kw w b o x y z u)(t:Below w.heap.size w w'):kw w' b o x y z u:=
 ⟨(t.cell h.lt).trans h.1,(t.cell (p:=⟨b,o+1,none⟩) h.lt).trans h.2.1,(t.cell (p:=⟨b,o+2,none⟩) h.lt).trans h.2.2.1,(t.cell (p:=⟨b,o+3,none⟩) h.lt).trans h.2.2.2⟩
theorem kw.other{w w':World}{b o g:Nat}{x y z u:Value}(h:kw w b o x y z u)(t:w.grownBy w' (some g))(E:b≠g):kw w' b o x y z u:=
 ⟨t.cell h.1 (by simp;exact E),t.cell h.2.1 (by simp;exact E),t.cell h.2.2.1 (by simp;exact E),t.cell h.2.2.2 (by simp;exact E)⟩
theorem RB.fO{w:World}{g n:Nat}{f:Nat -> Rat}(h:RB w g n f){j:Nat}(O:j<n):∃s A l c t B m d,kw w g (j*4) (.bool s) (.slice A l c) (.bool t) (.slice B m d) /\ eO w (.agg #[.bool s, .slice A l c, .bool t, .slice B m d]) (f j):=by
 obtain⟨s,A,l,c,t,B,m,d,h1,E,F,G,M⟩:=h.at_ O;exact⟨s,A,l,c,t,B,m,d,⟨h1,E,F,G⟩,M⟩
def AtQ(w:World)(g:Nat)(q:Rat):Prop:=∃s A l c t B m d,Row w g 105 [.bool s, .slice A l c, .bool t, .slice B m d] /\ eO w (.agg #[.bool s, .slice A l c, .bool t, .slice B m d]) q
theorem AtQ.mk{w:World}{g:Nat}{q:Rat}{s t:Bool}{A B:Option Addr}{l c m d:Nat}(h:Row w g 105 [.bool s, .slice A l c, .bool t, .slice B m d])(E:eO w (.agg #[.bool s, .slice A l c, .bool t, .slice B m d]) q):AtQ w g q:=⟨s,A,l,c,t,B,m,d,h,E⟩
theorem AtQ.below{w w':World}{g:Nat}{q:Rat}(h:AtQ w g q)(E:Below w.heap.size w w'):AtQ w' g q:=by
 obtain⟨s,A,l,c,t,B,m,d,F,G⟩:=h;exact⟨s,A,l,c,t,B,m,d,F.below E F.lt,G.below E⟩
open Lp (eB sumTo)
theorem vB(n:Nat)(a b:Nat -> Rat):eB (n+1) a b=eB n a b+a n*b n:=rfl
structure Chg (S:Nat -> Prop) (w w':World):Prop where
 os:w'.os=w.os
 tape:w'.tape=w.tape
 output:w'.output=w.output
 size:w.heap.size <= w'.heap.size
 block:∀k,k<w.heap.size -> ¬S k -> w'.heap[k]? =w.heap[k]?
section
variable {S:Nat -> Prop} {w w' w'':World}
theorem Chg.refl(S:Nat -> Prop)(w:World):Chg S w w:=⟨rfl,rfl,rfl,Nat.le_refl _,fun _ _ _=>rfl⟩
theorem Chg.of_below(h:Below w.heap.size w w'):Chg S w w':=⟨h.os,h.tape,h.output,h.size,fun k t _=>h.block k t⟩
theorem Chg.ig(h:Chg S w w')(t:Below w'.heap.size w' w''):Chg S w w'':=
 ⟨t.os.trans h.os,t.tape.trans h.tape,t.output.trans h.output,Nat.le_trans h.size t.size,fun k E F=>(t.block k (Nat.lt_of_lt_of_le E h.size)).trans (h.block k E F)⟩
theorem Chg.jD{g:Nat}(h:Chg S w w')(t:w'.grownBy w'' (some g))(E:S g \/ w.heap.size <= g):Chg S w w'':=
 ⟨t.os.trans h.os,t.tape.trans h.tape,t.output.trans h.output,Nat.le_trans h.size t.size,fun k F G=>(t.block k (Nat.lt_of_lt_of_le F h.size) (fun e=>by
  simp only[Option.some.injEq] at e;subst e
  rcases E with E | E
  ·exact G E
  ·omega)).trans (h.block k F G)⟩
theorem Chg.trans{T:Nat -> Prop}(h:Chg S w w')(t:Chg T w' w'')(G:∀k,T k -> S k \/ w.heap.size <= k):Chg S w w'':=
 ⟨t.os.trans h.os,t.tape.trans h.tape,t.output.trans h.output,Nat.le_trans h.size t.size,fun k E F=>(t.block k (Nat.lt_of_lt_of_le E h.size) (fun M=>by
  rcases G k M with h1 | h1
  ·exact F h1
  ·omega)).trans (h.block k E F)⟩
theorem Chg.below(h:Chg S w w'){B:Nat}(F:B <= w.heap.size)(t:∀k,S k -> B <= k):Below B w w':=
 ⟨h.os,h.tape,h.output,h.size,fun k G=>h.block k oM (fun E=>by have:=t k E;omega)⟩
def jd(S:Nat -> Prop)(w:World):Prop:=∀k,S k -> ∃e cs,Row w k e cs /\ e≠160
theorem U32.chg{A:Option Addr}{l:List Nat}(h:U32 w A l)(M:Chg S w w')(U:jd S w):U32 w' A l:=by
 rcases h with h | ⟨b,F,G,O,t⟩
 ·exact .inl h
 ·have E:w'.heap[b]? =w.heap[b]? :=M.block b t.lt fun Y=>by
   obtain⟨e,cs,X,R⟩:=U b Y;exact z8 X R t rfl
  exact .inr ⟨b,F,G,fun j T=>(World.cell?_of_block (a:=⟨b,F+j,none⟩) E).trans (O j T),t.mJ E⟩
theorem eQ.chg{v:Value}{n:Int}(h:eQ w v n)(F:Chg S w w')(G:jd S w):eQ w' v n:=by
 obtain⟨A,c,M,h1,t,E⟩:=h;exact⟨A,c,M,h1,t,E.chg F G⟩
theorem eO.chg{v:Value}{q:Rat}(h:eO w v q)(E:Chg S w w')(F:jd S w):eO w' v q:=by
 obtain⟨s,A,l,c,t,B,m,d,O,h1,y,G,M⟩:=h;exact⟨s,A,l,c,t,B,m,d,O,h1.chg E F,y,G.chg E F,M⟩
theorem Row.chg{g:Nat}{e:TypeId}{cs:List Value}(h:Row w g e cs)(t:Chg S w w')(E:¬S g):Row w' g e cs:=(t.block g h.lt E).trans h
theorem RB.chg{g n:Nat}{f:Nat -> Rat}(h:RB w g n f)(E:Chg S w w')(X:jd S w)(Z:¬S g):RB w' g n f:=by
 obtain⟨cs,Y,U,R⟩:=h;refine⟨cs,Y.chg E Z,U,fun j T=> ?_⟩;obtain⟨s,A,l,c,t,B,m,d,h1,F,G,M,O⟩:=R j T;exact⟨s,A,l,c,t,B,m,d,h1,F,G,M,O.chg E X⟩
theorem jd.rb{g n:Nat}{f:Nat -> Rat}(h:RB w g n f):jd (fun k=>k=g) w:=fun k t=>by
 subst t;obtain⟨cs,E⟩:=h.row;exact⟨_,_,E,ic⟩
end
end
section
open Go.RowKit
open Lp (RL upd)
theorem FH{f p:Nat -> Rat}{q:Rat}{k:Nat}(h:p k=0)(j:Nat):(if j<k then f j-q*p j else f j)=(if j<k+1 then f j-q*p j else f j):=by
 by_cases e:j=k
 ·subst e;rw[if_neg (Nat.lt_irrefl _),if_pos oM,h];grind
 ·by_cases t:j<k
  ·rw[if_pos t,if_pos oM]
  ·rw[if_neg t,if_neg oM]
theorem FI{f p:Nat -> Rat}{q:Rat}{k:Nat}(j:Nat):upd (fun j=>if j<k then f j-q*p j else f j) k (f k-q*p k) j=(if j<k+1 then f j-q*p j else f j):=by
 by_cases e:j=k
 ·subst e;rw[Lp.upd_same,if_pos oM]
 ·rw[Lp.eT _ _ e];by_cases h:j<k
  ·rw[if_pos h,if_pos oM]
  ·rw[if_neg h,if_neg oM]
set_option maxHeartbeats 3200000 in
theorem vC(g h ca cb n nb:Nat)(f p:Nat -> Rat)(vq:Value)(q:Rat)(w:World)(hf:RB w g n f)(hp:RB w h nb p)(b3:g≠h)(hn:n <= nb)(b4:n <= 9223372036854775807)(hq:eO w vq q)
  (ax:∀j,j<n -> RL 400000000000 (f j)) (ay:∀j,j<n -> RL 400000000000 (p j)) (az:RL 400000000000 q):
  Calls prog 150 #[.slice (some ⟨g,0,none⟩) n ca, .slice (some ⟨h,0,none⟩) nb cb,vq] w fun e w'=>e= .returned (.tuple #[]) /\ RB w' g n (fun j=>f j-q*p j) /\ Chg (fun k=>k=g) w w':=by
 obtain⟨sq,Aq,lq,cq,tq,Bq,mq,dq,rfl⟩:=hq.shape;have aF:=lH ax;have ac:=lH ay;have ad:=lH az;have aZ:=hf.lt;have b0:=hp.lt;clear ax ay az;by_cases h0:q=0
 ·have hz:sgI q.num=0:=iZ.2 h0;have HZ:=lH hz;have H0:=lH h0;clear hz h0;obtain⟨W,hW,F,t⟩:=eN1 w [.bool sq, .slice Aq lq cq, .bool tq, .slice Bq mq dq] 105;have G:=lH ((hq).below t.o);have E:=lH ((hf).below t.o);have M:=lH ((hp).below t.o);clear hq hf hp;replace t:Hid (Chg (fun k=>k=g) w W):=lH (Chg.of_below t.o);obtain⟨k0,k1,k2,k3⟩:=aT4 F.o;have kl:=F.o.lt;go_enter func150,ntmps150;go_wp2_with fail
  rw[<- hW];clear hW;refine(fU _ q _ G.o).mono ?_;rintro e w1 ⟨rfl,Z⟩;replace E:=lH (E.o.below Z);replace t:=lH (t.o.ig Z);clear Z;rw[HZ.o];clear k0 k1 k2 k3 kl;go_wp2_with fail
  go_returns;exact⟨rfl,E.o.congr (fun j _=>by rw[H0.o];grind),t.o⟩
 ·have a3:(sgI q.num==0)=false:=by simpa using (not_congr iZ).2 h0
  have aG:=lH a3;clear a3 h0;obtain⟨W,hW,F,t⟩:=eN1 w [.bool sq, .slice Aq lq cq, .bool tq, .slice Bq mq dq] 105;have G:=lH ((hq).below t.o);have E:=lH ((hf).below t.o);have M:=lH ((hp).below t.o);clear hq hf hp;replace t:Hid (Chg (fun k=>k=g) w W):=lH (Chg.of_below t.o);obtain⟨k0,k1,k2,k3⟩:=aT4 F.o;have kl:=F.o.lt;go_enter func150,ntmps150;go_wp2_with fail
  rw[<- hW];clear hW;refine(fU _ q _ G.o).mono ?_;rintro e w1 ⟨rfl,Z⟩;replace G:=lH (G.o.below Z);replace F:=rW F Z;replace E:=lH (E.o.below Z);replace M:=lH (M.o.below Z);replace t:=lH (t.o.ig Z);clear Z;have a3:=aG.o;clear k0 k1 k2 k3 kl;go_wp2_with fail
  clear a3;have ab:=lH (E.o.congr (f':=fun j=>if j<0 then f j-q*p j else f j) (fun j _=>by simp))
  go_loopw [12] (fun iv wr=>∃k:Nat,k <= n /\ iv= .int .i64 k /\ RB wr g n (fun j=>if j<k then f j-q*p j else f j) /\ RB wr h nb p /\ Row wr w.heap.size 105 [.bool sq, .slice Aq lq cq, .bool tq, .slice Bq mq dq] /\ eO wr (.agg #[.bool sq, .slice Aq lq cq, .bool tq, .slice Bq mq dq]) q /\ Chg (fun k=>k=g) w wr)
   (fun iv _=>n-(intOf iv).toNat)
  case atStart=>exact⟨0,Nat.zero_le _,rfl,ab.o,M.o,F.o,G.o,t.o⟩
  case round=>
   clear E M F G t ab;obtain⟨k,hk,rfl,au,av,aA,aE,aw⟩:=hrel;have E:=lH au;have M:=lH av;have F:=lH aA;have G:=lH aE;have t:=lH aw;clear au av aA aE aw;by_cases b2:((k:Nat):Int)<(n:Nat)
   ·have a2:k<n:=oM
    have b1:((k:Nat):Int)<(nb:Nat):=oM
    obtain⟨sx,Ax,lx,cx,tx,Bx,mx,dx,aq,aC⟩:=(E.o).fO a2;have T:=lH aq;have Vx:=lH aC;clear aq aC;obtain⟨sy,Ay,ly,cy,ty,By,my,dy,ar,aD⟩:=(M.o).fO (show k<nb by omega);have U:=lH ar;have Vy:=lH aD;clear ar aD;rw[show(if k<k then f k-q*p k else f k)=f k from if_neg (Nat.lt_irrefl k)] at Vx;by_cases h1:p k=0
    ·have hz:sgI (p k).num=0:=iZ.2 h1;have HZ:=lH hz;have H1:=lH h1;clear hz h1;obtain⟨a6,a7,a8,a9⟩:=U.o;have aa:=U.o.lt;go_wp2_with fail
     clear a6 a7 a8 a9 aa;refine(fU _ (p k) _ Vy.o).mono ?_;rintro e w2 ⟨rfl,R⟩;replace G:=lH (G.o.below R);replace F:=rW F R;replace E:=lH (E.o.below R);replace M:=lH (M.o.below R);replace t:=lH (t.o.ig R);clear R;rw[HZ.o];go_wp2_with fail
     go_roundw
     case rel=>exact⟨k+1,by omega,by simp,E.o.congr (fun j _=>FH H1.o j),M.o,F.o,G.o,t.o⟩
     case measure=>exact mZ
    ·have b5:(sgI (p k).num !=0)=true:=by simpa using (not_congr iZ).2 h1
     clear h1;obtain⟨a6,a7,a8,a9⟩:=U.o;have aa:=U.o.lt;go_wp2_with fail
     clear a6 a7 a8 a9 aa;refine(fU _ (p k) _ Vy.o).mono ?_;rintro e w2 ⟨rfl,R⟩;replace G:=lH (G.o.below R);replace Vx:=lH (Vx.o.below R);replace Vy:=lH (Vy.o.below R);replace F:=rW F R;replace T:=lH (T.o.below R);replace U:=lH (U.o.below R);replace E:=lH (E.o.below R);replace M:=lH (M.o.below R);replace t:=lH (t.o.ig R);clear R;go_wp2_with fail
     have a0:=rG w2;have aK:=F.o.lt;obtain⟨ag,aj,am,ap⟩:=aT4 F.o;have aH:=T.o.lt;obtain⟨ae,ah,ak,an⟩:=T.o;have aJ:=U.o.lt;obtain⟨af,ai,al,ao⟩:=U.o;have KS:=lH (kC ag (kC aj (kC am (kC ap (kC ae (kC ah (kC ak (kC an (kC af (kC ai (kC al (kN ao))))))))))));clear aK ag aj am ap aH ae ah ak an aJ af ai al ao;refine rL KS.o (fun i=>decide (14 <= i)) ?_;have O:=KS.o _ a0.o;refine tKs 0 21 O ?_;refine tKs 1 22 O ?_;refine tKs 2 23 O ?_;refine tKs 3 24 O ?_;refine tKs 4 25 O ?_;refine tKs 5 26 O ?_;refine tKs 6 27 O ?_;refine tKs 7 28 O ?_;refine tKs 8 29 O ?_;refine tKs 9 30 O ?_;refine tKs 10 31 O ?_;refine rD 11 (fun K hK=> ?_);go_simp;refine(pq _ _ q (p k) _ (by exact G.o) (by exact Vy.o) (ad.o.mono dC) ((ac.o k a2).mono dC)).mono ?_;rintro e w3 ⟨vz,rfl,hz,X⟩;have X:Below w2.heap.size w2 w3:=bD X;obtain⟨sz,Az,lz,cz,tz,Bz,mz,dz,rfl⟩:=hz.shape;have Vz:=lH hz;clear hz;replace G:=lH (G.o.below X);replace Vx:=lH (Vx.o.below X);replace F:=rW F X;replace T:=lH (T.o.below X);replace U:=lH (U.o.below X);replace E:=lH (E.o.below X);replace M:=lH (M.o.below X);replace t:=lH (t.o.ig X);replace a0:=bT a0 X;clear O X;have O:=KS.o _ a0.o;refine kH hK O ?_;clear hK K;refine rD 12 (fun K hK=> ?_);go_simp;refine(vw _ _ (f k) (q*p k) _ (by exact Vx.o) (by exact Vz.o) ((aF.o k a2).mono dC) ((ad.o.mul (ac.o k a2)).mono dC)).mono ?_;rintro e w4 ⟨vr,rfl,hr,Y⟩;have Y:Below w3.heap.size w3 w4:=bD Y;obtain⟨sr,Ar,lr,cr,tr,Br,mr,dr,rfl⟩:=hr.shape;have Vr:=lH hr;clear hr;replace G:=lH (G.o.below Y);replace F:=rW F Y;replace T:=lH (T.o.below Y);replace U:=lH (U.o.below Y);replace E:=lH (E.o.below Y);replace M:=lH (M.o.below Y);replace t:=lH (t.o.ig Y);replace a0:=bT a0 Y;have aP:=T.o.1;have aQ:=T.o.2.1;have aR:=T.o.2.2.1;have aS:=T.o.2.2.2;have aT:=T.o.lt;have aL:=E.o.free (k*4);have aM:=E.o.free (k*4+1);have aN:=E.o.free (k*4+2);have aO:=E.o.free (k*4+3);clear O Y;have O:=KS.o _ a0.o;refine kH hK O ?_;clear hK K;refine tKs 13 34 O ?_;refine rD 14 (fun K hK=> ?_);go_simp;refine kL hK ?_;clear hK K;refine dN ?_ _;clear O KS a0;clear aP aQ aR aS aT aL aM aN aO;clear T;have a1:World.grownBy w4 ((((w4.setCell ⟨g,k*4,none⟩ (.bool sr)).setCell ⟨g,k*4+1,none⟩ (.slice Ar lr cr)).setCell ⟨g,k*4+2,none⟩ (.bool tr)).setCell ⟨g,k*4+3,none⟩ (.slice Br mr dr)) (some g):=il _ _ _ _ _ _ _ _ _ _;obtain⟨aY,a4⟩:=E.o.row;have aX:=F.o.lt;have aW:=U.o.lt;have aU:=E.o.lt;have aV:=M.o.lt;have aB:=E.o.set a2 Vr.o;replace G:=lH (G.o.other a1 a4 ic);replace F:=lH (F.o.other a1 oM);replace M:=lH (M.o.other a1 a4 ic oM);replace t:=lH (t.o.jD a1 (.inl rfl));replace E:=lH aB;obtain⟨w5,a5⟩:=eX (((((w4.setCell ⟨g,k*4,none⟩ (.bool sr)).setCell ⟨g,k*4+1,none⟩ (.slice Ar lr cr)).setCell ⟨g,k*4+2,none⟩ (.bool tr)).setCell ⟨g,k*4+3,none⟩ (.slice Br mr dr)));rw[<- a5] at G F E M t;clear a1 a4 aB aX aW aU aV;rw[<- a5];clear a5;go_wp2_with fail
     go_roundw
     case rel=>exact⟨k+1,by omega,by simp,E.o.congr (fun j _=>FI j),M.o,F.o,G.o,t.o⟩
     case measure=>exact mZ
   ·obtain rfl:k=n:=oM
    go_wp2_with fail
    go_returns;exact⟨rfl,E.o.congr (fun j hj=>by rw[if_pos hj]),t.o⟩
end
section
open Go.RowKit
open Lp (RL upd eB)
set_option maxHeartbeats 3200000 in
theorem qK(va vb:Value)(n nb:Nat)(a b:Nat -> Rat)(w:World)(ha:eZ w va n a)(hb:eZ w vb nb b)(hn:n <= nb)(aF:∀j,j<n -> RL 400000000000 (a j))(aG:∀j,j<n -> RL 400000000000 (b j))(hs:∀k,k <= n -> RL 1000000000000 (eB k a b)):
  Calls prog 120 #[va,vb] w fun e w'=>∃v,e= .returned v /\ eO w' v (eB n a b) /\ Below w.heap.size w w':=by
 obtain⟨A,ca,rfl,b8,aR,hA⟩:=ha;obtain⟨B,cb,rfl,b9,aS,aA⟩:=hb;unfold maxLen at aR aS;have HA:=lH hA;have aL:=lH aA;have ai:=lH aF;have aj:=lH aG;have HS:=lH hs;clear hA aA aF aG hs;obtain⟨W,hW,t,h,E⟩:=eN2 w [.bool false, .slice none 0 0, .bool false, .slice none 0 0] 105 [.bool false, .slice none 0 0, .bool false, .slice none 0 0] 105;go_enter func120,ntmps120;go_wp2_with fail
 rw[<- hW];clear hW;have ah:=lH (AtQ.mk (q:=eB 0 a b) h.o (eO.jU _));have aM:=h.o.lt
 go_loopw [9] (fun iv wr=>∃k:Nat,k <= n /\ iv= .int .i64 k /\ AtQ wr (w.heap.size+1) (eB k a b) /\ Row wr w.heap.size 105 [.bool false, .slice none 0 0, .bool false, .slice none 0 0] /\ Below w.heap.size w wr)
  (fun iv _=>n-(intOf iv).toNat)
 case atStart=>exact⟨0,Nat.zero_le _,rfl,ah.o,t.o,E.o⟩
 case round=>
  clear t h E ah aM;obtain⟨k,hk,rfl,aQ,aH,aD⟩:=hrel;obtain⟨sz,Az,lz,cz,tz,Bz,mz,dz,ro,aE⟩:=aQ;have h:=lH ro;have O:=lH aE;have t:=lH aH;have E:=lH aD;clear ro aE aH aD;by_cases bd:((k:Nat):Int)<(n:Nat)
  ·obtain⟨ga,rfl,a4⟩:∃g,A=some ⟨g,0,none⟩ /\ RB w g n a:=by rcases HA.o with h0 | h0;exfalso;omega;exact h0
   obtain⟨gb,rfl,a5⟩:∃g,B=some ⟨g,0,none⟩ /\ RB w g nb b:=by rcases aL.o with h0 | h0;exfalso;omega;exact h0
   have a1:k<n:=oM
   have bc:((k:Nat):Int)<(nb:Nat):=oM
   obtain⟨sx,Ax,lx,cx,tx,Bx,mx,dx,aB,aJ⟩:=(a4.below E.o).fO a1;have R:=lH aB;have Z:=lH aJ;clear aB aJ;obtain⟨sy,Ay,ly,cy,ty,By,my,dy,aC,aK⟩:=(a5.below E.o).fO (show k<nb by omega);have T:=lH aC;have Vy:=lH aK;clear aC aK;have ba:=a4.lt;have bb:=a5.lt;clear a4 a5;by_cases h0:a k=0
   ·have hz:sgI (a k).num=0:=iZ.2 h0;have HZ:=lH hz;have H0:=lH h0;clear hz h0;obtain⟨a7,a9,ab,ad⟩:=R.o;have af:=R.o.lt;go_wp2_with fail
    clear a7 a9 ab ad af;refine(fU _ (a k) _ Z.o).mono ?_;rintro e w1 ⟨rfl,G⟩;replace O:=lH (O.o.below G);replace t:=rW t G;replace h:=rW h G;replace E:=bT E G;clear G;rw[HZ.o];go_wp2_with fail
    go_roundw
    case rel=>exact⟨k+1,by omega,by simp,AtQ.mk h.o (by rw[vB];rw[H0.o,Rat.zero_mul,Rat.add_zero];exact O.o),t.o,E.o⟩
    case measure=>exact mZ
   ·have a2:(sgI (a k).num !=0)=true:=by simpa using (not_congr iZ).2 h0
    clear h0;have al:=lH a2;clear a2;obtain⟨a7,a9,ab,ad⟩:=R.o;have af:=R.o.lt;go_wp2_with fail
    clear a7 a9 ab ad af;refine(fU _ (a k) _ Z.o).mono ?_;rintro e w1 ⟨rfl,G⟩;replace O:=lH (O.o.below G);replace Z:=lH (Z.o.below G);replace Vy:=lH (Vy.o.below G);replace t:=rW t G;replace h:=rW h G;replace R:=lH (R.o.below G);replace T:=lH (T.o.below G);replace E:=bT E G;clear G;by_cases h1:b k=0
    ·have hz:sgI (b k).num=0:=iZ.2 h1;have HZ:=lH hz;have H1:=lH h1;clear hz h1;have a2:=al.o;obtain⟨a8,aa,ac,ae⟩:=T.o;have ag:=T.o.lt;go_wp2_with fail
     clear a8 aa ac ae ag;refine(fU _ (b k) _ Vy.o).mono ?_;rintro e w2 ⟨rfl,M⟩;replace O:=lH (O.o.below M);replace t:=rW t M;replace h:=rW h M;replace E:=bT E M;clear M;rw[HZ.o];go_wp2_with fail
     go_roundw
     case rel=>exact⟨k+1,by omega,by simp,AtQ.mk h.o (by rw[vB];rw[H1.o,Rat.mul_zero,Rat.add_zero];exact O.o),t.o,E.o⟩
     case measure=>exact mZ
    ·have be:(sgI (b k).num !=0)=true:=by simpa using (not_congr iZ).2 h1
     clear h1;have a2:=al.o;obtain⟨a8,aa,ac,ae⟩:=T.o;have ag:=T.o.lt;go_wp2_with fail
     clear a8 aa ac ae ag;refine(fU _ (b k) _ Vy.o).mono ?_;rintro e w2 ⟨rfl,M⟩;replace O:=lH (O.o.below M);replace Z:=lH (Z.o.below M);replace Vy:=lH (Vy.o.below M);replace t:=rW t M;replace h:=rW h M;replace R:=lH (R.o.below M);replace T:=lH (T.o.below M);replace E:=bT E M;clear M;go_wp2_with fail
     have U:=rG w2;have aP:=h.o.lt;obtain⟨ao,ar,aw,az⟩:=aT4 h.o;have aN:=R.o.lt;obtain⟨am,ap,au,ax⟩:=R.o;have aO:=T.o.lt;obtain⟨an,aq,av,ay⟩:=T.o;have KS:=lH (kC ao (kC ar (kC aw (kC az (kC am (kC ap (kC au (kC ax (kC an (kC aq (kC av (kN ay))))))))))));clear aP ao ar aw az aN am ap au ax aO an aq av ay;refine rL KS.o (fun i=>decide (11 <= i)) ?_;have F:=KS.o _ U.o;refine tKs 0 26 F ?_;refine tKs 1 27 F ?_;refine tKs 2 28 F ?_;refine tKs 3 29 F ?_;refine tKs 4 30 F ?_;refine tKs 5 31 F ?_;refine tKs 6 32 F ?_;refine tKs 7 33 F ?_;refine tKs 8 34 F ?_;refine rD 9 (fun K X=> ?_);go_simp;refine(pq _ _ (a k) (b k) _ (by exact Z.o) (by exact Vy.o) ((ai.o k a1).mono dC) ((aj.o k a1).mono dC)).mono ?_;rintro e w3 ⟨vp,rfl,hp,Y⟩;have Y:Below w2.heap.size w2 w3:=bD Y;obtain⟨sp,Ap,lp,cp,tp,Bp,mp,dp,rfl⟩:=hp.shape;have Vp:=lH hp;clear hp;replace O:=lH (O.o.below Y);replace t:=rW t Y;replace h:=rW h Y;replace E:=bT E Y;replace U:=bT U Y;clear F Y;have F:=KS.o _ U.o;refine kH X F ?_;clear X K;refine rD 10 (fun K X=> ?_);go_simp;refine(zf _ _ (eB k a b) (a k*b k) _ (by exact O.o) (by exact Vp.o) (HS.o k oM) (((ai.o k a1).mul (aj.o k a1)).mono dC)).mono ?_;rintro e w4 ⟨vr,rfl,hr,a0⟩;have a0:Below w3.heap.size w3 w4:=bD a0;obtain⟨sr,Ar,lr,cr,tr,Br,mr,dr,rfl⟩:=hr.shape;have Vr:=lH hr;clear hr;replace t:=rW t a0;replace h:=rW h a0;replace E:=bT E a0;replace U:=bT U a0;obtain⟨b1,b2,b3,b4⟩:=aT4 h.o;have b5:=h.o.lt;have aX:=h.o.free 0;have aY:=h.o.free 1;have aZ:=h.o.free 2;have b0:=h.o.free 3;clear F a0;have F:=KS.o _ U.o;refine kH X F ?_;clear X K;refine rD 11 (fun K X=> ?_);go_simp;refine kL X ?_;clear X K;refine dN ?_ _;clear F KS U;clear b1 aX b2 aY b3 aZ b4 b0 b5;have a3:World.grownBy w4 ((((w4.setCell ⟨(w.heap.size+1),0,none⟩ (.bool sr)).setCell ⟨(w.heap.size+1),1,none⟩ (.slice Ar lr cr)).setCell ⟨(w.heap.size+1),2,none⟩ (.bool tr)).setCell ⟨(w.heap.size+1),3,none⟩ (.slice Br mr dr)) (some ((w.heap.size+1))):=il _ _ _ _ _ _ _ _ _ _;have b6:=t.o.lt;have b7:=h.o.lt;replace Vr:=lH (Vr.o.other a3 h.o dC);replace t:=lH (t.o.other a3 oM);replace E:Hid (Below w.heap.size w ((((w4.setCell ⟨(w.heap.size+1),0,none⟩ (.bool sr)).setCell ⟨(w.heap.size+1),1,none⟩ (.slice Ar lr cr)).setCell ⟨(w.heap.size+1),2,none⟩ (.bool tr)).setCell ⟨(w.heap.size+1),3,none⟩ (.slice Br mr dr))):=lH (lF E.o oM _ _ _ _);replace h:Hid (Row ((((w4.setCell ⟨(w.heap.size+1),0,none⟩ (.bool sr)).setCell ⟨(w.heap.size+1),1,none⟩ (.slice Ar lr cr)).setCell ⟨(w.heap.size+1),2,none⟩ (.bool tr)).setCell ⟨(w.heap.size+1),3,none⟩ (.slice Br mr dr)) ((w.heap.size+1)) 105 [.bool sr, .slice Ar lr cr, .bool tr, .slice Br mr dr]):=lH (h.o.jh);obtain⟨w5,a6⟩:=eX (((((w4.setCell ⟨(w.heap.size+1),0,none⟩ (.bool sr)).setCell ⟨(w.heap.size+1),1,none⟩ (.slice Ar lr cr)).setCell ⟨(w.heap.size+1),2,none⟩ (.bool tr)).setCell ⟨(w.heap.size+1),3,none⟩ (.slice Br mr dr)));rw[<- a6] at Vr t h E;clear a3 b6 b7;rw[<- a6];clear a6;go_wp2_with fail
     go_roundw
     case rel=>exact⟨k+1,by omega,by simp,AtQ.mk h.o (by rw[vB];exact Vr.o),t.o,E.o⟩
     case measure=>exact mZ
  ·obtain rfl:k=n:=oM
   obtain⟨bf,bg,bh,bi⟩:=aT4 h.o;have bo:=h.o.lt;obtain⟨aT,aU,aV,aW⟩:=aT4 t.o;have bn:=t.o.lt;have bj:=t.o.free 0;have bk:=t.o.free 1;have bl:=t.o.free 2;have bm:=t.o.free 3;have hr:=iY t.o ic oM E.o O.o;have ak:=lH hr;clear hr;go_wp2_with fail
   refine bodyPost_ret (v:= .agg #[.bool sz, .slice Az lz cz, .bool tz, .slice Bz mz dz]) (by simp[results,results120,go_sem,aT,aU,aV,aW]) rfl ?_;exact⟨_,rfl,ak.o.1,ak.o.2⟩
end
end Go.Proofs.YtdefghfjhgmpfaaGreatDoor
