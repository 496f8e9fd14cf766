/- Parts of this proof: RatH RatG Rats Less Dot. -/
import Derived.Test.YtokagbahdkfagaaGreatDoorMAM
import Derived.Test.YtokagbahdkfagaaGreatDoorMAN
import Derived.Test.YtokagbahdkfagaaGreatDoorMAK
import Derived.Test.YtokagbahdkfagaaGreatDoorMAE
namespace Go.Proofs.YtokagbahdkfagaaGreatDoor
open Tryz
section
open Go.RowKit
open Lp (RL)
set_option maxHeartbeats 1600000 in
theorem pI(va vb:Value)(a b:Rat)(w:World)(ha:eP w va a)(hb:eP w vb b)(a6:RL 1000000000000 a)(a7:RL 1000000000000 b):
  Calls prog 39 #[va,vb] w fun e w'=>∃v,e= .returned v /\ eP w' v (a-b) /\ Below w.heap.size w w':=by
 obtain⟨sa,Aa,la,ca,ta,Ba,ma,da,rfl⟩:=ha.shape;obtain⟨sb,Ab,lb,cb,tb,Bb,mb,db,rfl⟩:=hb.shape;have aa:=lH a6;have ab:=lH a7;clear a6 a7;obtain⟨W,hW,M,RB,C,G⟩:=eN3 w [.bool sa, .slice Aa la ca, .bool ta, .slice Ba ma da] 40 [.bool sb, .slice Ab lb cb, .bool tb, .slice Bb mb db] 40 [.bool false, .slice none 0 0, .bool false, .slice none 0 0] 40;have R:=lH ((ha).below G.o);have T:=lH ((hb).below G.o);clear ha hb;go_enter func39,ntmps39;go_wp2_with fail
 rw[<- hW];clear hW;go_wp2_with fail
 have h:=rG W;have a4:Hid (Below W.heap.size W W.drew):=lH (Below.refl _ _).drew;have ac:=M.o.lt;obtain⟨V,Y,a0,a2⟩:=aT4 M.o;have ad:=RB.o.lt;obtain⟨X,Z,a1,a3⟩:=aT4 RB.o;have O:=lH (kC V (kC Y (kC a0 (kC a2 (kC X (kC Z (kC a1 (kN a3))))))));have ai:=C.o.lt;have KT:=lH (k4C (w.heap.size+1+1) V (k4C (w.heap.size+1+1) Y (k4C (w.heap.size+1+1) a0 (k4C (w.heap.size+1+1) a2 (k4C (w.heap.size+1+1) X (k4C (w.heap.size+1+1) Z (k4C (w.heap.size+1+1) a1 (k4N (w.heap.size+1+1) a3))))))));clear ai;have a8:True:=trivial;have a9:True:=trivial
 go_region_held3 (fun w'=> w'.cell? ⟨w.heap.size,0,none⟩=some (.bool sa) /\ w'.cell? ⟨w.heap.size,1,none⟩=some (.slice Aa la ca) /\ w'.cell? ⟨w.heap.size,2,none⟩=some (.bool ta) /\ w'.cell? ⟨w.heap.size,3,none⟩=some (.slice Ba ma da) /\ w'.cell? ⟨(w.heap.size+1),0,none⟩=some (.bool sb) /\ w'.cell? ⟨(w.heap.size+1),1,none⟩=some (.slice Ab lb cb) /\ w'.cell? ⟨(w.heap.size+1),2,none⟩=some (.bool tb) /\ w'.cell? ⟨(w.heap.size+1),3,none⟩=some (.slice Bb mb db))
  (first | (with_reducible exact O.o _ a4.o) | (with_reducible exact O.o _ h.o) | (with_reducible exact KT.o _ _ _ _ _ h.o) | (exact O.o _ (h.o.trans ((eD _ _).mono h.o.size))) | (exact O.o _ (h.o.trans (((eD _ _).drew).mono h.o.size))) | go_keep)
  (first
   | (go_at_call 48
      have _t:=a8;refine(pF _ b _ (by exact T.o)).mono ?_;rintro e w1 ⟨ve,rfl,he,t⟩;have t:Below W.heap.size W w1:=bD t;obtain⟨se,Ae,le,ce,te,Be,me,de,rfl⟩:=he.shape;have U:=lH he;replace R:=lH (R.o.below t);replace T:=lH (T.o.below t);replace M:=rW M t;replace RB:=rW RB t;replace C:=rW C t;replace G:=bT G t;replace h:=bT h t
      clear t a8 _t he)
   | (go_at_call 33
      have _t:=a9;refine(u7 _ _ a (-b) _ (by exact R.o) (by exact U.o) aa.o ab.o.neg).mono ?_;rintro e w2 ⟨vr,rfl,E,r⟩;have r:Below w1.heap.size w1 w2:=bD r;obtain⟨sr,Ar,lr,cr,tr,Br,mr,dr,rfl⟩:=E.shape;have Vr:=lH E;replace R:=lH (R.o.below r);replace T:=lH (T.o.below r);replace U:=lH (U.o.below r);replace M:=rW M r;replace RB:=rW RB r;replace C:=rW C r;replace G:=bT G r;replace h:=bT h r;rw[<- Rat.sub_eq_add_neg] at E;replace Vr:=lH E;have E:=ic C.o dC oM G.o Vr.o;have a5:=lH E;clear E;obtain⟨ae,aj,af,ak,ag,al,ah,am⟩:=aF4 C.o;have an:=C.o.lt
      clear r a9 _t E))
 clear ac V Y a0 a2 ad X Z a1 a3 O h a4 KT;go_wp2_with fail
 refine bodyPost_ret (v:= .agg #[.bool sr, .slice Ar lr cr, .bool tr, .slice Br mr dr]) (by simp[results,results39,go_sem,ae,af,ag,ah]) rfl ?_;exact⟨_,rfl,a5.o.1,a5.o.2⟩
set_option maxHeartbeats 1600000 in
theorem Ev(va vb:Value)(a b:Rat)(w:World)(ha:eP w va a)(hb:eP w vb b)(ae:b≠0)(af:RL 1000000000000 a)(ag:RL 1000000000000 b):
  Calls prog 69 #[va,vb] w fun e w'=>∃v,e= .returned (.tuple #[v, .int .i64 0]) /\ eP w' v (a / b) /\ Below w.heap.size w w':=by
 obtain⟨sa,Aa,la,ca,ta,Ba,ma,da,rfl⟩:=ha.shape;obtain⟨sb,Ab,lb,cb,tb,Bb,mb,db,rfl⟩:=hb.shape;have a0:=lH af;have a1:=lH ag;clear af ag;have aa:b.num≠0:=fun e=>ae (Rat.num_eq_zero.1 e)
 have ab:(sgI b.num==0)=false:=tO aa;have am:=lH aa;have an:=lH ab;clear aa ab ae;obtain⟨W,hW,E,RB,r,t⟩:=eN3 w [.bool sa, .slice Aa la ca, .bool ta, .slice Ba ma da] 40 [.bool sb, .slice Ab lb cb, .bool tb, .slice Bb mb db] 40 [.bool false, .slice none 0 0, .bool false, .slice none 0 0] 40;have G:=lH ((ha).below t.o);have C:=lH ((hb).below t.o);clear ha hb;obtain⟨k0,k1,k2,k3⟩:=aT4 RB.o;have kl:=RB.o.lt;go_enter func69,ntmps69;go_wp2_with fail
 rw[<- hW];clear hW;refine(fQ _ b _ C.o).mono ?_;rintro e w1 ⟨rfl,Z⟩;replace G:=lH (G.o.below Z);replace C:=lH (C.o.below Z);replace E:=rW E Z;replace RB:=rW RB Z;replace r:=rW r Z;replace t:=bT t Z;clear Z;clear k0 k1 k2 k3 kl;have ab:=an.o;go_wp2_with fail
 have h:=rG w1;have ac:Hid (Below w1.heap.size w1 w1.drew):=lH (Below.refl _ _).drew;have ao:=E.o.lt;obtain⟨a2,a4,a6,a8⟩:=aT4 E.o;have ap:=RB.o.lt;obtain⟨a3,a5,a7,a9⟩:=aT4 RB.o;have KS:=lH (kC a2 (kC a4 (kC a6 (kC a8 (kC a3 (kC a5 (kC a7 (kN a9))))))));have aw:=r.o.lt;have KT:=lH (k4C (w.heap.size+1+1) a2 (k4C (w.heap.size+1+1) a4 (k4C (w.heap.size+1+1) a6 (k4C (w.heap.size+1+1) a8 (k4C (w.heap.size+1+1) a3 (k4C (w.heap.size+1+1) a5 (k4C (w.heap.size+1+1) a7 (k4N (w.heap.size+1+1) a9))))))));clear aw;have ah:True:=trivial;have ai:True:=trivial;have aj:True:=trivial;have ak:True:=trivial;have al:True:=trivial
 go_region_held3 (fun w'=> w'.cell? ⟨w.heap.size,0,none⟩=some (.bool sa) /\ w'.cell? ⟨w.heap.size,1,none⟩=some (.slice Aa la ca) /\ w'.cell? ⟨w.heap.size,2,none⟩=some (.bool ta) /\ w'.cell? ⟨w.heap.size,3,none⟩=some (.slice Ba ma da) /\ w'.cell? ⟨(w.heap.size+1),0,none⟩=some (.bool sb) /\ w'.cell? ⟨(w.heap.size+1),1,none⟩=some (.slice Ab lb cb) /\ w'.cell? ⟨(w.heap.size+1),2,none⟩=some (.bool tb) /\ w'.cell? ⟨(w.heap.size+1),3,none⟩=some (.slice Bb mb db))
  (first | (with_reducible exact KS.o _ ac.o) | (with_reducible exact KS.o _ h.o) | (with_reducible exact KT.o _ _ _ _ _ h.o) | (exact KS.o _ (h.o.trans ((eD _ _).mono h.o.size))) | (exact KS.o _ (h.o.trans (((eD _ _).drew).mono h.o.size))) | go_keep)
  (first
   | (go_at_call 78
      have _t:=ah;refine(iU _ b _ (by exact C.o)).mono ?_;rintro e w2 ⟨ve,rfl,he,U⟩;have U:Below w1.heap.size w1 w2:=bD U;obtain⟨se,Ae,le,ce,rfl⟩:=he.shape;have V:=lH he;replace G:=lH (G.o.below U);replace C:=lH (C.o.below U);replace E:=rW E U;replace RB:=rW RB U;replace r:=rW r U;replace t:=bT t U;replace h:=bT h U
      clear U ah _t he)
   | (go_at_call 77
      have _t:=ai;refine(iV _ _ a.num (b.den:Int) _ (by exact G.o.parts.1) (by exact V.o) ((a0.o.fJ).l1 dC) ((a1.o.fH).l1 dC)).mono ?_;rintro e w3 ⟨vf,rfl,hf,T⟩;have T:Below w2.heap.size w2 w3:=bD T;obtain⟨sf,Af,lf,cf,rfl⟩:=hf.shape;have Y:=lH hf;replace G:=lH (G.o.below T);replace C:=lH (C.o.below T);replace V:=lH (V.o.below T);replace E:=rW E T;replace RB:=rW RB T;replace r:=rW r T;replace t:=bT t T;replace h:=bT h T
      clear T ai _t hf)
   | (go_at_call 78
      have _t:=aj;refine(iU _ a _ (by exact G.o)).mono ?_;rintro e w4 ⟨vg,rfl,hg,R⟩;have R:Below w3.heap.size w3 w4:=bD R;obtain⟨sg,Ag,lg,cg,rfl⟩:=hg.shape;have Vg:=lH hg;replace G:=lH (G.o.below R);replace C:=lH (C.o.below R);replace V:=lH (V.o.below R);replace Y:=lH (Y.o.below R);replace E:=rW E R;replace RB:=rW RB R;replace r:=rW r R;replace t:=bT t R;replace h:=bT h R
      clear R aj _t hg)
   | (go_at_call 77
      have _t:=ak;refine(iV _ _ (a.den:Int) b.num _ (by exact Vg.o) (by exact C.o.parts.1) ((a0.o.fH).l1 dC) ((a1.o.fJ).l1 dC)).mono ?_;rintro e w5 ⟨vh,rfl,hh,O⟩;have O:Below w4.heap.size w4 w5:=bD O;obtain⟨sh,Ah,lh,ch,rfl⟩:=hh.shape;have Vh:=lH hh;replace G:=lH (G.o.below O);replace C:=lH (C.o.below O);replace V:=lH (V.o.below O);replace Y:=lH (Y.o.below O);replace Vg:=lH (Vg.o.below O);replace E:=rW E O;replace RB:=rW RB O;replace r:=rW r O;replace t:=bT t O;replace h:=bT h O
      clear O ak _t hh)
   | (go_at_call 76
      have _t:=al;refine(pG _ _ (a.num* (b.den:Int)) ((a.den:Int)*b.num) _ (by exact Y.o) (by exact Vh.o) (by have h1:=a.den_nz;exact Int.mul_ne_zero oM am.o) ((a0.o.fJ.mul a1.o.fH).mono dC) ((a0.o.fH.mul a1.o.fJ).mono dC)).mono ?_;rintro e w6 ⟨vr,rfl,X,M⟩;have M:Below w5.heap.size w5 w6:=bD M;obtain⟨sr,Ar,lr,cr,tr,Br,mr,dr,rfl⟩:=X.shape;have Vr:=lH X;replace G:=lH (G.o.below M);replace C:=lH (C.o.below M);replace V:=lH (V.o.below M);replace Y:=lH (Y.o.below M);replace Vg:=lH (Vg.o.below M);replace Vh:=lH (Vh.o.below M);replace E:=rW E M;replace RB:=rW RB M;replace r:=rW r M;replace t:=bT t M;replace h:=bT h M;rw[Et] at X;replace Vr:=lH X;have X:=ic r.o dC oM t.o Vr.o;have ad:=lH X;clear X;obtain⟨aq,ax,ar,ay,au,az,av,aA⟩:=aF4 r.o;have aB:=r.o.lt
      clear M al _t X))
 clear ao a2 a4 a6 a8 ap a3 a5 a7 a9 KS h ac KT;go_wp2_with fail
 refine bodyPost_ret (v:= .tuple #[.agg #[.bool sr, .slice Ar lr cr, .bool tr, .slice Br mr dr], .int .i64 0]) (by simp[results,results69,go_sem,aq,ar,au,av]) rfl ?_;exact⟨_,rfl,ad.o.1,ad.o.2⟩
set_option maxHeartbeats 1600000 in
theorem yc(Y Z:Value)(a b:Rat)(w:World)(E:eP w Y a)(G:eP w Z b)(T:b≠0)(U:RL 1000000000000 a)(V:RL 1000000000000 b):
  Calls prog 202 #[Y,Z] w fun e w'=>∃v,e= .returned v /\ eP w' v (a / b) /\ Below w.heap.size w w':=by
 obtain⟨sa,Aa,la,ca,ta,Ba,ma,da,rfl⟩:=E.shape;obtain⟨sb,Ab,lb,cb,tb,Bb,mb,db,rfl⟩:=G.shape;have a1:=lH U;have a2:=lH V;have a0:=lH T;clear U V T;obtain⟨W,R,t,RB,h,r⟩:=eN3 w [.bool sa, .slice Aa la ca, .bool ta, .slice Ba ma da] 40 [.bool sb, .slice Ab lb cb, .bool tb, .slice Bb mb db] 40 [.bool false, .slice none 0 0, .bool false, .slice none 0 0] 40;have VA:=lH ((E).below r.o);have VB:=lH ((G).below r.o);clear E G;have k0:=aI 0 t;have j0:=aI 0 RB;have k1:=aI 1 t;have j1:=aI 1 RB;have k2:=aI 2 t;have j2:=aI 2 RB;have k3:=aI 3 t;have j3:=aI 3 RB;have kl:=t.o.lt;have jl:=RB.o.lt;go_enter func202,ntmps202;go_wp2_with fail
 rw[<- R];clear R;refine(Ev _ _ a b _ VA.o VB.o a0.o a1.o a2.o).mono ?_;rintro e w1 ⟨vq,rfl,O,M⟩;obtain⟨sq,Aq,lq,cq,tq,Bq,mq,dq,rfl⟩:=O.shape;have Vq:=lH O;clear O;replace h:=rW h M;replace r:=bT r M;clear M k0 k1 k2 k3 j0 j1 j2 j3 kl jl;obtain⟨a3,a4,a5,a6⟩:=aT4 h.o;have a7:=h.o.lt;have a8:=h.o.free 0;have a9:=h.o.free 1;have aa:=h.o.free 2;have ab:=h.o.free 3;have X:=ic h.o dC oM r.o Vq.o;have C:=lH X;clear X;go_wp2_with fail
 refine bodyPost_ret (v:= .agg #[.bool sq, .slice Aq lq cq, .bool tq, .slice Bq mq dq]) (by simp[results,results202,go_sem,a3,a4,a5,a6,a7]) rfl ?_;exact⟨_,rfl,C.o.1.below (eD _ _),C.o.2.trans ((eD _ _).mono C.o.2.size)⟩
end
section
open Go.RowKit
open Lp (RL)
set_option maxHeartbeats 3200000 in
theorem Ew(va vb:Value)(a b:Rat)(w:World)(ha:eP w va a)(hb:eP w vb b)(aq:RL 1000000000000 a)(ar:RL 1000000000000 b):
  Calls prog 38 #[va,vb] w fun e w'=>e= .returned (.int .i64 (nJ a b)) /\ Below w.heap.size w w':=by
 obtain⟨sa,Aa,la,ca,ta,Ba,ma,da,rfl⟩:=ha.shape;obtain⟨sb,Ab,lb,cb,tb,Bb,mb,db,rfl⟩:=hb.shape;have Z:=lH aq;have a0:=lH ar;clear aq ar;by_cases ag:a.den=1
 ·have ao:=lH ag;clear ag;obtain⟨W,hW,h,RB,r⟩:=eN2 w [.bool sa, .slice Aa la ca, .bool ta, .slice Ba ma da] 40 [.bool sb, .slice Ab lb cb, .bool tb, .slice Bb mb db] 40;have t:=lH ((ha).below r.o);have E:=lH ((hb).below r.o);clear ha hb;obtain⟨k0,k1,k2,k3⟩:=aT4 h.o;have kl:=h.o.lt;go_enter func38,ntmps38;go_wp2_with fail
  rw[<- hW];clear hW;refine(lD _ a _ t.o (Z.o.mono dC)).mono ?_;rintro e w1 ⟨rfl,U⟩;replace t:=lH (t.o.below U);replace E:=lH (E.o.below U);replace h:=rW h U;replace RB:=rW RB U;replace r:=bT r U;clear U;clear k0 k1 k2 k3 kl;rw[show decide (a.den=1)=true from by simpa using ao.o];obtain⟨aj,ak,al,am⟩:=aT4 RB.o;have an:=RB.o.lt;go_wp2_with fail
  clear aj ak al am an;refine(lD _ b _ E.o (a0.o.mono dC)).mono ?_;rintro e w2 ⟨rfl,V⟩;replace t:=lH (t.o.below V);replace E:=lH (E.o.below V);replace h:=rW h V;replace RB:=rW RB V;replace r:=bT r V;clear V;by_cases U:b.den=1
  ·rw[show decide (b.den=1)=true from by simpa using U];have au:=lH U;clear U;obtain⟨av,aw,ax,ay⟩:=aT4 h.o;have az:=h.o.lt;obtain⟨aj,ak,al,am⟩:=aT4 RB.o;have an:=RB.o.lt;go_wp2_with fail
   clear av aw ax ay az aj ak al am an;refine(jB _ _ a.num b.num _ t.o.parts.1 E.o.parts.1 ((Z.o.fJ).l1 dC) ((a0.o.fJ).l1 dC)).mono ?_;rintro e w3 ⟨rfl,O⟩;replace r:=bT r O;clear O;go_wp2_with fail
   go_returns;exact⟨by rw[<- Eu ao.o au.o];rfl,r.o⟩
  ·rw[show decide (b.den=1)=false from by simpa using U];clear U;go_wp2_with fail
   have C:=rG w2;have a1:Hid (Below w2.heap.size w2 w2.drew):=lH (Below.refl _ _).drew;have ah:=h.o.lt;obtain⟨a2,a4,a6,a8⟩:=aT4 h.o;have ai:=RB.o.lt;obtain⟨a3,a5,a7,a9⟩:=aT4 RB.o;have KS:=lH (kC a2 (kC a4 (kC a6 (kC a8 (kC a3 (kC a5 (kC a7 (kN a9))))))));have ab:True:=trivial;have ac:True:=trivial;have ad:True:=trivial;have ae:True:=trivial;have af:True:=trivial
   go_region_held3 (fun w'=> w'.cell? ⟨w.heap.size,0,none⟩=some (.bool sa) /\ w'.cell? ⟨w.heap.size,1,none⟩=some (.slice Aa la ca) /\ w'.cell? ⟨w.heap.size,2,none⟩=some (.bool ta) /\ w'.cell? ⟨w.heap.size,3,none⟩=some (.slice Ba ma da) /\ w'.cell? ⟨(w.heap.size+1),0,none⟩=some (.bool sb) /\ w'.cell? ⟨(w.heap.size+1),1,none⟩=some (.slice Ab lb cb) /\ w'.cell? ⟨(w.heap.size+1),2,none⟩=some (.bool tb) /\ w'.cell? ⟨(w.heap.size+1),3,none⟩=some (.slice Bb mb db))
    (first | (with_reducible exact KS.o _ a1.o) | (with_reducible exact KS.o _ C.o) | (exact KS.o _ (C.o.trans ((eD _ _).mono C.o.size))) | (exact KS.o _ (C.o.trans (((eD _ _).drew).mono C.o.size))) | go_keep)
    (first
     | (go_at_call 78
        have _t:=ab;refine(iU _ b _ (by exact E.o)).mono ?_;rintro e w3 ⟨ve,rfl,he,O⟩;have O:Below w2.heap.size w2 w3:=bD O;obtain⟨se,Ae,le,ce,rfl⟩:=he.shape;have T:=lH he;replace t:=lH (t.o.below O);replace E:=lH (E.o.below O);replace h:=rW h O;replace RB:=rW RB O;replace r:=bT r O;replace C:=bT C O
        clear O ab _t he)
     | (go_at_call 77
        have _t:=ac;refine(iV _ _ a.num (b.den:Int) _ (by exact t.o.parts.1) (by exact T.o) ((Z.o.fJ).l1 dC) ((a0.o.fH).l1 dC)).mono ?_;rintro e w4 ⟨vf,rfl,hf,R⟩;have R:Below w3.heap.size w3 w4:=bD R;obtain⟨sf,Af,lf,cf,rfl⟩:=hf.shape;have X:=lH hf;replace t:=lH (t.o.below R);replace E:=lH (E.o.below R);replace T:=lH (T.o.below R);replace h:=rW h R;replace RB:=rW RB R;replace r:=bT r R;replace C:=bT C R
        clear R ac _t hf)
     | (go_at_call 78
        have _t:=ad;refine(iU _ a _ (by exact t.o)).mono ?_;rintro e w5 ⟨vg,rfl,hg,M⟩;have M:Below w4.heap.size w4 w5:=bD M;obtain⟨sg,Ag,lg,cg,rfl⟩:=hg.shape;have Vg:=lH hg;replace t:=lH (t.o.below M);replace E:=lH (E.o.below M);replace T:=lH (T.o.below M);replace X:=lH (X.o.below M);replace h:=rW h M;replace RB:=rW RB M;replace r:=bT r M;replace C:=bT C M
        clear M ad _t hg)
     | (go_at_call 77
        have _t:=ae;refine(iV _ _ b.num (a.den:Int) _ (by exact E.o.parts.1) (by exact Vg.o) ((a0.o.fJ).l1 dC) ((Z.o.fH).l1 dC)).mono ?_;rintro e w6 ⟨vh,rfl,hh,G⟩;have G:Below w5.heap.size w5 w6:=bD G;obtain⟨sh,Ah,lh,ch,rfl⟩:=hh.shape;have Vh:=lH hh;replace t:=lH (t.o.below G);replace E:=lH (E.o.below G);replace T:=lH (T.o.below G);replace X:=lH (X.o.below G);replace Vg:=lH (Vg.o.below G);replace h:=rW h G;replace RB:=rW RB G;replace r:=bT r G;replace C:=bT C G
        clear G ae _t hh)
     | (go_at_call 81
        have _t:=af;refine(jB _ _ (a.num* (b.den:Int)) (b.num* (a.den:Int)) _ (by exact X.o) (by exact Vh.o) ((Z.o.fJ.mul a0.o.fH).l1 dC) ((a0.o.fJ.mul Z.o.fH).l1 dC)).mono ?_;rintro e w7 ⟨rfl,Y⟩;have Y:Below w6.heap.size w6 w7:=bD Y;replace t:=lH (t.o.below Y);replace E:=lH (E.o.below Y);replace T:=lH (T.o.below Y);replace X:=lH (X.o.below Y);replace Vg:=lH (Vg.o.below Y);replace Vh:=lH (Vh.o.below Y);replace h:=rW h Y;replace RB:=rW RB Y;replace r:=bT r Y;replace C:=bT C Y
        clear Y af _t))
   clear ah a2 a4 a6 a8 ai a3 a5 a7 a9 KS C a1;go_wp2_with fail
   go_returns;exact⟨by rw[<- u6];rfl,r.o⟩
 ·obtain⟨W,hW⟩:=eX (((w.alloc (.cells #[.bool sa, .slice Aa la ca, .bool ta, .slice Ba ma da] 40)).alloc (.cells #[.bool sb, .slice Ab lb cb, .bool tb, .slice Bb mb db] 40)));obtain⟨r0,r1,ap,aa⟩:=qx w (.cells #[.bool sa, .slice Aa la ca, .bool ta, .slice Ba ma da] 40) (.cells #[.bool sb, .slice Ab lb cb, .bool tb, .slice Bb mb db] 40);rw[<- hW] at r0 r1 ap aa;have h:Hid (Row W w.heap.size 40 [.bool sa, .slice Aa la ca, .bool ta, .slice Ba ma da]):=lH r0;have RB:Hid (Row W (w.heap.size+1) 40 [.bool sb, .slice Ab lb cb, .bool tb, .slice Bb mb db]):=lH r1;have t:=lH ((ha).below aa);have E:=lH ((hb).below aa);have r:=lH aa;clear r0 r1 ap aa;clear ha hb;obtain⟨k0,k1,k2,k3⟩:=aT4 h.o;have kl:=h.o.lt;go_enter func38,ntmps38;go_wp2_with fail
  rw[<- hW];clear hW;refine(lD _ a _ t.o (Z.o.mono dC)).mono ?_;rintro e w1 ⟨rfl,U⟩;replace t:=lH (t.o.below U);replace E:=lH (E.o.below U);replace h:=rW h U;replace RB:=rW RB U;replace r:=bT r U;clear U;clear k0 k1 k2 k3 kl;rw[show decide (a.den=1)=false from by simpa using ag];clear ag;go_wp2_with fail
  have C:=rG w1;have a1:Hid (Below w1.heap.size w1 w1.drew):=lH (Below.refl _ _).drew;have ah:=h.o.lt;obtain⟨a2,a4,a6,a8⟩:=aT4 h.o;have ai:=RB.o.lt;obtain⟨a3,a5,a7,a9⟩:=aT4 RB.o;have KS:=lH (kC a2 (kC a4 (kC a6 (kC a8 (kC a3 (kC a5 (kC a7 (kN a9))))))));have ab:True:=trivial;have ac:True:=trivial;have ad:True:=trivial;have ae:True:=trivial;have af:True:=trivial
  go_region_held3 (fun w'=> w'.cell? ⟨w.heap.size,0,none⟩=some (.bool sa) /\ w'.cell? ⟨w.heap.size,1,none⟩=some (.slice Aa la ca) /\ w'.cell? ⟨w.heap.size,2,none⟩=some (.bool ta) /\ w'.cell? ⟨w.heap.size,3,none⟩=some (.slice Ba ma da) /\ w'.cell? ⟨(w.heap.size+1),0,none⟩=some (.bool sb) /\ w'.cell? ⟨(w.heap.size+1),1,none⟩=some (.slice Ab lb cb) /\ w'.cell? ⟨(w.heap.size+1),2,none⟩=some (.bool tb) /\ w'.cell? ⟨(w.heap.size+1),3,none⟩=some (.slice Bb mb db))
   (first | (with_reducible exact KS.o _ a1.o) | (with_reducible exact KS.o _ C.o) | (exact KS.o _ (C.o.trans ((eD _ _).mono C.o.size))) | (exact KS.o _ (C.o.trans (((eD _ _).drew).mono C.o.size))) | go_keep)
   (first
    | (go_at_call 78
       have _t:=ab;refine(iU _ b _ (by exact E.o)).mono ?_;rintro e w2 ⟨ve,rfl,he,V⟩;have V:Below w1.heap.size w1 w2:=bD V;obtain⟨se,Ae,le,ce,rfl⟩:=he.shape;have T:=lH he;replace t:=lH (t.o.below V);replace E:=lH (E.o.below V);replace h:=rW h V;replace RB:=rW RB V;replace r:=bT r V;replace C:=bT C V
       clear V ab _t he)
    | (go_at_call 77
       have _t:=ac;refine(iV _ _ a.num (b.den:Int) _ (by exact t.o.parts.1) (by exact T.o) ((Z.o.fJ).l1 dC) ((a0.o.fH).l1 dC)).mono ?_;rintro e w3 ⟨vf,rfl,hf,O⟩;have O:Below w2.heap.size w2 w3:=bD O;obtain⟨sf,Af,lf,cf,rfl⟩:=hf.shape;have X:=lH hf;replace t:=lH (t.o.below O);replace E:=lH (E.o.below O);replace T:=lH (T.o.below O);replace h:=rW h O;replace RB:=rW RB O;replace r:=bT r O;replace C:=bT C O
       clear O ac _t hf)
    | (go_at_call 78
       have _t:=ad;refine(iU _ a _ (by exact t.o)).mono ?_;rintro e w4 ⟨vg,rfl,hg,R⟩;have R:Below w3.heap.size w3 w4:=bD R;obtain⟨sg,Ag,lg,cg,rfl⟩:=hg.shape;have Vg:=lH hg;replace t:=lH (t.o.below R);replace E:=lH (E.o.below R);replace T:=lH (T.o.below R);replace X:=lH (X.o.below R);replace h:=rW h R;replace RB:=rW RB R;replace r:=bT r R;replace C:=bT C R
       clear R ad _t hg)
    | (go_at_call 77
       have _t:=ae;refine(iV _ _ b.num (a.den:Int) _ (by exact E.o.parts.1) (by exact Vg.o) ((a0.o.fJ).l1 dC) ((Z.o.fH).l1 dC)).mono ?_;rintro e w5 ⟨vh,rfl,hh,M⟩;have M:Below w4.heap.size w4 w5:=bD M;obtain⟨sh,Ah,lh,ch,rfl⟩:=hh.shape;have Vh:=lH hh;replace t:=lH (t.o.below M);replace E:=lH (E.o.below M);replace T:=lH (T.o.below M);replace X:=lH (X.o.below M);replace Vg:=lH (Vg.o.below M);replace h:=rW h M;replace RB:=rW RB M;replace r:=bT r M;replace C:=bT C M
       clear M ae _t hh)
    | (go_at_call 81
       have _t:=af;refine(jB _ _ (a.num* (b.den:Int)) (b.num* (a.den:Int)) _ (by exact X.o) (by exact Vh.o) ((Z.o.fJ.mul a0.o.fH).l1 dC) ((a0.o.fJ.mul Z.o.fH).l1 dC)).mono ?_;rintro e w6 ⟨rfl,G⟩;have G:Below w5.heap.size w5 w6:=bD G;replace t:=lH (t.o.below G);replace E:=lH (E.o.below G);replace T:=lH (T.o.below G);replace X:=lH (X.o.below G);replace Vg:=lH (Vg.o.below G);replace Vh:=lH (Vh.o.below G);replace h:=rW h G;replace RB:=rW RB G;replace r:=bT r G;replace C:=bT C G
       clear G af _t))
  clear ah a2 a4 a6 a8 ai a3 a5 a7 a9 KS C a1;go_wp2_with fail
  go_returns;exact⟨by rw[<- u6];rfl,r.o⟩
end
section
open Go.RowKit
open Lp (RL upd)
theorem gM:40≠169:=dC
def RB(w:World)(g n:Nat)(f:Nat -> Rat):Prop:=
 ∃cs:List Value,Row w g 40 cs /\ n*4 <= cs.length /\ ∀j,j<n -> ∃s A l c t B m d,cs[j*4]? =some (.bool s) /\ cs[j*4+1]? =some (.slice A l c) /\ cs[j*4+2]? =some (.bool t) /\ cs[j*4+3]? =some (.slice B m d) /\
  eP w (.agg #[.bool s, .slice A l c, .bool t, .slice B m d]) (f j)
section
variable {w w':World} {g n:Nat} {f:Nat -> Rat}
theorem RB.lt(h:RB w g n f):g<w.heap.size:=by obtain⟨cs,r,_⟩:=h;exact r.lt
theorem RB.below(h:RB w g n f)(r:Below w.heap.size w w'):RB w' g n f:=by
 obtain⟨cs,C,U,R⟩:=h;refine⟨cs,C.below r C.lt,U,fun j T=> ?_⟩;obtain⟨s,A,l,c,t,B,m,d,h1,E,G,M,O⟩:=R j T;exact⟨s,A,l,c,t,B,m,d,h1,E,G,M,O.below r⟩
theorem RB.other{g':Nat}{e:TypeId}{C:List Value}(h:RB w g n f)(r:w.grownBy w' (some g'))(Y:Row w g' e C)(T:e≠169)(W:g≠g'):RB w' g n f:=by
 obtain⟨cs,X,V,R⟩:=h;refine⟨cs,X.other r W,V,fun j U=> ?_⟩;obtain⟨s,A,l,c,t,B,m,d,h1,E,G,M,O⟩:=R j U;exact⟨s,A,l,c,t,B,m,d,h1,E,G,M,O.other r Y T⟩
theorem RB.take{k:Nat}(h:RB w g n f)(E:k <= n):RB w g k f:=by
 obtain⟨cs,t,G,r⟩:=h;exact⟨cs,t,by omega,fun j C=>r j oM⟩
theorem RB.congr{f':Nat -> Rat}(h:RB w g n f)(C:∀j,j<n -> f j=f' j):RB w g n f':=by
 obtain⟨cs,G,E,t⟩:=h;exact⟨cs,G,E,fun j r=>by rw[<- C j r];exact t j r⟩
theorem RB.row(h:RB w g n f):∃cs,Row w g 40 cs:=by obtain⟨cs,r,_⟩:=h;exact⟨cs,r⟩
theorem RB.at_(h:RB w g n f){j:Nat}(R:j<n):∃s A l c t B m d,w.cell? ⟨g,j*4,none⟩=some (.bool s) /\ w.cell? ⟨g,j*4+1,none⟩=some (.slice A l c) /\ w.cell? ⟨g,j*4+2,none⟩=some (.bool t) /\ w.cell? ⟨g,j*4+3,none⟩=some (.slice B m d) /\
  eP w (.agg #[.bool s, .slice A l c, .bool t, .slice B m d]) (f j):=by
 obtain⟨cs,r,T,O⟩:=h;obtain⟨s,A,l,c,t,B,m,d,h1,C,E,G,M⟩:=O j R;exact⟨s,A,l,c,t,B,m,d,r.at_ _ h1,r.at_ _ C,r.at_ _ E,r.at_ _ G,M⟩
theorem RB.free(h:RB w g n f)(j:Nat): w.frozen? ⟨g,j,none⟩=false:=by obtain⟨cs,r,_⟩:=h;exact r.free j
theorem RB.set(h:RB w g n f){j:Nat}{x y z u:Value}{q:Rat}(X:j<n)(E:eP w (.agg #[x,y,z,u]) q):
  RB ((((w.setCell ⟨g,j*4,none⟩ x).setCell ⟨g,j*4+1,none⟩ y).setCell ⟨g,j*4+2,none⟩ z).setCell ⟨g,j*4+3,none⟩ u) g n (upd f j q):=by
 obtain⟨cs,r,W,U⟩:=h;have C:=gJ w g (j*4) (j*4+1) (j*4+2) (j*4+3) x y z u;refine⟨_,(((r.set _ x).set _ y).set _ z).set _ u,by simpa using W,fun i V=> ?_⟩;by_cases e:i=j
 ·subst e;obtain⟨s,A,l,c,t,B,m,d,G⟩:=E.shape;simp only[Value.agg.injEq] at G;obtain⟨rfl,rfl,rfl,rfl⟩:x= .bool s /\ y= .slice A l c /\ z= .bool t /\ u= .slice B m d:=by simpa using G
  refine⟨s,A,l,c,t,B,m,d,?_,?_,?_,?_,by rw[Lp.upd_same];exact E.other C r gM⟩ <;> simp[List.getElem?_set] <;> omega
 ·obtain⟨s,A,l,c,t,B,m,d,h1,M,O,R,T⟩:=U i V;refine⟨s,A,l,c,t,B,m,d,?_,?_,?_,?_,by rw[Lp.eQ _ _ e];exact T.other C r gM⟩
  ·rw[List.getElem?_set_ne oM,List.getElem?_set_ne oM,List.getElem?_set_ne oM,List.getElem?_set_ne oM];exact h1
  ·rw[List.getElem?_set_ne oM,List.getElem?_set_ne oM,List.getElem?_set_ne oM,List.getElem?_set_ne oM];exact M
  ·rw[List.getElem?_set_ne oM,List.getElem?_set_ne oM,List.getElem?_set_ne oM,List.getElem?_set_ne oM];exact O
  ·rw[List.getElem?_set_ne oM,List.getElem?_set_ne oM,List.getElem?_set_ne oM,List.getElem?_set_ne oM];exact R
end
def fD(w:World)(v:Value)(n:Nat)(f:Nat -> Rat):Prop:=∃A c,v= .slice A n c /\ n <= c /\ c <= maxLen /\ (n=0 \/ ∃g,A=some ⟨g,0,none⟩ /\ RB w g n f)
theorem fD.below{w w':World}{v:Value}{n:Nat}{f:Nat -> Rat}(h:fD w v n f)(E:Below w.heap.size w w'):fD w' v n f:=by
 obtain⟨A,c,M,h1,r,t⟩:=h;exact⟨A,c,M,h1,r,t.imp id fun⟨g,C,G⟩=>⟨g,C,G.below E⟩⟩
theorem fD.congr{w:World}{v:Value}{n:Nat}{f f':Nat -> Rat}(h:fD w v n f)(E:∀j,j<n -> f j=f' j):fD w v n f':=by
 obtain⟨A,c,M,h1,r,t⟩:=h;exact⟨A,c,M,h1,r,t.imp id fun⟨g,C,G⟩=>⟨g,C,G.congr E⟩⟩
theorem jC{q:Rat}:sgI q.num=0↔q=0:=by
 rw[<- Rat.num_eq_zero];unfold sgI;split
 ·constructor <;> intro h <;> omega
 ·split
  ·simp[*]
  ·constructor <;> intro h <;> omega
theorem cell_below{w w':World}{b o:Nat}{v:Value}(r:Below w.heap.size w w')(h: w.cell? ⟨b,o,none⟩=some v): w'.cell? ⟨b,o,none⟩=some v:=(r.cell (World.block_lt_of_cell? w _ h)).trans h
theorem eG{w w':World}{b o g:Nat}{v:Value}(r:w.grownBy w' (some g))(t:b≠g)(h: w.cell? ⟨b,o,none⟩=some v): w'.cell? ⟨b,o,none⟩=some v:=r.cell h (by simp;exact t)
theorem eF{w:World}{b o:Nat}{v:Value}(h: w.cell? ⟨b,o,none⟩=some v):b<w.heap.size:= World.block_lt_of_cell? w _ h
def jX(w:World)(b o:Nat)(x y z u:Value):Prop:= w.cell? ⟨b,o,none⟩=some x /\ w.cell? ⟨b,o+1,none⟩=some y /\ w.cell? ⟨b,o+2,none⟩=some z /\ w.cell? ⟨b,o+3,none⟩=some u
theorem jX.lt{w:World}{b o:Nat}{x y z u:Value}(h:jX w b o x y z u):b<w.heap.size:= World.block_lt_of_cell? w _ h.1
theorem jX.below{w w':World}{b o:Nat}{x y z u:Value}(h:jX w b o x y z u)(r:Below w.heap.size w w'):jX w' b o x y z u:=
 ⟨(r.cell h.lt).trans h.1,(r.cell (p:=⟨b,o+1,none⟩) h.lt).trans h.2.1,(r.cell (p:=⟨b,o+2,none⟩) h.lt).trans h.2.2.1,(r.cell (p:=⟨b,o+3,none⟩) h.lt).trans h.2.2.2⟩
theorem jX.other{w w':World}{b o g:Nat}{x y z u:Value}(h:jX w b o x y z u)(r:w.grownBy w' (some g))(t:b≠g):jX w' b o x y z u:=
 ⟨r.cell h.1 (by simp;exact t),r.cell h.2.1 (by simp;exact t),r.cell h.2.2.1 (by simp;exact t),r.cell h.2.2.2 (by simp;exact t)⟩
theorem RB.fK{w:World}{g n:Nat}{f:Nat -> Rat}(h:RB w g n f){j:Nat}(M:j<n):∃s A l c t B m d,jX w g (j*4) (.bool s) (.slice A l c) (.bool t) (.slice B m d) /\ eP w (.agg #[.bool s, .slice A l c, .bool t, .slice B m d]) (f j):=by
 obtain⟨s,A,l,c,t,B,m,d,h1,r,C,E,G⟩:=h.at_ M;exact⟨s,A,l,c,t,B,m,d,⟨h1,r,C,E⟩,G⟩
def AtQ(w:World)(g:Nat)(q:Rat):Prop:=∃s A l c t B m d,Row w g 40 [.bool s, .slice A l c, .bool t, .slice B m d] /\ eP w (.agg #[.bool s, .slice A l c, .bool t, .slice B m d]) q
theorem AtQ.mk{w:World}{g:Nat}{q:Rat}{s t:Bool}{A B:Option Addr}{l c m d:Nat}(h:Row w g 40 [.bool s, .slice A l c, .bool t, .slice B m d])(r:eP w (.agg #[.bool s, .slice A l c, .bool t, .slice B m d]) q):AtQ w g q:=⟨s,A,l,c,t,B,m,d,h,r⟩
theorem AtQ.below{w w':World}{g:Nat}{q:Rat}(h:AtQ w g q)(r:Below w.heap.size w w'):AtQ w' g q:=by
 obtain⟨s,A,l,c,t,B,m,d,C,E⟩:=h;exact⟨s,A,l,c,t,B,m,d,C.below r C.lt,E.below r⟩
open Lp (eH sumTo)
theorem og(n:Nat)(a b:Nat -> Rat):eH (n+1) a b=eH n a b+a n*b n:=rfl
structure Chg (S:Nat -> Prop) (w w':World):Prop where
 os:w'.os=w.os
 tape:w'.tape=w.tape
 output:w'.output=w.output
 size:w.heap.size <= w'.heap.size
 block:∀k,k<w.heap.size -> ¬S k -> w'.heap[k]? =w.heap[k]?
section
variable {S:Nat -> Prop} {w w' w'':World}
theorem Chg.refl(S:Nat -> Prop)(w:World):Chg S w w:=⟨rfl,rfl,rfl,Nat.le_refl _,fun _ _ _=>rfl⟩
theorem Chg.of_below(h:Below w.heap.size w w'):Chg S w w':=⟨h.os,h.tape,h.output,h.size,fun k r _=>h.block k r⟩
theorem Chg.gU(h:Chg S w w')(r:Below w'.heap.size w' w''):Chg S w w'':=
 ⟨r.os.trans h.os,r.tape.trans h.tape,r.output.trans h.output,Nat.le_trans h.size r.size,fun k t C=>(r.block k (Nat.lt_of_lt_of_le t h.size)).trans (h.block k t C)⟩
theorem Chg.iW{g:Nat}(h:Chg S w w')(r:w'.grownBy w'' (some g))(t:S g \/ w.heap.size <= g):Chg S w w'':=
 ⟨r.os.trans h.os,r.tape.trans h.tape,r.output.trans h.output,Nat.le_trans h.size r.size,fun k C E=>(r.block k (Nat.lt_of_lt_of_le C h.size) (fun e=>by
  simp only[Option.some.injEq] at e;subst e
  rcases t with t | t
  ·exact E t
  ·omega)).trans (h.block k C E)⟩
theorem Chg.trans{T:Nat -> Prop}(h:Chg S w w')(r:Chg T w' w'')(E:∀k,T k -> S k \/ w.heap.size <= k):Chg S w w'':=
 ⟨r.os.trans h.os,r.tape.trans h.tape,r.output.trans h.output,Nat.le_trans h.size r.size,fun k t C=>(r.block k (Nat.lt_of_lt_of_le t h.size) (fun G=>by
  rcases E k G with h1 | h1
  ·exact C h1
  ·omega)).trans (h.block k t C)⟩
theorem Chg.below(h:Chg S w w'){B:Nat}(C:B <= w.heap.size)(r:∀k,S k -> B <= k):Below B w w':=
 ⟨h.os,h.tape,h.output,h.size,fun k E=>h.block k oM (fun t=>by have:=r k t;omega)⟩
def iR(S:Nat -> Prop)(w:World):Prop:=∀k,S k -> ∃e cs,Row w k e cs /\ e≠169
theorem U32.chg{A:Option Addr}{l:List Nat}(h:U32 w A l)(G:Chg S w w')(T:iR S w):U32 w' A l:=by
 rcases h with h | ⟨b,C,E,M,r⟩
 ·exact .inl h
 ·have t:w'.heap[b]? =w.heap[b]? :=G.block b r.lt fun V=>by
   obtain⟨e,cs,U,O⟩:=T b V;exact xS U O r rfl
  exact .inr ⟨b,C,E,fun j R=>(World.cell?_of_block (a:=⟨b,C+j,none⟩) t).trans (M j R),r.mD t⟩
theorem eT.chg{v:Value}{n:Int}(h:eT w v n)(C:Chg S w w')(E:iR S w):eT w' v n:=by
 obtain⟨A,c,G,h1,r,t⟩:=h;exact⟨A,c,G,h1,r,t.chg C E⟩
theorem eP.chg{v:Value}{q:Rat}(h:eP w v q)(r:Chg S w w')(C:iR S w):eP w' v q:=by
 obtain⟨s,A,l,c,t,B,m,d,M,h1,y,E,G⟩:=h;exact⟨s,A,l,c,t,B,m,d,M,h1.chg r C,y,E.chg r C,G⟩
theorem Row.chg{g:Nat}{e:TypeId}{cs:List Value}(h:Row w g e cs)(r:Chg S w w')(t:¬S g):Row w' g e cs:=(r.block g h.lt t).trans h
theorem RB.chg{g n:Nat}{f:Nat -> Rat}(h:RB w g n f)(r:Chg S w w')(U:iR S w)(W:¬S g):RB w' g n f:=by
 obtain⟨cs,V,T,O⟩:=h;refine⟨cs,V.chg r W,T,fun j R=> ?_⟩;obtain⟨s,A,l,c,t,B,m,d,h1,C,E,G,M⟩:=O j R;exact⟨s,A,l,c,t,B,m,d,h1,C,E,G,M.chg r U⟩
theorem iR.rb{g n:Nat}{f:Nat -> Rat}(h:RB w g n f):iR (fun k=>k=g) w:=fun k r=>by
 subst r;obtain⟨cs,t⟩:=h.row;exact⟨_,_,t,gM⟩
end
end
section
open Go.RowKit
open Lp (RL upd)
theorem Ex{f p:Nat -> Rat}{q:Rat}{k:Nat}(h:p k=0)(j:Nat):(if j<k then f j-q*p j else f j)=(if j<k+1 then f j-q*p j else f j):=by
 by_cases e:j=k
 ·subst e;rw[if_neg (Nat.lt_irrefl _),if_pos oM,h];grind
 ·by_cases r:j<k
  ·rw[if_pos r,if_pos oM]
  ·rw[if_neg r,if_neg oM]
theorem Ey{f p:Nat -> Rat}{q:Rat}{k:Nat}(j:Nat):upd (fun j=>if j<k then f j-q*p j else f j) k (f k-q*p k) j=(if j<k+1 then f j-q*p j else f j):=by
 by_cases e:j=k
 ·subst e;rw[Lp.upd_same,if_pos oM]
 ·rw[Lp.eQ _ _ e];by_cases h:j<k
  ·rw[if_pos h,if_pos oM]
  ·rw[if_neg h,if_neg oM]
set_option maxHeartbeats 3200000 in
theorem yf(g h ca cb n nb:Nat)(f p:Nat -> Rat)(vq:Value)(q:Rat)(w:World)(hf:RB w g n f)(hp:RB w h nb p)(b2:g≠h)(hn:n <= nb)(b3:n <= 9223372036854775807)(hq:eP w vq q)
  (aw:∀j,j<n -> RL 400000000000 (f j)) (ax:∀j,j<n -> RL 400000000000 (p j)) (ay:RL 400000000000 q):
  Calls prog 203 #[.slice (some ⟨g,0,none⟩) n ca, .slice (some ⟨h,0,none⟩) nb cb,vq] w fun e w'=>e= .returned (.tuple #[]) /\ RB w' g n (fun j=>f j-q*p j) /\ Chg (fun k=>k=g) w w':=by
 obtain⟨sq,Aq,lq,cq,tq,Bq,mq,dq,rfl⟩:=hq.shape;have aE:=lH aw;have ab:=lH ax;have ac:=lH ay;have aY:=hf.lt;have aZ:=hp.lt;clear aw ax ay;by_cases h0:q=0
 ·have Y:sgI q.num=0:=jC.2 h0;have HZ:=lH Y;have H0:=lH h0;clear Y h0;obtain⟨W,hW,C,r⟩:=eN1 w [.bool sq, .slice Aq lq cq, .bool tq, .slice Bq mq dq] 40;have E:=lH ((hq).below r.o);have t:=lH ((hf).below r.o);have G:=lH ((hp).below r.o);clear hq hf hp;replace r:Hid (Chg (fun k=>k=g) w W):=lH (Chg.of_below r.o);obtain⟨k0,k1,k2,k3⟩:=aT4 C.o;have kl:=C.o.lt;go_enter func203,ntmps203;go_wp2_with fail
  rw[<- hW];clear hW;refine(fQ _ q _ E.o).mono ?_;rintro e w1 ⟨rfl,X⟩;replace t:=lH (t.o.below X);replace r:=lH (r.o.gU X);clear X;rw[HZ.o];clear k0 k1 k2 k3 kl;go_wp2_with fail
  go_returns;exact⟨rfl,t.o.congr (fun j _=>by rw[H0.o];grind),r.o⟩
 ·have a2:(sgI q.num==0)=false:=by simpa using (not_congr jC).2 h0
  have aF:=lH a2;clear a2 h0;obtain⟨W,hW,C,r⟩:=eN1 w [.bool sq, .slice Aq lq cq, .bool tq, .slice Bq mq dq] 40;have E:=lH ((hq).below r.o);have t:=lH ((hf).below r.o);have G:=lH ((hp).below r.o);clear hq hf hp;replace r:Hid (Chg (fun k=>k=g) w W):=lH (Chg.of_below r.o);obtain⟨k0,k1,k2,k3⟩:=aT4 C.o;have kl:=C.o.lt;go_enter func203,ntmps203;go_wp2_with fail
  rw[<- hW];clear hW;refine(fQ _ q _ E.o).mono ?_;rintro e w1 ⟨rfl,X⟩;replace E:=lH (E.o.below X);replace C:=rW C X;replace t:=lH (t.o.below X);replace G:=lH (G.o.below X);replace r:=lH (r.o.gU X);clear X;have a2:=aF.o;clear k0 k1 k2 k3 kl;go_wp2_with fail
  clear a2;have aa:=lH (t.o.congr (f':=fun j=>if j<0 then f j-q*p j else f j) (fun j _=>by simp))
  go_loopw [12] (fun iv wr=>∃k:Nat,k <= n /\ iv= .int .i64 k /\ RB wr g n (fun j=>if j<k then f j-q*p j else f j) /\ RB wr h nb p /\ Row wr w.heap.size 40 [.bool sq, .slice Aq lq cq, .bool tq, .slice Bq mq dq] /\ eP wr (.agg #[.bool sq, .slice Aq lq cq, .bool tq, .slice Bq mq dq]) q /\ Chg (fun k=>k=g) w wr)
   (fun iv _=>n-(intOf iv).toNat)
  case atStart=>exact⟨0,Nat.zero_le _,rfl,aa.o,G.o,C.o,E.o,r.o⟩
  case round=>
   clear t G C E r aa;obtain⟨k,hk,rfl,ar,au,az,aD,av⟩:=hrel;have t:=lH ar;have G:=lH au;have C:=lH az;have E:=lH aD;have r:=lH av;clear ar au az aD av;by_cases b1:((k:Nat):Int)<(n:Nat)
   ·have a1:k<n:=oM
    have b0:((k:Nat):Int)<(nb:Nat):=oM
    obtain⟨sx,Ax,lx,cx,tx,Bx,mx,dx,ap,aB⟩:=(t.o).fK a1;have R:=lH ap;have Vx:=lH aB;clear ap aB;obtain⟨sy,Ay,ly,cy,ty,By,my,dy,aq,aC⟩:=(G.o).fK (show k<nb by omega);have T:=lH aq;have Vy:=lH aC;clear aq aC;rw[show(if k<k then f k-q*p k else f k)=f k from if_neg (Nat.lt_irrefl k)] at Vx;by_cases h1:p k=0
    ·have Y:sgI (p k).num=0:=jC.2 h1;have HZ:=lH Y;have H1:=lH h1;clear Y h1;obtain⟨a5,a6,a7,a8⟩:=T.o;have a9:=T.o.lt;go_wp2_with fail
     clear a5 a6 a7 a8 a9;refine(fQ _ (p k) _ Vy.o).mono ?_;rintro e w2 ⟨rfl,O⟩;replace E:=lH (E.o.below O);replace C:=rW C O;replace t:=lH (t.o.below O);replace G:=lH (G.o.below O);replace r:=lH (r.o.gU O);clear O;rw[HZ.o];go_wp2_with fail
     go_roundw
     case rel=>exact⟨k+1,by omega,by simp,t.o.congr (fun j _=>Ex H1.o j),G.o,C.o,E.o,r.o⟩
     case measure=>exact mZ
    ·have b4:(sgI (p k).num !=0)=true:=by simpa using (not_congr jC).2 h1
     clear h1;obtain⟨a5,a6,a7,a8⟩:=T.o;have a9:=T.o.lt;go_wp2_with fail
     clear a5 a6 a7 a8 a9;refine(fQ _ (p k) _ Vy.o).mono ?_;rintro e w2 ⟨rfl,O⟩;replace E:=lH (E.o.below O);replace Vx:=lH (Vx.o.below O);replace Vy:=lH (Vy.o.below O);replace C:=rW C O;replace R:=lH (R.o.below O);replace T:=lH (T.o.below O);replace t:=lH (t.o.below O);replace G:=lH (G.o.below O);replace r:=lH (r.o.gU O);clear O;go_wp2_with fail
     have Z:=rG w2;have aJ:=C.o.lt;obtain⟨af,ai,al,ao⟩:=aT4 C.o;have aG:=R.o.lt;obtain⟨ad,ag,aj,am⟩:=R.o;have aH:=T.o.lt;obtain⟨ae,ah,ak,an⟩:=T.o;have KS:=lH (kC af (kC ai (kC al (kC ao (kC ad (kC ag (kC aj (kC am (kC ae (kC ah (kC ak (kN an))))))))))));clear aJ af ai al ao aG ad ag aj am aH ae ah ak an;refine rL KS.o (fun i=>decide (14 <= i)) ?_;have M:=KS.o _ Z.o;refine tKs 0 21 M ?_;refine tKs 1 22 M ?_;refine tKs 2 23 M ?_;refine tKs 3 24 M ?_;refine tKs 4 25 M ?_;refine tKs 5 26 M ?_;refine tKs 6 27 M ?_;refine tKs 7 28 M ?_;refine tKs 8 29 M ?_;refine tKs 9 30 M ?_;refine tKs 10 31 M ?_;refine rD 11 (fun K hK=> ?_);go_simp;refine(mO _ _ q (p k) _ (by exact E.o) (by exact Vy.o) (ac.o.mono dC) ((ab.o k a1).mono dC)).mono ?_;rintro e w3 ⟨vz,rfl,Y,U⟩;have U:Below w2.heap.size w2 w3:=bD U;obtain⟨sz,Az,lz,cz,tz,Bz,mz,dz,rfl⟩:=Y.shape;have Vz:=lH Y;clear Y;replace E:=lH (E.o.below U);replace Vx:=lH (Vx.o.below U);replace C:=rW C U;replace R:=lH (R.o.below U);replace T:=lH (T.o.below U);replace t:=lH (t.o.below U);replace G:=lH (G.o.below U);replace r:=lH (r.o.gU U);replace Z:=bT Z U;clear M U;have M:=KS.o _ Z.o;refine kH hK M ?_;clear hK K;refine rD 12 (fun K hK=> ?_);go_simp;refine(pI _ _ (f k) (q*p k) _ (by exact Vx.o) (by exact Vz.o) ((aE.o k a1).mono dC) ((ac.o.mul (ab.o k a1)).mono dC)).mono ?_;rintro e w4 ⟨vr,rfl,hr,V⟩;have V:Below w3.heap.size w3 w4:=bD V;obtain⟨sr,Ar,lr,cr,tr,Br,mr,dr,rfl⟩:=hr.shape;have Vr:=lH hr;clear hr;replace E:=lH (E.o.below V);replace C:=rW C V;replace R:=lH (R.o.below V);replace T:=lH (T.o.below V);replace t:=lH (t.o.below V);replace G:=lH (G.o.below V);replace r:=lH (r.o.gU V);replace Z:=bT Z V;have aO:=R.o.1;have aP:=R.o.2.1;have aQ:=R.o.2.2.1;have aR:=R.o.2.2.2;have aS:=R.o.lt;have aK:=t.o.free (k*4);have aL:=t.o.free (k*4+1);have aM:=t.o.free (k*4+2);have aN:=t.o.free (k*4+3);clear M V;have M:=KS.o _ Z.o;refine kH hK M ?_;clear hK K;refine tKs 13 34 M ?_;refine rD 14 (fun K hK=> ?_);go_simp;refine kL hK ?_;clear hK K;refine dN ?_ _;clear M KS Z;clear aO aP aQ aR aS aK aL aM aN;clear R;have a0:World.grownBy w4 ((((w4.setCell ⟨g,k*4,none⟩ (.bool sr)).setCell ⟨g,k*4+1,none⟩ (.slice Ar lr cr)).setCell ⟨g,k*4+2,none⟩ (.bool tr)).setCell ⟨g,k*4+3,none⟩ (.slice Br mr dr)) (some g):=gJ _ _ _ _ _ _ _ _ _ _;obtain⟨aX,a3⟩:=t.o.row;have aW:=C.o.lt;have aV:=T.o.lt;have aT:=t.o.lt;have aU:=G.o.lt;have aA:=t.o.set a1 Vr.o;replace E:=lH (E.o.other a0 a3 gM);replace C:=lH (C.o.other a0 oM);replace G:=lH (G.o.other a0 a3 gM oM);replace r:=lH (r.o.iW a0 (.inl rfl));replace t:=lH aA;obtain⟨w5,a4⟩:=eX (((((w4.setCell ⟨g,k*4,none⟩ (.bool sr)).setCell ⟨g,k*4+1,none⟩ (.slice Ar lr cr)).setCell ⟨g,k*4+2,none⟩ (.bool tr)).setCell ⟨g,k*4+3,none⟩ (.slice Br mr dr)));rw[<- a4] at E C t G r;clear a0 a3 aA aW aV aT aU;rw[<- a4];clear a4;go_wp2_with fail
     go_roundw
     case rel=>exact⟨k+1,by omega,by simp,t.o.congr (fun j _=>Ey j),G.o,C.o,E.o,r.o⟩
     case measure=>exact mZ
   ·obtain rfl:k=n:=oM
    go_wp2_with fail
    go_returns;exact⟨rfl,t.o.congr (fun j hj=>by rw[if_pos hj]),r.o⟩
end
section
open Go.RowKit
open Lp (RL upd eH)
end
end Go.Proofs.YtokagbahdkfagaaGreatDoor
