/- Parts of this proof: RatH RatG Rats Less Dot. -/
import Derived.Test.YtdefghfjhgmpfaaGreatDoorMAM
import Derived.Test.YtdefghfjhgmpfaaGreatDoorMAN
import Derived.Test.YtdefghfjhgmpfaaGreatDoorMAK
import Derived.Test.YtdefghfjhgmpfaaGreatDoorMAE
namespace Go.Proofs.YtdefghfjhgmpfaaGreatDoor
open Tryz
section
open Go.RowKit
open Lp (RL)
set_option maxHeartbeats 1600000 in
theorem vw(va vb:Value)(a b:Rat)(w:World)(ha:eO w va a)(hb:eO w vb b)(a5:RL 1000000000000 a)(a6:RL 1000000000000 b):
  Calls prog 153 #[va,vb] w fun e w'=>∃v,e= .returned v /\ eO w' v (a-b) /\ Below w.heap.size w w':=by
 obtain⟨sa,Aa,la,ca,ta,Ba,ma,da,rfl⟩:=ha.shape;obtain⟨sb,Ab,lb,cb,tb,Bb,mb,db,rfl⟩:=hb.shape;have a9:=lH a5;have aa:=lH a6;clear a5 a6;obtain⟨W,hW,G,RB,C,F⟩:=eN3 w [.bool sa, .slice Aa la ca, .bool ta, .slice Ba ma da] 105 [.bool sb, .slice Ab lb cb, .bool tb, .slice Bb mb db] 105 [.bool false, .slice none 0 0, .bool false, .slice none 0 0] 105;have O:=lH ((ha).below F.o);have R:=lH ((hb).below F.o);clear ha hb;go_enter func153,ntmps153;go_wp2_with fail
 rw[<- hW];clear hW;go_wp2_with fail
 have h:=rG W;have a3:Hid (Below W.heap.size W W.drew):=lH (Below.refl _ _).drew;have ab:=G.o.lt;obtain⟨U,X,Z,a1⟩:=aT4 G.o;have ac:=RB.o.lt;obtain⟨V,Y,a0,a2⟩:=aT4 RB.o;have M:=lH (kC U (kC X (kC Z (kC a1 (kC V (kC Y (kC a0 (kN a2))))))));have ah:=C.o.lt;have KT:=lH (k4C (w.heap.size+1+1) U (k4C (w.heap.size+1+1) X (k4C (w.heap.size+1+1) Z (k4C (w.heap.size+1+1) a1 (k4C (w.heap.size+1+1) V (k4C (w.heap.size+1+1) Y (k4C (w.heap.size+1+1) a0 (k4N (w.heap.size+1+1) a2))))))));clear ah;have a7:True:=trivial;have a8:True:=trivial
 go_region_held3 (fun w'=> w'.cell? ⟨w.heap.size,0,none⟩=some (.bool sa) /\ w'.cell? ⟨w.heap.size,1,none⟩=some (.slice Aa la ca) /\ w'.cell? ⟨w.heap.size,2,none⟩=some (.bool ta) /\ w'.cell? ⟨w.heap.size,3,none⟩=some (.slice Ba ma da) /\ w'.cell? ⟨(w.heap.size+1),0,none⟩=some (.bool sb) /\ w'.cell? ⟨(w.heap.size+1),1,none⟩=some (.slice Ab lb cb) /\ w'.cell? ⟨(w.heap.size+1),2,none⟩=some (.bool tb) /\ w'.cell? ⟨(w.heap.size+1),3,none⟩=some (.slice Bb mb db))
  (first | (with_reducible exact M.o _ a3.o) | (with_reducible exact M.o _ h.o) | (with_reducible exact KT.o _ _ _ _ _ h.o) | (exact M.o _ (h.o.trans ((eD _ _).mono h.o.size))) | (exact M.o _ (h.o.trans (((eD _ _).drew).mono h.o.size))) | go_keep)
  (first
   | (go_at_call 69
      have _t:=a7;refine(nU _ b _ (by exact R.o)).mono ?_;rintro e w1 ⟨ve,rfl,he,t⟩;have t:Below W.heap.size W w1:=bD t;obtain⟨se,Ae,le,ce,te,Be,me,de,rfl⟩:=he.shape;have T:=lH he;replace O:=lH (O.o.below t);replace R:=lH (R.o.below t);replace G:=rW G t;replace RB:=rW RB t;replace C:=rW C t;replace F:=bT F t;replace h:=bT h t
      clear t a7 _t he)
   | (go_at_call 143
      have _t:=a8;refine(zf _ _ a (-b) _ (by exact O.o) (by exact T.o) a9.o aa.o.neg).mono ?_;rintro e w2 ⟨vr,rfl,E,r⟩;have r:Below w1.heap.size w1 w2:=bD r;obtain⟨sr,Ar,lr,cr,tr,Br,mr,dr,rfl⟩:=E.shape;have Vr:=lH E;replace O:=lH (O.o.below r);replace R:=lH (R.o.below r);replace T:=lH (T.o.below r);replace G:=rW G r;replace RB:=rW RB r;replace C:=rW C r;replace F:=bT F r;replace h:=bT h r;rw[<- Rat.sub_eq_add_neg] at E;replace Vr:=lH E;have E:=iY C.o dC oM F.o Vr.o;have a4:=lH E;clear E;obtain⟨ad,ai,ae,aj,af,ak,ag,al⟩:=aF4 C.o;have am:=C.o.lt
      clear r a8 _t E))
 clear ab U X Z a1 ac V Y a0 a2 M h a3 KT;go_wp2_with fail
 refine bodyPost_ret (v:= .agg #[.bool sr, .slice Ar lr cr, .bool tr, .slice Br mr dr]) (by simp[results,results153,go_sem,ad,ae,af,ag]) rfl ?_;exact⟨_,rfl,a4.o.1,a4.o.2⟩
set_option maxHeartbeats 1600000 in
theorem FE(va vb:Value)(a b:Rat)(w:World)(ha:eO w va a)(hb:eO w vb b)(ae:b≠0)(af:RL 1000000000000 a)(ag:RL 1000000000000 b):
  Calls prog 179 #[va,vb] w fun e w'=>∃v,e= .returned (.tuple #[v, .int .i64 0]) /\ eO w' v (a / b) /\ Below w.heap.size w w':=by
 obtain⟨sa,Aa,la,ca,ta,Ba,ma,da,rfl⟩:=ha.shape;obtain⟨sb,Ab,lb,cb,tb,Bb,mb,db,rfl⟩:=hb.shape;have a0:=lH af;have a1:=lH ag;clear af ag;have aa:b.num≠0:=fun e=>ae (Rat.num_eq_zero.1 e)
 have ab:(sgI b.num==0)=false:=uT aa;have am:=lH aa;have an:=lH ab;clear aa ab ae;obtain⟨W,hW,E,RB,r,t⟩:=eN3 w [.bool sa, .slice Aa la ca, .bool ta, .slice Ba ma da] 105 [.bool sb, .slice Ab lb cb, .bool tb, .slice Bb mb db] 105 [.bool false, .slice none 0 0, .bool false, .slice none 0 0] 105;have F:=lH ((ha).below t.o);have C:=lH ((hb).below t.o);clear ha hb;obtain⟨k0,k1,k2,k3⟩:=aT4 RB.o;have kl:=RB.o.lt;go_enter func179,ntmps179;go_wp2_with fail
 rw[<- hW];clear hW;refine(fU _ b _ C.o).mono ?_;rintro e Z ⟨rfl,Y⟩;replace F:=lH (F.o.below Y);replace C:=lH (C.o.below Y);replace E:=rW E Y;replace RB:=rW RB Y;replace r:=rW r Y;replace t:=bT t Y;clear Y;clear k0 k1 k2 k3 kl;have ab:=an.o;go_wp2_with fail
 have h:=rG Z;have ac:Hid (Below Z.heap.size Z Z.drew):=lH (Below.refl _ _).drew;have ao:=E.o.lt;obtain⟨a2,a4,a6,a8⟩:=aT4 E.o;have ap:=RB.o.lt;obtain⟨a3,a5,a7,a9⟩:=aT4 RB.o;have KS:=lH (kC a2 (kC a4 (kC a6 (kC a8 (kC a3 (kC a5 (kC a7 (kN a9))))))));have aw:=r.o.lt;have KT:=lH (k4C (w.heap.size+1+1) a2 (k4C (w.heap.size+1+1) a4 (k4C (w.heap.size+1+1) a6 (k4C (w.heap.size+1+1) a8 (k4C (w.heap.size+1+1) a3 (k4C (w.heap.size+1+1) a5 (k4C (w.heap.size+1+1) a7 (k4N (w.heap.size+1+1) a9))))))));clear aw;have ah:True:=trivial;have ai:True:=trivial;have aj:True:=trivial;have ak:True:=trivial;have al:True:=trivial
 go_region_held3 (fun w'=> w'.cell? ⟨w.heap.size,0,none⟩=some (.bool sa) /\ w'.cell? ⟨w.heap.size,1,none⟩=some (.slice Aa la ca) /\ w'.cell? ⟨w.heap.size,2,none⟩=some (.bool ta) /\ w'.cell? ⟨w.heap.size,3,none⟩=some (.slice Ba ma da) /\ w'.cell? ⟨(w.heap.size+1),0,none⟩=some (.bool sb) /\ w'.cell? ⟨(w.heap.size+1),1,none⟩=some (.slice Ab lb cb) /\ w'.cell? ⟨(w.heap.size+1),2,none⟩=some (.bool tb) /\ w'.cell? ⟨(w.heap.size+1),3,none⟩=some (.slice Bb mb db))
  (first | (with_reducible exact KS.o _ ac.o) | (with_reducible exact KS.o _ h.o) | (with_reducible exact KT.o _ _ _ _ _ h.o) | (exact KS.o _ (h.o.trans ((eD _ _).mono h.o.size))) | (exact KS.o _ (h.o.trans (((eD _ _).drew).mono h.o.size))) | go_keep)
  (first
   | (go_at_call 142
      have _t:=ah;refine(ji _ b _ (by exact C.o)).mono ?_;rintro e w2 ⟨ve,rfl,he,T⟩;have T:Below Z.heap.size Z w2:=bD T;obtain⟨se,Ae,le,ce,rfl⟩:=he.shape;have U:=lH he;replace F:=lH (F.o.below T);replace C:=lH (C.o.below T);replace E:=rW E T;replace RB:=rW RB T;replace r:=rW r T;replace t:=bT t T;replace h:=bT h T
      clear T ah _t he)
   | (go_at_call 141
      have _t:=ai;refine(jr _ _ a.num (b.den:Int) _ (by exact F.o.parts.1) (by exact U.o) ((a0.o.fE).l1 dC) ((a1.o.fB).l1 dC)).mono ?_;rintro e w3 ⟨vf,rfl,hf,R⟩;have R:Below w2.heap.size w2 w3:=bD R;obtain⟨sf,Af,lf,cf,rfl⟩:=hf.shape;have X:=lH hf;replace F:=lH (F.o.below R);replace C:=lH (C.o.below R);replace U:=lH (U.o.below R);replace E:=rW E R;replace RB:=rW RB R;replace r:=rW r R;replace t:=bT t R;replace h:=bT h R
      clear R ai _t hf)
   | (go_at_call 142
      have _t:=aj;refine(ji _ a _ (by exact F.o)).mono ?_;rintro e w4 ⟨vg,rfl,hg,O⟩;have O:Below w3.heap.size w3 w4:=bD O;obtain⟨sg,Ag,lg,cg,rfl⟩:=hg.shape;have Vg:=lH hg;replace F:=lH (F.o.below O);replace C:=lH (C.o.below O);replace U:=lH (U.o.below O);replace X:=lH (X.o.below O);replace E:=rW E O;replace RB:=rW RB O;replace r:=rW r O;replace t:=bT t O;replace h:=bT h O
      clear O aj _t hg)
   | (go_at_call 141
      have _t:=ak;refine(jr _ _ (a.den:Int) b.num _ (by exact Vg.o) (by exact C.o.parts.1) ((a0.o.fB).l1 dC) ((a1.o.fE).l1 dC)).mono ?_;rintro e w5 ⟨vh,rfl,hh,M⟩;have M:Below w4.heap.size w4 w5:=bD M;obtain⟨sh,Ah,lh,ch,rfl⟩:=hh.shape;have Vh:=lH hh;replace F:=lH (F.o.below M);replace C:=lH (C.o.below M);replace U:=lH (U.o.below M);replace X:=lH (X.o.below M);replace Vg:=lH (Vg.o.below M);replace E:=rW E M;replace RB:=rW RB M;replace r:=rW r M;replace t:=bT t M;replace h:=bT h M
      clear M ak _t hh)
   | (go_at_call 154
      have _t:=al;refine(qJ _ _ (a.num* (b.den:Int)) ((a.den:Int)*b.num) _ (by exact X.o) (by exact Vh.o) (by have h1:=a.den_nz;exact Int.mul_ne_zero oM am.o) ((a0.o.fE.mul a1.o.fB).mono dC) ((a0.o.fB.mul a1.o.fE).mono dC)).mono ?_;rintro e w6 ⟨vr,rfl,V,G⟩;have G:Below w5.heap.size w5 w6:=bD G;obtain⟨sr,Ar,lr,cr,tr,Br,mr,dr,rfl⟩:=V.shape;have Vr:=lH V;replace F:=lH (F.o.below G);replace C:=lH (C.o.below G);replace U:=lH (U.o.below G);replace X:=lH (X.o.below G);replace Vg:=lH (Vg.o.below G);replace Vh:=lH (Vh.o.below G);replace E:=rW E G;replace RB:=rW RB G;replace r:=rW r G;replace t:=bT t G;replace h:=bT h G;rw[FC] at V;replace Vr:=lH V;have V:=iY r.o dC oM t.o Vr.o;have ad:=lH V;clear V;obtain⟨aq,ax,ar,ay,au,az,av,aA⟩:=aF4 r.o;have aB:=r.o.lt
      clear G al _t V))
 clear ao a2 a4 a6 a8 ap a3 a5 a7 a9 KS h ac KT;go_wp2_with fail
 refine bodyPost_ret (v:= .tuple #[.agg #[.bool sr, .slice Ar lr cr, .bool tr, .slice Br mr dr], .int .i64 0]) (by simp[results,results179,go_sem,aq,ar,au,av]) rfl ?_;exact⟨_,rfl,ad.o.1,ad.o.2⟩
set_option maxHeartbeats 1600000 in
theorem zg(X Y:Value)(a b:Rat)(w:World)(E:eO w X a)(F:eO w Y b)(R:b≠0)(T:RL 1000000000000 a)(U:RL 1000000000000 b):
  Calls prog 152 #[X,Y] w fun e w'=>∃v,e= .returned v /\ eO w' v (a / b) /\ Below w.heap.size w w':=by
 obtain⟨sa,Z,la,ca,ta,Ba,ma,da,rfl⟩:=E.shape;obtain⟨sb,Ab,lb,cb,tb,Bb,mb,db,rfl⟩:=F.shape;have a1:=lH T;have a2:=lH U;have a0:=lH R;clear T U R;obtain⟨W,O,t,RB,h,r⟩:=eN3 w [.bool sa, .slice Z la ca, .bool ta, .slice Ba ma da] 105 [.bool sb, .slice Ab lb cb, .bool tb, .slice Bb mb db] 105 [.bool false, .slice none 0 0, .bool false, .slice none 0 0] 105;have VA:=lH ((E).below r.o);have VB:=lH ((F).below r.o);clear E F;have k0:=aI 0 t;have j0:=aI 0 RB;have k1:=aI 1 t;have j1:=aI 1 RB;have k2:=aI 2 t;have j2:=aI 2 RB;have k3:=aI 3 t;have j3:=aI 3 RB;have kl:=t.o.lt;have jl:=RB.o.lt;go_enter func152,ntmps152;go_wp2_with fail
 rw[<- O];clear O;refine(FE _ _ a b _ VA.o VB.o a0.o a1.o a2.o).mono ?_;rintro e w1 ⟨vq,rfl,M,G⟩;obtain⟨sq,Aq,lq,cq,tq,Bq,mq,dq,rfl⟩:=M.shape;have Vq:=lH M;clear M;replace h:=rW h G;replace r:=bT r G;clear G k0 k1 k2 k3 j0 j1 j2 j3 kl jl;obtain⟨a3,a4,a5,a6⟩:=aT4 h.o;have a7:=h.o.lt;have a8:=h.o.free 0;have a9:=h.o.free 1;have aa:=h.o.free 2;have ab:=h.o.free 3;have V:=iY h.o dC oM r.o Vq.o;have C:=lH V;clear V;go_wp2_with fail
 refine bodyPost_ret (v:= .agg #[.bool sq, .slice Aq lq cq, .bool tq, .slice Bq mq dq]) (by simp[results,results152,go_sem,a3,a4,a5,a6,a7]) rfl ?_;exact⟨_,rfl,C.o.1.below (eD _ _),C.o.2.trans ((eD _ _).mono C.o.2.size)⟩
end
section
open Go.RowKit
open Lp (RL)
set_option maxHeartbeats 3200000 in
theorem sM(va vb:Value)(a b:Rat)(w:World)(ha:eO w va a)(hb:eO w vb b)(aq:RL 1000000000000 a)(ar:RL 1000000000000 b):
  Calls prog 119 #[va,vb] w fun e w'=>e= .returned (.int .i64 (jq a b)) /\ Below w.heap.size w w':=by
 obtain⟨sa,Aa,la,ca,ta,Ba,ma,da,rfl⟩:=ha.shape;obtain⟨sb,Ab,lb,cb,tb,Bb,mb,db,rfl⟩:=hb.shape;have Y:=lH aq;have a0:=lH ar;clear aq ar;by_cases ag:a.den=1
 ·have ao:=lH ag;clear ag;obtain⟨W,hW,h,RB,r⟩:=eN2 w [.bool sa, .slice Aa la ca, .bool ta, .slice Ba ma da] 105 [.bool sb, .slice Ab lb cb, .bool tb, .slice Bb mb db] 105;have t:=lH ((ha).below r.o);have E:=lH ((hb).below r.o);clear ha hb;obtain⟨k0,k1,k2,k3⟩:=aT4 h.o;have kl:=h.o.lt;go_enter func119,ntmps119;go_wp2_with fail
  rw[<- hW];clear hW;refine(lG _ a _ t.o (Y.o.mono dC)).mono ?_;rintro e w1 ⟨rfl,T⟩;replace t:=lH (t.o.below T);replace E:=lH (E.o.below T);replace h:=rW h T;replace RB:=rW RB T;replace r:=bT r T;clear T;clear k0 k1 k2 k3 kl;rw[show decide (a.den=1)=true from by simpa using ao.o];obtain⟨aj,ak,al,am⟩:=aT4 RB.o;have an:=RB.o.lt;go_wp2_with fail
  clear aj ak al am an;refine(lG _ b _ E.o (a0.o.mono dC)).mono ?_;rintro e w2 ⟨rfl,U⟩;replace t:=lH (t.o.below U);replace E:=lH (E.o.below U);replace h:=rW h U;replace RB:=rW RB U;replace r:=bT r U;clear U;by_cases T:b.den=1
  ·rw[show decide (b.den=1)=true from by simpa using T];have au:=lH T;clear T;obtain⟨av,aw,ax,ay⟩:=aT4 h.o;have az:=h.o.lt;obtain⟨aj,ak,al,am⟩:=aT4 RB.o;have an:=RB.o.lt;go_wp2_with fail
   clear av aw ax ay az aj ak al am an;refine(jK _ _ a.num b.num _ t.o.parts.1 E.o.parts.1 ((Y.o.fE).l1 dC) ((a0.o.fE).l1 dC)).mono ?_;rintro e w3 ⟨rfl,M⟩;replace r:=bT r M;clear M;go_wp2_with fail
   go_returns;exact⟨by rw[<- FD ao.o au.o];rfl,r.o⟩
  ·rw[show decide (b.den=1)=false from by simpa using T];clear T;go_wp2_with fail
   have C:=rG w2;have a1:Hid (Below w2.heap.size w2 w2.drew):=lH (Below.refl _ _).drew;have ah:=h.o.lt;obtain⟨a2,a4,a6,a8⟩:=aT4 h.o;have ai:=RB.o.lt;obtain⟨a3,a5,a7,a9⟩:=aT4 RB.o;have Z:=lH (kC a2 (kC a4 (kC a6 (kC a8 (kC a3 (kC a5 (kC a7 (kN a9))))))));have ab:True:=trivial;have ac:True:=trivial;have ad:True:=trivial;have ae:True:=trivial;have af:True:=trivial
   go_region_held3 (fun w'=> w'.cell? ⟨w.heap.size,0,none⟩=some (.bool sa) /\ w'.cell? ⟨w.heap.size,1,none⟩=some (.slice Aa la ca) /\ w'.cell? ⟨w.heap.size,2,none⟩=some (.bool ta) /\ w'.cell? ⟨w.heap.size,3,none⟩=some (.slice Ba ma da) /\ w'.cell? ⟨(w.heap.size+1),0,none⟩=some (.bool sb) /\ w'.cell? ⟨(w.heap.size+1),1,none⟩=some (.slice Ab lb cb) /\ w'.cell? ⟨(w.heap.size+1),2,none⟩=some (.bool tb) /\ w'.cell? ⟨(w.heap.size+1),3,none⟩=some (.slice Bb mb db))
    (first | (with_reducible exact Z.o _ a1.o) | (with_reducible exact Z.o _ C.o) | (exact Z.o _ (C.o.trans ((eD _ _).mono C.o.size))) | (exact Z.o _ (C.o.trans (((eD _ _).drew).mono C.o.size))) | go_keep)
    (first
     | (go_at_call 142
        have _t:=ab;refine(ji _ b _ (by exact E.o)).mono ?_;rintro e w3 ⟨ve,rfl,he,M⟩;have M:Below w2.heap.size w2 w3:=bD M;obtain⟨se,Ae,le,ce,rfl⟩:=he.shape;have R:=lH he;replace t:=lH (t.o.below M);replace E:=lH (E.o.below M);replace h:=rW h M;replace RB:=rW RB M;replace r:=bT r M;replace C:=bT C M
        clear M ab _t he)
     | (go_at_call 141
        have _t:=ac;refine(jr _ _ a.num (b.den:Int) _ (by exact t.o.parts.1) (by exact R.o) ((Y.o.fE).l1 dC) ((a0.o.fB).l1 dC)).mono ?_;rintro e w4 ⟨vf,rfl,hf,O⟩;have O:Below w3.heap.size w3 w4:=bD O;obtain⟨sf,Af,lf,cf,rfl⟩:=hf.shape;have V:=lH hf;replace t:=lH (t.o.below O);replace E:=lH (E.o.below O);replace R:=lH (R.o.below O);replace h:=rW h O;replace RB:=rW RB O;replace r:=bT r O;replace C:=bT C O
        clear O ac _t hf)
     | (go_at_call 142
        have _t:=ad;refine(ji _ a _ (by exact t.o)).mono ?_;rintro e w5 ⟨vg,rfl,hg,G⟩;have G:Below w4.heap.size w4 w5:=bD G;obtain⟨sg,Ag,lg,cg,rfl⟩:=hg.shape;have Vg:=lH hg;replace t:=lH (t.o.below G);replace E:=lH (E.o.below G);replace R:=lH (R.o.below G);replace V:=lH (V.o.below G);replace h:=rW h G;replace RB:=rW RB G;replace r:=bT r G;replace C:=bT C G
        clear G ad _t hg)
     | (go_at_call 141
        have _t:=ae;refine(jr _ _ b.num (a.den:Int) _ (by exact E.o.parts.1) (by exact Vg.o) ((a0.o.fE).l1 dC) ((Y.o.fB).l1 dC)).mono ?_;rintro e w6 ⟨vh,rfl,hh,F⟩;have F:Below w5.heap.size w5 w6:=bD F;obtain⟨sh,Ah,lh,ch,rfl⟩:=hh.shape;have Vh:=lH hh;replace t:=lH (t.o.below F);replace E:=lH (E.o.below F);replace R:=lH (R.o.below F);replace V:=lH (V.o.below F);replace Vg:=lH (Vg.o.below F);replace h:=rW h F;replace RB:=rW RB F;replace r:=bT r F;replace C:=bT C F
        clear F ae _t hh)
     | (go_at_call 133
        have _t:=af;refine(jK _ _ (a.num* (b.den:Int)) (b.num* (a.den:Int)) _ (by exact V.o) (by exact Vh.o) ((Y.o.fE.mul a0.o.fB).l1 dC) ((a0.o.fE.mul Y.o.fB).l1 dC)).mono ?_;rintro e w7 ⟨rfl,X⟩;have X:Below w6.heap.size w6 w7:=bD X;replace t:=lH (t.o.below X);replace E:=lH (E.o.below X);replace R:=lH (R.o.below X);replace V:=lH (V.o.below X);replace Vg:=lH (Vg.o.below X);replace Vh:=lH (Vh.o.below X);replace h:=rW h X;replace RB:=rW RB X;replace r:=bT r X;replace C:=bT C X
        clear X af _t))
   clear ah a2 a4 a6 a8 ai a3 a5 a7 a9 Z C a1;go_wp2_with fail
   go_returns;exact⟨by rw[<- sJ];rfl,r.o⟩
 ·obtain⟨W,hW⟩:=eX (((w.alloc (.cells #[.bool sa, .slice Aa la ca, .bool ta, .slice Ba ma da] 105)).alloc (.cells #[.bool sb, .slice Ab lb cb, .bool tb, .slice Bb mb db] 105)));obtain⟨r0,r1,ap,aa⟩:=rA w (.cells #[.bool sa, .slice Aa la ca, .bool ta, .slice Ba ma da] 105) (.cells #[.bool sb, .slice Ab lb cb, .bool tb, .slice Bb mb db] 105);rw[<- hW] at r0 r1 ap aa;have h:Hid (Row W w.heap.size 105 [.bool sa, .slice Aa la ca, .bool ta, .slice Ba ma da]):=lH r0;have RB:Hid (Row W (w.heap.size+1) 105 [.bool sb, .slice Ab lb cb, .bool tb, .slice Bb mb db]):=lH r1;have t:=lH ((ha).below aa);have E:=lH ((hb).below aa);have r:=lH aa;clear r0 r1 ap aa;clear ha hb;obtain⟨k0,k1,k2,k3⟩:=aT4 h.o;have kl:=h.o.lt;go_enter func119,ntmps119;go_wp2_with fail
  rw[<- hW];clear hW;refine(lG _ a _ t.o (Y.o.mono dC)).mono ?_;rintro e w1 ⟨rfl,T⟩;replace t:=lH (t.o.below T);replace E:=lH (E.o.below T);replace h:=rW h T;replace RB:=rW RB T;replace r:=bT r T;clear T;clear k0 k1 k2 k3 kl;rw[show decide (a.den=1)=false from by simpa using ag];clear ag;go_wp2_with fail
  have C:=rG w1;have a1:Hid (Below w1.heap.size w1 w1.drew):=lH (Below.refl _ _).drew;have ah:=h.o.lt;obtain⟨a2,a4,a6,a8⟩:=aT4 h.o;have ai:=RB.o.lt;obtain⟨a3,a5,a7,a9⟩:=aT4 RB.o;have Z:=lH (kC a2 (kC a4 (kC a6 (kC a8 (kC a3 (kC a5 (kC a7 (kN a9))))))));have ab:True:=trivial;have ac:True:=trivial;have ad:True:=trivial;have ae:True:=trivial;have af:True:=trivial
  go_region_held3 (fun w'=> w'.cell? ⟨w.heap.size,0,none⟩=some (.bool sa) /\ w'.cell? ⟨w.heap.size,1,none⟩=some (.slice Aa la ca) /\ w'.cell? ⟨w.heap.size,2,none⟩=some (.bool ta) /\ w'.cell? ⟨w.heap.size,3,none⟩=some (.slice Ba ma da) /\ w'.cell? ⟨(w.heap.size+1),0,none⟩=some (.bool sb) /\ w'.cell? ⟨(w.heap.size+1),1,none⟩=some (.slice Ab lb cb) /\ w'.cell? ⟨(w.heap.size+1),2,none⟩=some (.bool tb) /\ w'.cell? ⟨(w.heap.size+1),3,none⟩=some (.slice Bb mb db))
   (first | (with_reducible exact Z.o _ a1.o) | (with_reducible exact Z.o _ C.o) | (exact Z.o _ (C.o.trans ((eD _ _).mono C.o.size))) | (exact Z.o _ (C.o.trans (((eD _ _).drew).mono C.o.size))) | go_keep)
   (first
    | (go_at_call 142
       have _t:=ab;refine(ji _ b _ (by exact E.o)).mono ?_;rintro e w2 ⟨ve,rfl,he,U⟩;have U:Below w1.heap.size w1 w2:=bD U;obtain⟨se,Ae,le,ce,rfl⟩:=he.shape;have R:=lH he;replace t:=lH (t.o.below U);replace E:=lH (E.o.below U);replace h:=rW h U;replace RB:=rW RB U;replace r:=bT r U;replace C:=bT C U
       clear U ab _t he)
    | (go_at_call 141
       have _t:=ac;refine(jr _ _ a.num (b.den:Int) _ (by exact t.o.parts.1) (by exact R.o) ((Y.o.fE).l1 dC) ((a0.o.fB).l1 dC)).mono ?_;rintro e w3 ⟨vf,rfl,hf,M⟩;have M:Below w2.heap.size w2 w3:=bD M;obtain⟨sf,Af,lf,cf,rfl⟩:=hf.shape;have V:=lH hf;replace t:=lH (t.o.below M);replace E:=lH (E.o.below M);replace R:=lH (R.o.below M);replace h:=rW h M;replace RB:=rW RB M;replace r:=bT r M;replace C:=bT C M
       clear M ac _t hf)
    | (go_at_call 142
       have _t:=ad;refine(ji _ a _ (by exact t.o)).mono ?_;rintro e w4 ⟨vg,rfl,hg,O⟩;have O:Below w3.heap.size w3 w4:=bD O;obtain⟨sg,Ag,lg,cg,rfl⟩:=hg.shape;have Vg:=lH hg;replace t:=lH (t.o.below O);replace E:=lH (E.o.below O);replace R:=lH (R.o.below O);replace V:=lH (V.o.below O);replace h:=rW h O;replace RB:=rW RB O;replace r:=bT r O;replace C:=bT C O
       clear O ad _t hg)
    | (go_at_call 141
       have _t:=ae;refine(jr _ _ b.num (a.den:Int) _ (by exact E.o.parts.1) (by exact Vg.o) ((a0.o.fE).l1 dC) ((Y.o.fB).l1 dC)).mono ?_;rintro e w5 ⟨vh,rfl,hh,G⟩;have G:Below w4.heap.size w4 w5:=bD G;obtain⟨sh,Ah,lh,ch,rfl⟩:=hh.shape;have Vh:=lH hh;replace t:=lH (t.o.below G);replace E:=lH (E.o.below G);replace R:=lH (R.o.below G);replace V:=lH (V.o.below G);replace Vg:=lH (Vg.o.below G);replace h:=rW h G;replace RB:=rW RB G;replace r:=bT r G;replace C:=bT C G
       clear G ae _t hh)
    | (go_at_call 133
       have _t:=af;refine(jK _ _ (a.num* (b.den:Int)) (b.num* (a.den:Int)) _ (by exact V.o) (by exact Vh.o) ((Y.o.fE.mul a0.o.fB).l1 dC) ((a0.o.fE.mul Y.o.fB).l1 dC)).mono ?_;rintro e w6 ⟨rfl,F⟩;have F:Below w5.heap.size w5 w6:=bD F;replace t:=lH (t.o.below F);replace E:=lH (E.o.below F);replace R:=lH (R.o.below F);replace V:=lH (V.o.below F);replace Vg:=lH (Vg.o.below F);replace Vh:=lH (Vh.o.below F);replace h:=rW h F;replace RB:=rW RB F;replace r:=bT r F;replace C:=bT C F
       clear F af _t))
  clear ah a2 a4 a6 a8 ai a3 a5 a7 a9 Z C a1;go_wp2_with fail
  go_returns;exact⟨by rw[<- sJ];rfl,r.o⟩
end
section
open Go.RowKit
open Lp (RL upd)
theorem ic:105≠160:=dC
def RB(w:World)(g n:Nat)(f:Nat -> Rat):Prop:=
 ∃cs:List Value,Row w g 105 cs /\ n*4 <= cs.length /\ ∀j,j<n -> ∃s A l c t B m d,cs[j*4]? =some (.bool s) /\ cs[j*4+1]? =some (.slice A l c) /\ cs[j*4+2]? =some (.bool t) /\ cs[j*4+3]? =some (.slice B m d) /\
  eO w (.agg #[.bool s, .slice A l c, .bool t, .slice B m d]) (f j)
section
variable {w w':World} {g n:Nat} {f:Nat -> Rat}
theorem RB.lt(h:RB w g n f):g<w.heap.size:=by obtain⟨cs,r,_⟩:=h;exact r.lt
theorem RB.below(h:RB w g n f)(r:Below w.heap.size w w'):RB w' g n f:=by
 obtain⟨cs,C,T,O⟩:=h;refine⟨cs,C.below r C.lt,T,fun j R=> ?_⟩;obtain⟨s,A,l,c,t,B,m,d,h1,E,F,G,M⟩:=O j R;exact⟨s,A,l,c,t,B,m,d,h1,E,F,G,M.below r⟩
theorem RB.other{g':Nat}{e:TypeId}{C:List Value}(h:RB w g n f)(r:w.grownBy w' (some g'))(X:Row w g' e C)(R:e≠160)(V:g≠g'):RB w' g n f:=by
 obtain⟨cs,W,U,O⟩:=h;refine⟨cs,W.other r V,U,fun j T=> ?_⟩;obtain⟨s,A,l,c,t,B,m,d,h1,E,F,G,M⟩:=O j T;exact⟨s,A,l,c,t,B,m,d,h1,E,F,G,M.other r X R⟩
theorem RB.take{k:Nat}(h:RB w g n f)(E:k <= n):RB w g k f:=by
 obtain⟨cs,t,F,r⟩:=h;exact⟨cs,t,by omega,fun j C=>r j oM⟩
theorem RB.congr{f':Nat -> Rat}(h:RB w g n f)(C:∀j,j<n -> f j=f' j):RB w g n f':=by
 obtain⟨cs,F,E,t⟩:=h;exact⟨cs,F,E,fun j r=>by rw[<- C j r];exact t j r⟩
theorem RB.row(h:RB w g n f):∃cs,Row w g 105 cs:=by obtain⟨cs,r,_⟩:=h;exact⟨cs,r⟩
theorem RB.at_(h:RB w g n f){j:Nat}(O:j<n):∃s A l c t B m d,w.cell? ⟨g,j*4,none⟩=some (.bool s) /\ w.cell? ⟨g,j*4+1,none⟩=some (.slice A l c) /\ w.cell? ⟨g,j*4+2,none⟩=some (.bool t) /\ w.cell? ⟨g,j*4+3,none⟩=some (.slice B m d) /\
  eO w (.agg #[.bool s, .slice A l c, .bool t, .slice B m d]) (f j):=by
 obtain⟨cs,r,R,M⟩:=h;obtain⟨s,A,l,c,t,B,m,d,h1,C,E,F,G⟩:=M j O;exact⟨s,A,l,c,t,B,m,d,r.at_ _ h1,r.at_ _ C,r.at_ _ E,r.at_ _ F,G⟩
theorem RB.free(h:RB w g n f)(j:Nat): w.frozen? ⟨g,j,none⟩=false:=by obtain⟨cs,r,_⟩:=h;exact r.free j
theorem RB.set(h:RB w g n f){j:Nat}{x y z u:Value}{q:Rat}(W:j<n)(E:eO w (.agg #[x,y,z,u]) q):
  RB ((((w.setCell ⟨g,j*4,none⟩ x).setCell ⟨g,j*4+1,none⟩ y).setCell ⟨g,j*4+2,none⟩ z).setCell ⟨g,j*4+3,none⟩ u) g n (upd f j q):=by
 obtain⟨cs,r,V,T⟩:=h;have C:=il w g (j*4) (j*4+1) (j*4+2) (j*4+3) x y z u;refine⟨_,(((r.set _ x).set _ y).set _ z).set _ u,by simpa using V,fun i U=> ?_⟩;by_cases e:i=j
 ·subst e;obtain⟨s,A,l,c,t,B,m,d,F⟩:=E.shape;simp only[Value.agg.injEq] at F;obtain⟨rfl,rfl,rfl,rfl⟩:x= .bool s /\ y= .slice A l c /\ z= .bool t /\ u= .slice B m d:=by simpa using F
  refine⟨s,A,l,c,t,B,m,d,?_,?_,?_,?_,by rw[Lp.upd_same];exact E.other C r ic⟩ <;> simp[List.getElem?_set] <;> omega
 ·obtain⟨s,A,l,c,t,B,m,d,h1,G,M,O,R⟩:=T i U;refine⟨s,A,l,c,t,B,m,d,?_,?_,?_,?_,by rw[Lp.eT _ _ e];exact R.other C r ic⟩
  ·rw[List.getElem?_set_ne oM,List.getElem?_set_ne oM,List.getElem?_set_ne oM,List.getElem?_set_ne oM];exact h1
  ·rw[List.getElem?_set_ne oM,List.getElem?_set_ne oM,List.getElem?_set_ne oM,List.getElem?_set_ne oM];exact G
  ·rw[List.getElem?_set_ne oM,List.getElem?_set_ne oM,List.getElem?_set_ne oM,List.getElem?_set_ne oM];exact M
  ·rw[List.getElem?_set_ne oM,List.getElem?_set_ne oM,List.getElem?_set_ne oM,List.getElem?_set_ne oM];exact O
end
def eZ(w:World)(v:Value)(n:Nat)(f:Nat -> Rat):Prop:=∃A c,v= .slice A n c /\ n <= c /\ c <= maxLen /\ (n=0 \/ ∃g,A=some ⟨g,0,none⟩ /\ RB w g n f)
theorem eZ.below{w w':World}{v:Value}{n:Nat}{f:Nat -> Rat}(h:eZ w v n f)(E:Below w.heap.size w w'):eZ w' v n f:=by
 obtain⟨A,c,G,h1,r,t⟩:=h;exact⟨A,c,G,h1,r,t.imp id fun⟨g,C,F⟩=>⟨g,C,F.below E⟩⟩
theorem eZ.congr{w:World}{v:Value}{n:Nat}{f f':Nat -> Rat}(h:eZ w v n f)(E:∀j,j<n -> f j=f' j):eZ w v n f':=by
 obtain⟨A,c,G,h1,r,t⟩:=h;exact⟨A,c,G,h1,r,t.imp id fun⟨g,C,F⟩=>⟨g,C,F.congr E⟩⟩
theorem iZ{q:Rat}:sgI q.num=0↔q=0:=by
 rw[<- Rat.num_eq_zero];unfold sgI;split
 ·constructor <;> intro h <;> omega
 ·split
  ·simp[*]
  ·constructor <;> intro h <;> omega
theorem cell_below{w w':World}{b o:Nat}{v:Value}(r:Below w.heap.size w w')(h: w.cell? ⟨b,o,none⟩=some v): w'.cell? ⟨b,o,none⟩=some v:=(r.cell (World.block_lt_of_cell? w _ h)).trans h
theorem fP{w w':World}{b o g:Nat}{v:Value}(r:w.grownBy w' (some g))(t:b≠g)(h: w.cell? ⟨b,o,none⟩=some v): w'.cell? ⟨b,o,none⟩=some v:=r.cell h (by simp;exact t)
theorem eG{w:World}{b o:Nat}{v:Value}(h: w.cell? ⟨b,o,none⟩=some v):b<w.heap.size:= World.block_lt_of_cell? w _ h
def kw(w:World)(b o:Nat)(x y z u:Value):Prop:= w.cell? ⟨b,o,none⟩=some x /\ w.cell? ⟨b,o+1,none⟩=some y /\ w.cell? ⟨b,o+2,none⟩=some z /\ w.cell? ⟨b,o+3,none⟩=some u
theorem kw.lt{w:World}{b o:Nat}{x y z u:Value}(h:kw w b o x y z u):b<w.heap.size:= World.block_lt_of_cell? w _ h.1
theorem kw.below{w w':World}{b o:Nat}{x y z u:Value}(h:kw w b o x y z u)(r:Below w.heap.size w w'):kw w' b o x y z u:=
 ⟨(r.cell h.lt).trans h.1,(r.cell (p:=⟨b,o+1,none⟩) h.lt).trans h.2.1,(r.cell (p:=⟨b,o+2,none⟩) h.lt).trans h.2.2.1,(r.cell (p:=⟨b,o+3,none⟩) h.lt).trans h.2.2.2⟩
theorem kw.other{w w':World}{b o g:Nat}{x y z u:Value}(h:kw w b o x y z u)(r:w.grownBy w' (some g))(t:b≠g):kw w' b o x y z u:=
 ⟨r.cell h.1 (by simp;exact t),r.cell h.2.1 (by simp;exact t),r.cell h.2.2.1 (by simp;exact t),r.cell h.2.2.2 (by simp;exact t)⟩
theorem RB.fO{w:World}{g n:Nat}{f:Nat -> Rat}(h:RB w g n f){j:Nat}(G:j<n):∃s A l c t B m d,kw w g (j*4) (.bool s) (.slice A l c) (.bool t) (.slice B m d) /\ eO w (.agg #[.bool s, .slice A l c, .bool t, .slice B m d]) (f j):=by
 obtain⟨s,A,l,c,t,B,m,d,h1,r,C,E,F⟩:=h.at_ G;exact⟨s,A,l,c,t,B,m,d,⟨h1,r,C,E⟩,F⟩
def AtQ(w:World)(g:Nat)(q:Rat):Prop:=∃s A l c t B m d,Row w g 105 [.bool s, .slice A l c, .bool t, .slice B m d] /\ eO w (.agg #[.bool s, .slice A l c, .bool t, .slice B m d]) q
theorem AtQ.mk{w:World}{g:Nat}{q:Rat}{s t:Bool}{A B:Option Addr}{l c m d:Nat}(h:Row w g 105 [.bool s, .slice A l c, .bool t, .slice B m d])(r:eO w (.agg #[.bool s, .slice A l c, .bool t, .slice B m d]) q):AtQ w g q:=⟨s,A,l,c,t,B,m,d,h,r⟩
theorem AtQ.below{w w':World}{g:Nat}{q:Rat}(h:AtQ w g q)(r:Below w.heap.size w w'):AtQ w' g q:=by
 obtain⟨s,A,l,c,t,B,m,d,C,E⟩:=h;exact⟨s,A,l,c,t,B,m,d,C.below r C.lt,E.below r⟩
open Lp (eB sumTo)
theorem vB(n:Nat)(a b:Nat -> Rat):eB (n+1) a b=eB n a b+a n*b n:=rfl
structure Chg (S:Nat -> Prop) (w w':World):Prop where
 os:w'.os=w.os
 tape:w'.tape=w.tape
 output:w'.output=w.output
 size:w.heap.size <= w'.heap.size
 block:∀k,k<w.heap.size -> ¬S k -> w'.heap[k]? =w.heap[k]?
section
variable {S:Nat -> Prop} {w w' w'':World}
theorem Chg.refl(S:Nat -> Prop)(w:World):Chg S w w:=⟨rfl,rfl,rfl,Nat.le_refl _,fun _ _ _=>rfl⟩
theorem Chg.of_below(h:Below w.heap.size w w'):Chg S w w':=⟨h.os,h.tape,h.output,h.size,fun k r _=>h.block k r⟩
theorem Chg.ig(h:Chg S w w')(r:Below w'.heap.size w' w''):Chg S w w'':=
 ⟨r.os.trans h.os,r.tape.trans h.tape,r.output.trans h.output,Nat.le_trans h.size r.size,fun k t C=>(r.block k (Nat.lt_of_lt_of_le t h.size)).trans (h.block k t C)⟩
theorem Chg.jD{g:Nat}(h:Chg S w w')(r:w'.grownBy w'' (some g))(t:S g \/ w.heap.size <= g):Chg S w w'':=
 ⟨r.os.trans h.os,r.tape.trans h.tape,r.output.trans h.output,Nat.le_trans h.size r.size,fun k C E=>(r.block k (Nat.lt_of_lt_of_le C h.size) (fun e=>by
  simp only[Option.some.injEq] at e;subst e
  rcases t with t | t
  ·exact E t
  ·omega)).trans (h.block k C E)⟩
theorem Chg.trans{T:Nat -> Prop}(h:Chg S w w')(r:Chg T w' w'')(E:∀k,T k -> S k \/ w.heap.size <= k):Chg S w w'':=
 ⟨r.os.trans h.os,r.tape.trans h.tape,r.output.trans h.output,Nat.le_trans h.size r.size,fun k t C=>(r.block k (Nat.lt_of_lt_of_le t h.size) (fun F=>by
  rcases E k F with h1 | h1
  ·exact C h1
  ·omega)).trans (h.block k t C)⟩
theorem Chg.below(h:Chg S w w'){B:Nat}(C:B <= w.heap.size)(r:∀k,S k -> B <= k):Below B w w':=
 ⟨h.os,h.tape,h.output,h.size,fun k E=>h.block k oM (fun t=>by have:=r k t;omega)⟩
def jd(S:Nat -> Prop)(w:World):Prop:=∀k,S k -> ∃e cs,Row w k e cs /\ e≠160
theorem U32.chg{A:Option Addr}{l:List Nat}(h:U32 w A l)(F:Chg S w w')(R:jd S w):U32 w' A l:=by
 rcases h with h | ⟨b,C,E,G,r⟩
 ·exact .inl h
 ·have t:w'.heap[b]? =w.heap[b]? :=F.block b r.lt fun U=>by
   obtain⟨e,cs,T,M⟩:=R b U;exact z8 T M r rfl
  exact .inr ⟨b,C,E,fun j O=>(World.cell?_of_block (a:=⟨b,C+j,none⟩) t).trans (G j O),r.mJ t⟩
theorem eQ.chg{v:Value}{n:Int}(h:eQ w v n)(C:Chg S w w')(E:jd S w):eQ w' v n:=by
 obtain⟨A,c,F,h1,r,t⟩:=h;exact⟨A,c,F,h1,r,t.chg C E⟩
theorem eO.chg{v:Value}{q:Rat}(h:eO w v q)(r:Chg S w w')(C:jd S w):eO w' v q:=by
 obtain⟨s,A,l,c,t,B,m,d,G,h1,y,E,F⟩:=h;exact⟨s,A,l,c,t,B,m,d,G,h1.chg r C,y,E.chg r C,F⟩
theorem Row.chg{g:Nat}{e:TypeId}{cs:List Value}(h:Row w g e cs)(r:Chg S w w')(t:¬S g):Row w' g e cs:=(r.block g h.lt t).trans h
theorem RB.chg{g n:Nat}{f:Nat -> Rat}(h:RB w g n f)(r:Chg S w w')(T:jd S w)(V:¬S g):RB w' g n f:=by
 obtain⟨cs,U,R,M⟩:=h;refine⟨cs,U.chg r V,R,fun j O=> ?_⟩;obtain⟨s,A,l,c,t,B,m,d,h1,C,E,F,G⟩:=M j O;exact⟨s,A,l,c,t,B,m,d,h1,C,E,F,G.chg r T⟩
theorem jd.rb{g n:Nat}{f:Nat -> Rat}(h:RB w g n f):jd (fun k=>k=g) w:=fun k r=>by
 subst r;obtain⟨cs,t⟩:=h.row;exact⟨_,_,t,ic⟩
end
end
section
open Go.RowKit
open Lp (RL upd)
theorem FH{f p:Nat -> Rat}{q:Rat}{k:Nat}(h:p k=0)(j:Nat):(if j<k then f j-q*p j else f j)=(if j<k+1 then f j-q*p j else f j):=by
 by_cases e:j=k
 ·subst e;rw[if_neg (Nat.lt_irrefl _),if_pos oM,h];grind
 ·by_cases r:j<k
  ·rw[if_pos r,if_pos oM]
  ·rw[if_neg r,if_neg oM]
theorem FI{f p:Nat -> Rat}{q:Rat}{k:Nat}(j:Nat):upd (fun j=>if j<k then f j-q*p j else f j) k (f k-q*p k) j=(if j<k+1 then f j-q*p j else f j):=by
 by_cases e:j=k
 ·subst e;rw[Lp.upd_same,if_pos oM]
 ·rw[Lp.eT _ _ e];by_cases h:j<k
  ·rw[if_pos h,if_pos oM]
  ·rw[if_neg h,if_neg oM]
set_option maxHeartbeats 3200000 in
theorem vC(g h ca cb n nb:Nat)(f p:Nat -> Rat)(vq:Value)(q:Rat)(w:World)(hf:RB w g n f)(hp:RB w h nb p)(b2:g≠h)(hn:n <= nb)(b3:n <= 9223372036854775807)(hq:eO w vq q)
  (aw:∀j,j<n -> RL 400000000000 (f j)) (ax:∀j,j<n -> RL 400000000000 (p j)) (ay:RL 400000000000 q):
  Calls prog 150 #[.slice (some ⟨g,0,none⟩) n ca, .slice (some ⟨h,0,none⟩) nb cb,vq] w fun e w'=>e= .returned (.tuple #[]) /\ RB w' g n (fun j=>f j-q*p j) /\ Chg (fun k=>k=g) w w':=by
 obtain⟨sq,Aq,lq,cq,tq,Bq,mq,dq,rfl⟩:=hq.shape;have aE:=lH aw;have ab:=lH ax;have ac:=lH ay;have aY:=hf.lt;have aZ:=hp.lt;clear aw ax ay;by_cases h0:q=0
 ·have X:sgI q.num=0:=iZ.2 h0;have HZ:=lH X;have H0:=lH h0;clear X h0;obtain⟨W,hW,C,r⟩:=eN1 w [.bool sq, .slice Aq lq cq, .bool tq, .slice Bq mq dq] 105;have E:=lH ((hq).below r.o);have t:=lH ((hf).below r.o);have F:=lH ((hp).below r.o);clear hq hf hp;replace r:Hid (Chg (fun k=>k=g) w W):=lH (Chg.of_below r.o);obtain⟨k0,k1,k2,k3⟩:=aT4 C.o;have kl:=C.o.lt;go_enter func150,ntmps150;go_wp2_with fail
  rw[<- hW];clear hW;refine(fU _ q _ E.o).mono ?_;rintro e w1 ⟨rfl,V⟩;replace t:=lH (t.o.below V);replace r:=lH (r.o.ig V);clear V;rw[HZ.o];clear k0 k1 k2 k3 kl;go_wp2_with fail
  go_returns;exact⟨rfl,t.o.congr (fun j _=>by rw[H0.o];grind),r.o⟩
 ·have a2:(sgI q.num==0)=false:=by simpa using (not_congr iZ).2 h0
  have aF:=lH a2;clear a2 h0;obtain⟨W,hW,C,r⟩:=eN1 w [.bool sq, .slice Aq lq cq, .bool tq, .slice Bq mq dq] 105;have E:=lH ((hq).below r.o);have t:=lH ((hf).below r.o);have F:=lH ((hp).below r.o);clear hq hf hp;replace r:Hid (Chg (fun k=>k=g) w W):=lH (Chg.of_below r.o);obtain⟨k0,k1,k2,k3⟩:=aT4 C.o;have kl:=C.o.lt;go_enter func150,ntmps150;go_wp2_with fail
  rw[<- hW];clear hW;refine(fU _ q _ E.o).mono ?_;rintro e w1 ⟨rfl,V⟩;replace E:=lH (E.o.below V);replace C:=rW C V;replace t:=lH (t.o.below V);replace F:=lH (F.o.below V);replace r:=lH (r.o.ig V);clear V;have a2:=aF.o;clear k0 k1 k2 k3 kl;go_wp2_with fail
  clear a2;have aa:=lH (t.o.congr (f':=fun j=>if j<0 then f j-q*p j else f j) (fun j _=>by simp))
  go_loopw [12] (fun iv wr=>∃k:Nat,k <= n /\ iv= .int .i64 k /\ RB wr g n (fun j=>if j<k then f j-q*p j else f j) /\ RB wr h nb p /\ Row wr w.heap.size 105 [.bool sq, .slice Aq lq cq, .bool tq, .slice Bq mq dq] /\ eO wr (.agg #[.bool sq, .slice Aq lq cq, .bool tq, .slice Bq mq dq]) q /\ Chg (fun k=>k=g) w wr)
   (fun iv _=>n-(intOf iv).toNat)
  case atStart=>exact⟨0,Nat.zero_le _,rfl,aa.o,F.o,C.o,E.o,r.o⟩
  case round=>
   clear t F C E r aa;obtain⟨k,hk,rfl,ar,au,az,aD,av⟩:=hrel;have t:=lH ar;have F:=lH au;have C:=lH az;have E:=lH aD;have r:=lH av;clear ar au az aD av;by_cases b1:((k:Nat):Int)<(n:Nat)
   ·have a1:k<n:=oM
    have b0:((k:Nat):Int)<(nb:Nat):=oM
    obtain⟨sx,Ax,lx,cx,tx,Bx,mx,dx,ap,aB⟩:=(t.o).fO a1;have O:=lH ap;have Vx:=lH aB;clear ap aB;obtain⟨sy,Ay,ly,cy,ty,By,my,dy,aq,aC⟩:=(F.o).fO (show k<nb by omega);have R:=lH aq;have Vy:=lH aC;clear aq aC;rw[show(if k<k then f k-q*p k else f k)=f k from if_neg (Nat.lt_irrefl k)] at Vx;by_cases h1:p k=0
    ·have X:sgI (p k).num=0:=iZ.2 h1;have HZ:=lH X;have H1:=lH h1;clear X h1;obtain⟨a5,a6,a7,a8⟩:=R.o;have a9:=R.o.lt;go_wp2_with fail
     clear a5 a6 a7 a8 a9;refine(fU _ (p k) _ Vy.o).mono ?_;rintro e w2 ⟨rfl,M⟩;replace E:=lH (E.o.below M);replace C:=rW C M;replace t:=lH (t.o.below M);replace F:=lH (F.o.below M);replace r:=lH (r.o.ig M);clear M;rw[HZ.o];go_wp2_with fail
     go_roundw
     case rel=>exact⟨k+1,by omega,by simp,t.o.congr (fun j _=>FH H1.o j),F.o,C.o,E.o,r.o⟩
     case measure=>exact mZ
    ·have b4:(sgI (p k).num !=0)=true:=by simpa using (not_congr iZ).2 h1
     clear h1;obtain⟨a5,a6,a7,a8⟩:=R.o;have a9:=R.o.lt;go_wp2_with fail
     clear a5 a6 a7 a8 a9;refine(fU _ (p k) _ Vy.o).mono ?_;rintro e w2 ⟨rfl,M⟩;replace E:=lH (E.o.below M);replace Vx:=lH (Vx.o.below M);replace Vy:=lH (Vy.o.below M);replace C:=rW C M;replace O:=lH (O.o.below M);replace R:=lH (R.o.below M);replace t:=lH (t.o.below M);replace F:=lH (F.o.below M);replace r:=lH (r.o.ig M);clear M;go_wp2_with fail
     have Y:=rG w2;have aJ:=C.o.lt;obtain⟨af,ai,al,ao⟩:=aT4 C.o;have aG:=O.o.lt;obtain⟨ad,ag,aj,am⟩:=O.o;have aH:=R.o.lt;obtain⟨ae,ah,ak,an⟩:=R.o;have KS:=lH (kC af (kC ai (kC al (kC ao (kC ad (kC ag (kC aj (kC am (kC ae (kC ah (kC ak (kN an))))))))))));clear aJ af ai al ao aG ad ag aj am aH ae ah ak an;refine rL KS.o (fun i=>decide (14 <= i)) ?_;have G:=KS.o _ Y.o;refine tKs 0 21 G ?_;refine tKs 1 22 G ?_;refine tKs 2 23 G ?_;refine tKs 3 24 G ?_;refine tKs 4 25 G ?_;refine tKs 5 26 G ?_;refine tKs 6 27 G ?_;refine tKs 7 28 G ?_;refine tKs 8 29 G ?_;refine tKs 9 30 G ?_;refine tKs 10 31 G ?_;refine rD 11 (fun K Z=> ?_);go_simp;refine(pq _ _ q (p k) _ (by exact E.o) (by exact Vy.o) (ac.o.mono dC) ((ab.o k a1).mono dC)).mono ?_;rintro e w3 ⟨vz,rfl,X,T⟩;have T:Below w2.heap.size w2 w3:=bD T;obtain⟨sz,Az,lz,cz,tz,Bz,mz,dz,rfl⟩:=X.shape;have Vz:=lH X;clear X;replace E:=lH (E.o.below T);replace Vx:=lH (Vx.o.below T);replace C:=rW C T;replace O:=lH (O.o.below T);replace R:=lH (R.o.below T);replace t:=lH (t.o.below T);replace F:=lH (F.o.below T);replace r:=lH (r.o.ig T);replace Y:=bT Y T;clear G T;have G:=KS.o _ Y.o;refine kH Z G ?_;clear Z K;refine rD 12 (fun K Z=> ?_);go_simp;refine(vw _ _ (f k) (q*p k) _ (by exact Vx.o) (by exact Vz.o) ((aE.o k a1).mono dC) ((ac.o.mul (ab.o k a1)).mono dC)).mono ?_;rintro e w4 ⟨vr,rfl,hr,U⟩;have U:Below w3.heap.size w3 w4:=bD U;obtain⟨sr,Ar,lr,cr,tr,Br,mr,dr,rfl⟩:=hr.shape;have Vr:=lH hr;clear hr;replace E:=lH (E.o.below U);replace C:=rW C U;replace O:=lH (O.o.below U);replace R:=lH (R.o.below U);replace t:=lH (t.o.below U);replace F:=lH (F.o.below U);replace r:=lH (r.o.ig U);replace Y:=bT Y U;have aO:=O.o.1;have aP:=O.o.2.1;have aQ:=O.o.2.2.1;have aR:=O.o.2.2.2;have aS:=O.o.lt;have aK:=t.o.free (k*4);have aL:=t.o.free (k*4+1);have aM:=t.o.free (k*4+2);have aN:=t.o.free (k*4+3);clear G U;have G:=KS.o _ Y.o;refine kH Z G ?_;clear Z K;refine tKs 13 34 G ?_;refine rD 14 (fun K Z=> ?_);go_simp;refine kL Z ?_;clear Z K;refine dN ?_ _;clear G KS Y;clear aO aP aQ aR aS aK aL aM aN;clear O;have a0:World.grownBy w4 ((((w4.setCell ⟨g,k*4,none⟩ (.bool sr)).setCell ⟨g,k*4+1,none⟩ (.slice Ar lr cr)).setCell ⟨g,k*4+2,none⟩ (.bool tr)).setCell ⟨g,k*4+3,none⟩ (.slice Br mr dr)) (some g):=il _ _ _ _ _ _ _ _ _ _;obtain⟨aX,a3⟩:=t.o.row;have aW:=C.o.lt;have aV:=R.o.lt;have aT:=t.o.lt;have aU:=F.o.lt;have aA:=t.o.set a1 Vr.o;replace E:=lH (E.o.other a0 a3 ic);replace C:=lH (C.o.other a0 oM);replace F:=lH (F.o.other a0 a3 ic oM);replace r:=lH (r.o.jD a0 (.inl rfl));replace t:=lH aA;obtain⟨w5,a4⟩:=eX (((((w4.setCell ⟨g,k*4,none⟩ (.bool sr)).setCell ⟨g,k*4+1,none⟩ (.slice Ar lr cr)).setCell ⟨g,k*4+2,none⟩ (.bool tr)).setCell ⟨g,k*4+3,none⟩ (.slice Br mr dr)));rw[<- a4] at E C t F r;clear a0 a3 aA aW aV aT aU;rw[<- a4];clear a4;go_wp2_with fail
     go_roundw
     case rel=>exact⟨k+1,by omega,by simp,t.o.congr (fun j _=>FI j),F.o,C.o,E.o,r.o⟩
     case measure=>exact mZ
   ·obtain rfl:k=n:=oM
    go_wp2_with fail
    go_returns;exact⟨rfl,t.o.congr (fun j hj=>by rw[if_pos hj]),r.o⟩
end
section
open Go.RowKit
open Lp (RL upd eB)
set_option maxHeartbeats 3200000 in
theorem qK(va vb:Value)(n nb:Nat)(a b:Nat -> Rat)(w:World)(ha:eZ w va n a)(hb:eZ w vb nb b)(hn:n <= nb)(aE:∀j,j<n -> RL 400000000000 (a j))(aF:∀j,j<n -> RL 400000000000 (b j))(hs:∀k,k <= n -> RL 1000000000000 (eB k a b)):
  Calls prog 120 #[va,vb] w fun e w'=>∃v,e= .returned v /\ eO w' v (eB n a b) /\ Below w.heap.size w w':=by
 obtain⟨A,ca,rfl,b7,aQ,hA⟩:=ha;obtain⟨B,cb,rfl,b8,aR,az⟩:=hb;unfold maxLen at aQ aR;have HA:=lH hA;have aK:=lH az;have ah:=lH aE;have ai:=lH aF;have HS:=lH hs;clear hA az aE aF hs;obtain⟨W,hW,r,h,t⟩:=eN2 w [.bool false, .slice none 0 0, .bool false, .slice none 0 0] 105 [.bool false, .slice none 0 0, .bool false, .slice none 0 0] 105;go_enter func120,ntmps120;go_wp2_with fail
 rw[<- hW];clear hW;have ag:=lH (AtQ.mk (q:=eB 0 a b) h.o (eO.jU _));have aL:=h.o.lt
 go_loopw [9] (fun iv wr=>∃k:Nat,k <= n /\ iv= .int .i64 k /\ AtQ wr (w.heap.size+1) (eB k a b) /\ Row wr w.heap.size 105 [.bool false, .slice none 0 0, .bool false, .slice none 0 0] /\ Below w.heap.size w wr)
  (fun iv _=>n-(intOf iv).toNat)
 case atStart=>exact⟨0,Nat.zero_le _,rfl,ag.o,r.o,t.o⟩
 case round=>
  clear r h t ag aL;obtain⟨k,hk,rfl,aP,aG,aC⟩:=hrel;obtain⟨sz,Az,lz,cz,tz,Bz,mz,dz,ro,aD⟩:=aP;have h:=lH ro;have G:=lH aD;have r:=lH aG;have t:=lH aC;clear ro aD aG aC;by_cases bc:((k:Nat):Int)<(n:Nat)
  ·obtain⟨ga,rfl,a3⟩:∃g,A=some ⟨g,0,none⟩ /\ RB w g n a:=by rcases HA.o with h0 | h0;exfalso;omega;exact h0
   obtain⟨gb,rfl,a4⟩:∃g,B=some ⟨g,0,none⟩ /\ RB w g nb b:=by rcases aK.o with h0 | h0;exfalso;omega;exact h0
   have a0:k<n:=oM
   have bb:((k:Nat):Int)<(nb:Nat):=oM
   obtain⟨sx,Ax,lx,cx,tx,Bx,mx,dx,aA,aH⟩:=(a3.below t.o).fO a0;have M:=lH aA;have V:=lH aH;clear aA aH;obtain⟨sy,Ay,ly,cy,ty,By,my,dy,aB,aJ⟩:=(a4.below t.o).fO (show k<nb by omega);have O:=lH aB;have X:=lH aJ;clear aB aJ;have b9:=a3.lt;have ba:=a4.lt;clear a3 a4;by_cases h0:a k=0
   ·have hz:sgI (a k).num=0:=iZ.2 h0;have HZ:=lH hz;have H0:=lH h0;clear hz h0;obtain⟨a6,a8,aa,ac⟩:=M.o;have ae:=M.o.lt;go_wp2_with fail
    clear a6 a8 aa ac ae;refine(fU _ (a k) _ V.o).mono ?_;rintro e w1 ⟨rfl,E⟩;replace G:=lH (G.o.below E);replace r:=rW r E;replace h:=rW h E;replace t:=bT t E;clear E;rw[HZ.o];go_wp2_with fail
    go_roundw
    case rel=>exact⟨k+1,by omega,by simp,AtQ.mk h.o (by rw[vB];rw[H0.o,Rat.zero_mul,Rat.add_zero];exact G.o),r.o,t.o⟩
    case measure=>exact mZ
   ·have a1:(sgI (a k).num !=0)=true:=by simpa using (not_congr iZ).2 h0
    clear h0;have ak:=lH a1;clear a1;obtain⟨a6,a8,aa,ac⟩:=M.o;have ae:=M.o.lt;go_wp2_with fail
    clear a6 a8 aa ac ae;refine(fU _ (a k) _ V.o).mono ?_;rintro e w1 ⟨rfl,E⟩;replace G:=lH (G.o.below E);replace V:=lH (V.o.below E);replace X:=lH (X.o.below E);replace r:=rW r E;replace h:=rW h E;replace M:=lH (M.o.below E);replace O:=lH (O.o.below E);replace t:=bT t E;clear E;by_cases h1:b k=0
    ·have hz:sgI (b k).num=0:=iZ.2 h1;have HZ:=lH hz;have H1:=lH h1;clear hz h1;have a1:=ak.o;obtain⟨a7,a9,ab,ad⟩:=O.o;have af:=O.o.lt;go_wp2_with fail
     clear a7 a9 ab ad af;refine(fU _ (b k) _ X.o).mono ?_;rintro e w2 ⟨rfl,F⟩;replace G:=lH (G.o.below F);replace r:=rW r F;replace h:=rW h F;replace t:=bT t F;clear F;rw[HZ.o];go_wp2_with fail
     go_roundw
     case rel=>exact⟨k+1,by omega,by simp,AtQ.mk h.o (by rw[vB];rw[H1.o,Rat.mul_zero,Rat.add_zero];exact G.o),r.o,t.o⟩
     case measure=>exact mZ
    ·have bd:(sgI (b k).num !=0)=true:=by simpa using (not_congr iZ).2 h1
     clear h1;have a1:=ak.o;obtain⟨a7,a9,ab,ad⟩:=O.o;have af:=O.o.lt;go_wp2_with fail
     clear a7 a9 ab ad af;refine(fU _ (b k) _ X.o).mono ?_;rintro e w2 ⟨rfl,F⟩;replace G:=lH (G.o.below F);replace V:=lH (V.o.below F);replace X:=lH (X.o.below F);replace r:=rW r F;replace h:=rW h F;replace M:=lH (M.o.below F);replace O:=lH (O.o.below F);replace t:=bT t F;clear F;go_wp2_with fail
     have R:=rG w2;have aO:=h.o.lt;obtain⟨an,aq,av,ay⟩:=aT4 h.o;have aM:=M.o.lt;obtain⟨al,ao,ar,aw⟩:=M.o;have aN:=O.o.lt;obtain⟨am,ap,au,ax⟩:=O.o;have KS:=lH (kC an (kC aq (kC av (kC ay (kC al (kC ao (kC ar (kC aw (kC am (kC ap (kC au (kN ax))))))))))));clear aO an aq av ay aM al ao ar aw aN am ap au ax;refine rL KS.o (fun i=>decide (11 <= i)) ?_;have C:=KS.o _ R.o;refine tKs 0 26 C ?_;refine tKs 1 27 C ?_;refine tKs 2 28 C ?_;refine tKs 3 29 C ?_;refine tKs 4 30 C ?_;refine tKs 5 31 C ?_;refine tKs 6 32 C ?_;refine tKs 7 33 C ?_;refine tKs 8 34 C ?_;refine rD 9 (fun K T=> ?_);go_simp;refine(pq _ _ (a k) (b k) _ (by exact V.o) (by exact X.o) ((ah.o k a0).mono dC) ((ai.o k a0).mono dC)).mono ?_;rintro e w3 ⟨vp,rfl,hp,U⟩;have U:Below w2.heap.size w2 w3:=bD U;obtain⟨sp,Ap,lp,cp,tp,Bp,mp,dp,rfl⟩:=hp.shape;have Vp:=lH hp;clear hp;replace G:=lH (G.o.below U);replace r:=rW r U;replace h:=rW h U;replace t:=bT t U;replace R:=bT R U;clear C U;have C:=KS.o _ R.o;refine kH T C ?_;clear T K;refine rD 10 (fun K T=> ?_);go_simp;refine(zf _ _ (eB k a b) (a k*b k) _ (by exact G.o) (by exact Vp.o) (HS.o k oM) (((ah.o k a0).mul (ai.o k a0)).mono dC)).mono ?_;rintro e w4 ⟨vr,rfl,Z,Y⟩;have Y:Below w3.heap.size w3 w4:=bD Y;obtain⟨sr,Ar,lr,cr,tr,Br,mr,dr,rfl⟩:=Z.shape;have Vr:=lH Z;clear Z;replace r:=rW r Y;replace h:=rW h Y;replace t:=bT t Y;replace R:=bT R Y;obtain⟨b0,b1,b2,b3⟩:=aT4 h.o;have b4:=h.o.lt;have aW:=h.o.free 0;have aX:=h.o.free 1;have aY:=h.o.free 2;have aZ:=h.o.free 3;clear C Y;have C:=KS.o _ R.o;refine kH T C ?_;clear T K;refine rD 11 (fun K T=> ?_);go_simp;refine kL T ?_;clear T K;refine dN ?_ _;clear C KS R;clear b0 aW b1 aX b2 aY b3 aZ b4;have a2:World.grownBy w4 ((((w4.setCell ⟨(w.heap.size+1),0,none⟩ (.bool sr)).setCell ⟨(w.heap.size+1),1,none⟩ (.slice Ar lr cr)).setCell ⟨(w.heap.size+1),2,none⟩ (.bool tr)).setCell ⟨(w.heap.size+1),3,none⟩ (.slice Br mr dr)) (some ((w.heap.size+1))):=il _ _ _ _ _ _ _ _ _ _;have b5:=r.o.lt;have b6:=h.o.lt;replace Vr:=lH (Vr.o.other a2 h.o dC);replace r:=lH (r.o.other a2 oM);replace t:Hid (Below w.heap.size w ((((w4.setCell ⟨(w.heap.size+1),0,none⟩ (.bool sr)).setCell ⟨(w.heap.size+1),1,none⟩ (.slice Ar lr cr)).setCell ⟨(w.heap.size+1),2,none⟩ (.bool tr)).setCell ⟨(w.heap.size+1),3,none⟩ (.slice Br mr dr))):=lH (lF t.o oM _ _ _ _);replace h:Hid (Row ((((w4.setCell ⟨(w.heap.size+1),0,none⟩ (.bool sr)).setCell ⟨(w.heap.size+1),1,none⟩ (.slice Ar lr cr)).setCell ⟨(w.heap.size+1),2,none⟩ (.bool tr)).setCell ⟨(w.heap.size+1),3,none⟩ (.slice Br mr dr)) ((w.heap.size+1)) 105 [.bool sr, .slice Ar lr cr, .bool tr, .slice Br mr dr]):=lH (h.o.jh);obtain⟨w5,a5⟩:=eX (((((w4.setCell ⟨(w.heap.size+1),0,none⟩ (.bool sr)).setCell ⟨(w.heap.size+1),1,none⟩ (.slice Ar lr cr)).setCell ⟨(w.heap.size+1),2,none⟩ (.bool tr)).setCell ⟨(w.heap.size+1),3,none⟩ (.slice Br mr dr)));rw[<- a5] at Vr r h t;clear a2 b5 b6;rw[<- a5];clear a5;go_wp2_with fail
     go_roundw
     case rel=>exact⟨k+1,by omega,by simp,AtQ.mk h.o (by rw[vB];exact Vr.o),r.o,t.o⟩
     case measure=>exact mZ
  ·obtain rfl:k=n:=oM
   obtain⟨be,bf,bg,bh⟩:=aT4 h.o;have bn:=h.o.lt;obtain⟨aS,aT,aU,aV⟩:=aT4 r.o;have bm:=r.o.lt;have bi:=r.o.free 0;have bj:=r.o.free 1;have bk:=r.o.free 2;have bl:=r.o.free 3;have Z:=iY r.o ic oM t.o G.o;have aj:=lH Z;clear Z;go_wp2_with fail
   refine bodyPost_ret (v:= .agg #[.bool sz, .slice Az lz cz, .bool tz, .slice Bz mz dz]) (by simp[results,results120,go_sem,aS,aT,aU,aV]) rfl ?_;exact⟨_,rfl,aj.o.1,aj.o.2⟩
end
end Go.Proofs.YtdefghfjhgmpfaaGreatDoor
