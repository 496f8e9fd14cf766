/- Parts of this proof: SSolved SExamA SKnR SPair. -/
import Derived.Test.YtokagbahdkfagaaGreatDoorMBH
import Derived.Test.YtokagbahdkfagaaGreatDoorMBI
import Derived.Test.YtokagbahdkfagaaGreatDoorMAU
import Derived.Test.YtokagbahdkfagaaGreatDoorMAY
namespace Go.Proofs.YtokagbahdkfagaaGreatDoor
open Go.Proofs.Tryz
section
open Go.RowKit
open Lp (RL upd eH)
set_option maxRecDepth 100000 in
set_option maxHeartbeats 12800000 in
theorem Ii(P:Prb)(F:Frm)(A C T:Option Addr)(M O R:Nat)(w:World)(hp:PIn w (.slice A P.n M) (.slice C P.m O) P)(hF:TT w (.slice T F.N R) F.N F.d F.f)(hg:fF w):
  Calls prog 70 #[.agg #[.slice A P.n M, .slice C P.m O], .agg #[.string F.c, .slice T F.N R]] w fun e w'=>e= .returned (.int .i64 (qE P F:Nat)) /\ Below w.heap.size w w':=by
 have a2:=lH hp;have a1:=lH hF;have a0:=lH hg;clear hp hF hg;obtain⟨W,hW,t,G,h⟩:=eN2 w [.slice A P.n M, .slice C P.m O] 58 [.string F.c, .slice T F.N R] 25;go_enter func70,ntmps70
 go_upto_region 1 with (fail)
 rw[<- hW];clear hW;obtain⟨V,a6⟩:=aT2 t.o;have X:=t.o.lt;go_wp2_with fail
 clear V a6 X;refine(zR P A C M O _ (a2.o.below h.o) (a0.o.below h.o)).mono ?_;rintro e w1 ⟨rfl,r⟩;replace t:=rW t r;replace G:=rW G r;replace h:=bT h r;clear r;obtain⟨E,U⟩:=eX (iA P);rw[<- U];have Z:=lH U;clear U;by_cases h0:E=0
 ·subst h0;have V:=aI 0 t;have X:=t.o.lt;obtain⟨a4,a5⟩:=aT2 G.o;have a7:=G.o.lt;go_wp2_with fail
  clear V X a4 a5 a7;refine(qd P.n F T R _ (a1.o.below h.o) (a0.o.below h.o)).mono ?_;rintro e w2 ⟨rfl,r⟩;replace h:=bT h r;clear r;go_wp2_with fail
  go_returns;exact⟨by unfold qE;rw[<- Z.o,if_neg (by simp)];first | done | rfl,h.o⟩
 ·have Y:=lH h0;clear h0;have a3:¬((E:Nat):Int)=0:=by have:=Y.o;omega
  have a8:(((E:Nat):Int) !=0)=true:=by simpa using a3
  go_wp2_with fail
  go_returns;exact⟨by unfold qE;rw[<- Z.o,if_pos Y.o];first | done | rfl,h.o⟩
set_option maxRecDepth 100000 in
set_option maxHeartbeats 12800000 in
theorem zS(P:Prb)(F:Frm)(A C T:Option Addr)(cA cC cT:Nat)(gr:Bool)(Kn L:Nat)(w:World)(hp:PIn w (.slice A P.n cA) (.slice C P.m cC) P)(hF:TT w (.slice T F.N cT) F.N F.d F.f)(hl:qE P F=0 -> oF P F Kn L)(ht:Tab w)(U:fF w):
  Calls prog 80 #[.agg #[.slice A P.n cA, .slice C P.m cC], .agg #[.string F.c, .slice T F.N cT], .bool gr] w fun e w'=>uP w' P F (sgB gr) L e /\ Below w.heap.size w w':=by
 have a9:=lH hp;have a7:=lH hF;have ab:=lH hl;have ae:=lH ht;have a8:=lH U;clear hp hF hl ht U;obtain⟨W,hW,RP,Z,r,h⟩:=eN3 w [.slice A P.n cA, .slice C P.m cC] 58 [.string F.c, .slice T F.N cT] 25 [.string ⟨#[]⟩, .slice none 0 0, .slice none 0 0] 83;go_enter func80,ntmps80
 go_upto_region 1 with (fail)
 rw[<- hW];clear hW;obtain⟨a2,a4⟩:=aT2 RP.o;have a6:=RP.o.lt;obtain⟨a1,a3⟩:=aT2 Z.o;have a5:=Z.o.lt;go_wp2_with fail
 clear a2 a4 a6 a1 a3 a5;refine(Ii P F A C T cA cC cT _ (a9.o.below h.o) (a7.o.below h.o) (a8.o.below h.o)).mono ?_;rintro e w1 ⟨rfl,R⟩;replace RP:=rW RP R;replace Z:=rW Z R;replace r:=rW r R;replace h:=bT h R;clear R;obtain⟨E,hE⟩:=eX (qE P F);rw[<- hE];have Y:=lH hE;clear hE;by_cases h0:E=0
 ·subst h0;have HO:=lH (Ig Y.o.symm);have ac:=lH (ab.o Y.o.symm);obtain⟨a2,a4⟩:=aT2 RP.o;have a6:=RP.o.lt;obtain⟨a1,a3⟩:=aT2 Z.o;have a5:=Z.o.lt;go_wp2_with fail
  clear a2 a4 a6 a1 a3 a5;refine(uQ P F A C T cA cC cT gr Kn L _ (a9.o.below h.o) (a7.o.below h.o) HO.o.1 HO.o.2 ac.o (ae.o.below h.o) (a8.o.below h.o)).mono ?_;rintro e w2 ⟨hr,R⟩;replace r:=rW r R;replace h:=bT h R;clear R
  rcases hr with ⟨y,hy,rfl⟩ | ⟨o,v,aa,hv,rfl⟩
  ·have HY:=lH hy;clear hy;obtain⟨G,f0,M,f1,O,f2⟩:=aF3 r.o;have kl:=r.o.lt;go_wp2_with fail
   have U:World.grownBy w2 (((w2.setCell ⟨w.heap.size+1+1,0,none⟩ (.string ⟨#[]⟩)).setCell ⟨w.heap.size+1+1,1,none⟩ (.slice none 0 0)).setCell ⟨w.heap.size+1+1,2,none⟩ (.slice none 0 0)) (some (w.heap.size+1+1)):=grownBy_trans (grownBy_trans (grownBy_set _ _ _ _) (grownBy_set _ _ _ _)) (grownBy_set _ _ _ _);have t:=((r.o.set 0 (.string ⟨#[]⟩)).set 1 (.slice none 0 0)).set 2 (.slice none 0 0);have V:=h.o.grown U h.o.size (by first | (simp;done) | (simp;omega));clear kl G f0 M f1 O f2;obtain⟨wE,a0⟩:=eX ((((w2.setCell ⟨w.heap.size+1+1,0,none⟩ (.string ⟨#[]⟩)).setCell ⟨w.heap.size+1+1,1,none⟩ (.slice none 0 0)).setCell ⟨w.heap.size+1+1,2,none⟩ (.slice none 0 0)));rw[<- a0] at t V ⊢;have G:=t.at_ 0 rfl;have M:=t.at_ 1 rfl;have O:=t.at_ 2 rfl;refine bodyPost_ret (v:= .tuple #[.agg #[.string ⟨#[]⟩, .slice none 0 0, .slice none 0 0], .int .i64 21]) (by simp[results,results80,go_sem,G,M,O]) rfl ?_;exact⟨.inr ⟨Y.o.symm, .inl ⟨_,HY.o,rfl⟩⟩,V⟩
  ·obtain⟨X,cx,gc,rfl⟩:=hv.shape;have HV:=lH hv;have ad:=lH aa;clear hv aa;obtain⟨G,f0,M,f1,O,f2⟩:=aF3 r.o;have kl:=r.o.lt;go_wp2_with fail
   have U:World.grownBy w2 (((w2.setCell ⟨w.heap.size+1+1,0,none⟩ (.string (eB o.q))).setCell ⟨w.heap.size+1+1,1,none⟩ (.slice X P.n cx)).setCell ⟨w.heap.size+1+1,2,none⟩ (.slice (some ⟨gc,0,none⟩) 1 1)) (some (w.heap.size+1+1)):=grownBy_trans (grownBy_trans (grownBy_set _ _ _ _) (grownBy_set _ _ _ _)) (grownBy_set _ _ _ _);have t:=((r.o.set 0 (.string (eB o.q))).set 1 (.slice X P.n cx)).set 2 (.slice (some ⟨gc,0,none⟩) 1 1);have e2:=HV.o.other U r.o dC dC;have V:=h.o.grown U h.o.size (by first | (simp;done) | (simp;omega));clear kl G f0 M f1 O f2;obtain⟨wE,a0⟩:=eX ((((w2.setCell ⟨w.heap.size+1+1,0,none⟩ (.string (eB o.q))).setCell ⟨w.heap.size+1+1,1,none⟩ (.slice X P.n cx)).setCell ⟨w.heap.size+1+1,2,none⟩ (.slice (some ⟨gc,0,none⟩) 1 1)));rw[<- a0] at t V e2 ⊢;have G:=t.at_ 0 rfl;have M:=t.at_ 1 rfl;have O:=t.at_ 2 rfl;refine bodyPost_ret (v:= .tuple #[.agg #[.string (eB o.q), .slice X P.n cx, .slice (some ⟨gc,0,none⟩) 1 1], .int .i64 0]) (by simp[results,results80,go_sem,G,M,O]) rfl ?_;exact⟨.inr ⟨Y.o.symm, .inr ⟨o,_,ad.o,e2,rfl⟩⟩,V⟩
 ·have H1:=lH h0;clear h0;have af:¬((E:Nat):Int)=0:=by have:=H1.o;omega
  have ag:(((E:Nat):Int) !=0)=true:=by simpa using af
  obtain⟨G,f0,M,f1,O,f2⟩:=aF3 r.o;have kl:=r.o.lt;go_wp2_with fail
  have U:World.grownBy w1 (((w1.setCell ⟨w.heap.size+1+1,0,none⟩ (.string ⟨#[]⟩)).setCell ⟨w.heap.size+1+1,1,none⟩ (.slice none 0 0)).setCell ⟨w.heap.size+1+1,2,none⟩ (.slice none 0 0)) (some (w.heap.size+1+1)):=grownBy_trans (grownBy_trans (grownBy_set _ _ _ _) (grownBy_set _ _ _ _)) (grownBy_set _ _ _ _);have t:=((r.o.set 0 (.string ⟨#[]⟩)).set 1 (.slice none 0 0)).set 2 (.slice none 0 0);have V:=h.o.grown U h.o.size (by first | (simp;done) | (simp;omega));clear kl G f0 M f1 O f2;obtain⟨wE,a0⟩:=eX ((((w1.setCell ⟨w.heap.size+1+1,0,none⟩ (.string ⟨#[]⟩)).setCell ⟨w.heap.size+1+1,1,none⟩ (.slice none 0 0)).setCell ⟨w.heap.size+1+1,2,none⟩ (.slice none 0 0)));rw[<- a0] at t V ⊢;have G:=t.at_ 0 rfl;have M:=t.at_ 1 rfl;have O:=t.at_ 2 rfl;refine bodyPost_ret (v:= .tuple #[.agg #[.string ⟨#[]⟩, .slice none 0 0, .slice none 0 0], .int .i64 (E:Nat)]) (by simp[results,results80,go_sem,G,M,O]) rfl ?_;exact⟨.inl ⟨by rw[<- Y.o];exact H1.o,by rw[<- Y.o]⟩,V⟩
set_option maxRecDepth 100000 in
set_option maxHeartbeats 12800000 in
theorem Ij(P:Prb)(F:Frm)(A C T:Option Addr)(cA cC cT:Nat)(Kn L:Nat)(w:World)(hp:PIn w (.slice A P.n cA) (.slice C P.m cC) P)(hF:TT w (.slice T F.N cT) F.N F.d F.f)(hl:qE P F=0 -> oF P F Kn L)(ht:Tab w)(G:fF w):
  Calls prog 36 #[.agg #[.slice A P.n cA, .slice C P.m cC], .agg #[.string F.c, .slice T F.N cT]] w fun e w'=>uP w' P F (1) L e /\ Below w.heap.size w w':=by
 have a6:=lH (fun w hp hF ht G=>zS P F A C T cA cC cT true Kn L w hp hF hl ht G);have a5:=lH hp;have a2:=lH hF;have a7:=lH ht;have a3:=lH G;clear hp hF hl ht G;obtain⟨W,hW,RP,RF,t,r⟩:=eN3 w [.slice A P.n cA, .slice C P.m cC] 58 [.string F.c, .slice T F.N cT] 25 [.string ⟨#[]⟩, .slice none 0 0, .slice none 0 0] 83;go_enter func36,ntmps36
 go_upto_region 1 with (fail)
 rw[<- hW];clear hW;obtain⟨a9,ab⟩:=aT2 RP.o;have ad:=RP.o.lt;obtain⟨a8,aa⟩:=aT2 RF.o;have ac:=RF.o.lt;go_wp2_with fail
 clear a9 ab ad a8 aa ac;refine(a6.o _ (a5.o.below r.o) (a2.o.below r.o) (a7.o.below r.o) (a3.o.below r.o)).mono ?_;rintro e U ⟨hr,hb⟩;replace t:=rW t hb;replace r:=bT r hb;clear hb
 rcases hr with ⟨h0,rfl⟩ | ⟨h0,hr⟩
 ·have H0:=lH h0;obtain⟨E,hE⟩:=eX (qE P F);rw[<- hE];have HE:=lH hE;clear hE h0;obtain⟨M,Y,O,Z,R,f2⟩:=aF3 t.o;have kl:=t.o.lt;go_wp2_with fail
  have G:World.grownBy U (((U.setCell ⟨w.heap.size+1+1,0,none⟩ (.string ⟨#[]⟩)).setCell ⟨w.heap.size+1+1,1,none⟩ (.slice none 0 0)).setCell ⟨w.heap.size+1+1,2,none⟩ (.slice none 0 0)) (some (w.heap.size+1+1)):=grownBy_trans (grownBy_trans (grownBy_set _ _ _ _) (grownBy_set _ _ _ _)) (grownBy_set _ _ _ _);have h:=((t.o.set 0 (.string ⟨#[]⟩)).set 1 (.slice none 0 0)).set 2 (.slice none 0 0);have V:=r.o.grown G r.o.size (by first | (simp;done) | (simp;omega));clear kl M Y O Z R f2;obtain⟨wE,a0⟩:=eX ((((U.setCell ⟨w.heap.size+1+1,0,none⟩ (.string ⟨#[]⟩)).setCell ⟨w.heap.size+1+1,1,none⟩ (.slice none 0 0)).setCell ⟨w.heap.size+1+1,2,none⟩ (.slice none 0 0)));rw[<- a0] at h V ⊢;have M:=h.at_ 0 rfl;have O:=h.at_ 1 rfl;have R:=h.at_ 2 rfl;refine bodyPost_ret (v:= .tuple #[.agg #[.string ⟨#[]⟩, .slice none 0 0, .slice none 0 0], .int .i64 (E:Nat)]) (by simp[results,results36,go_sem,M,O,R]) rfl ?_;exact⟨.inl ⟨H0.o,by rw[<- HE.o]⟩,V⟩
 ·have H0:=lH h0;clear h0
  rcases hr with ⟨y,hy,rfl⟩ | ⟨o,v,a1,hv,rfl⟩
  ·have HY:=lH hy;clear hy;obtain⟨M,Y,O,Z,R,f2⟩:=aF3 t.o;have kl:=t.o.lt;go_wp2_with fail
   have G:World.grownBy U (((U.setCell ⟨w.heap.size+1+1,0,none⟩ (.string ⟨#[]⟩)).setCell ⟨w.heap.size+1+1,1,none⟩ (.slice none 0 0)).setCell ⟨w.heap.size+1+1,2,none⟩ (.slice none 0 0)) (some (w.heap.size+1+1)):=grownBy_trans (grownBy_trans (grownBy_set _ _ _ _) (grownBy_set _ _ _ _)) (grownBy_set _ _ _ _);have h:=((t.o.set 0 (.string ⟨#[]⟩)).set 1 (.slice none 0 0)).set 2 (.slice none 0 0);have V:=r.o.grown G r.o.size (by first | (simp;done) | (simp;omega));clear kl M Y O Z R f2;obtain⟨wE,a0⟩:=eX ((((U.setCell ⟨w.heap.size+1+1,0,none⟩ (.string ⟨#[]⟩)).setCell ⟨w.heap.size+1+1,1,none⟩ (.slice none 0 0)).setCell ⟨w.heap.size+1+1,2,none⟩ (.slice none 0 0)));rw[<- a0] at h V ⊢;have M:=h.at_ 0 rfl;have O:=h.at_ 1 rfl;have R:=h.at_ 2 rfl;refine bodyPost_ret (v:= .tuple #[.agg #[.string ⟨#[]⟩, .slice none 0 0, .slice none 0 0], .int .i64 21]) (by simp[results,results36,go_sem,M,O,R]) rfl ?_;exact⟨.inr ⟨H0.o, .inl ⟨_,HY.o,rfl⟩⟩,V⟩
  ·obtain⟨X,cx,gc,rfl⟩:=hv.shape;have HV:=lH hv;have a4:=lH a1;clear hv a1;obtain⟨M,Y,O,Z,R,f2⟩:=aF3 t.o;have kl:=t.o.lt;go_wp2_with fail
   have G:World.grownBy U (((U.setCell ⟨w.heap.size+1+1,0,none⟩ (.string (eB o.q))).setCell ⟨w.heap.size+1+1,1,none⟩ (.slice X P.n cx)).setCell ⟨w.heap.size+1+1,2,none⟩ (.slice (some ⟨gc,0,none⟩) 1 1)) (some (w.heap.size+1+1)):=grownBy_trans (grownBy_trans (grownBy_set _ _ _ _) (grownBy_set _ _ _ _)) (grownBy_set _ _ _ _);have h:=((t.o.set 0 (.string (eB o.q))).set 1 (.slice X P.n cx)).set 2 (.slice (some ⟨gc,0,none⟩) 1 1);have e2:=HV.o.other G t.o dC dC;have V:=r.o.grown G r.o.size (by first | (simp;done) | (simp;omega));clear kl M Y O Z R f2;obtain⟨wE,a0⟩:=eX ((((U.setCell ⟨w.heap.size+1+1,0,none⟩ (.string (eB o.q))).setCell ⟨w.heap.size+1+1,1,none⟩ (.slice X P.n cx)).setCell ⟨w.heap.size+1+1,2,none⟩ (.slice (some ⟨gc,0,none⟩) 1 1)));rw[<- a0] at h V e2 ⊢;have M:=h.at_ 0 rfl;have O:=h.at_ 1 rfl;have R:=h.at_ 2 rfl;refine bodyPost_ret (v:= .tuple #[.agg #[.string (eB o.q), .slice X P.n cx, .slice (some ⟨gc,0,none⟩) 1 1], .int .i64 0]) (by simp[results,results36,go_sem,M,O,R]) rfl ?_;exact⟨.inr ⟨H0.o, .inr ⟨o,_,a4.o,e2,rfl⟩⟩,V⟩
set_option maxRecDepth 100000 in
set_option maxHeartbeats 12800000 in
theorem Ik(P:Prb)(F:Frm)(A C T:Option Addr)(cA cC cT:Nat)(Kn L:Nat)(w:World)(hp:PIn w (.slice A P.n cA) (.slice C P.m cC) P)(hF:TT w (.slice T F.N cT) F.N F.d F.f)(hl:qE P F=0 -> oF P F Kn L)(ht:Tab w)(G:fF w):
  Calls prog 37 #[.agg #[.slice A P.n cA, .slice C P.m cC], .agg #[.string F.c, .slice T F.N cT]] w fun e w'=>uP w' P F (-1) L e /\ Below w.heap.size w w':=by
 have a6:=lH (fun w hp hF ht G=>zS P F A C T cA cC cT false Kn L w hp hF hl ht G);have a5:=lH hp;have a2:=lH hF;have a7:=lH ht;have a3:=lH G;clear hp hF hl ht G;obtain⟨W,hW,RP,RF,t,r⟩:=eN3 w [.slice A P.n cA, .slice C P.m cC] 58 [.string F.c, .slice T F.N cT] 25 [.string ⟨#[]⟩, .slice none 0 0, .slice none 0 0] 83;go_enter func37,ntmps37
 go_upto_region 1 with (fail)
 rw[<- hW];clear hW;obtain⟨a9,ab⟩:=aT2 RP.o;have ad:=RP.o.lt;obtain⟨a8,aa⟩:=aT2 RF.o;have ac:=RF.o.lt;go_wp2_with fail
 clear a9 ab ad a8 aa ac;refine(a6.o _ (a5.o.below r.o) (a2.o.below r.o) (a7.o.below r.o) (a3.o.below r.o)).mono ?_;rintro e U ⟨hr,hb⟩;replace t:=rW t hb;replace r:=bT r hb;clear hb
 rcases hr with ⟨h0,rfl⟩ | ⟨h0,hr⟩
 ·have H0:=lH h0;obtain⟨E,hE⟩:=eX (qE P F);rw[<- hE];have HE:=lH hE;clear hE h0;obtain⟨M,Y,O,Z,R,f2⟩:=aF3 t.o;have kl:=t.o.lt;go_wp2_with fail
  have G:World.grownBy U (((U.setCell ⟨w.heap.size+1+1,0,none⟩ (.string ⟨#[]⟩)).setCell ⟨w.heap.size+1+1,1,none⟩ (.slice none 0 0)).setCell ⟨w.heap.size+1+1,2,none⟩ (.slice none 0 0)) (some (w.heap.size+1+1)):=grownBy_trans (grownBy_trans (grownBy_set _ _ _ _) (grownBy_set _ _ _ _)) (grownBy_set _ _ _ _);have h:=((t.o.set 0 (.string ⟨#[]⟩)).set 1 (.slice none 0 0)).set 2 (.slice none 0 0);have V:=r.o.grown G r.o.size (by first | (simp;done) | (simp;omega));clear kl M Y O Z R f2;obtain⟨wE,a0⟩:=eX ((((U.setCell ⟨w.heap.size+1+1,0,none⟩ (.string ⟨#[]⟩)).setCell ⟨w.heap.size+1+1,1,none⟩ (.slice none 0 0)).setCell ⟨w.heap.size+1+1,2,none⟩ (.slice none 0 0)));rw[<- a0] at h V ⊢;have M:=h.at_ 0 rfl;have O:=h.at_ 1 rfl;have R:=h.at_ 2 rfl;refine bodyPost_ret (v:= .tuple #[.agg #[.string ⟨#[]⟩, .slice none 0 0, .slice none 0 0], .int .i64 (E:Nat)]) (by simp[results,results37,go_sem,M,O,R]) rfl ?_;exact⟨.inl ⟨H0.o,by rw[<- HE.o]⟩,V⟩
 ·have H0:=lH h0;clear h0
  rcases hr with ⟨y,hy,rfl⟩ | ⟨o,v,a1,hv,rfl⟩
  ·have HY:=lH hy;clear hy;obtain⟨M,Y,O,Z,R,f2⟩:=aF3 t.o;have kl:=t.o.lt;go_wp2_with fail
   have G:World.grownBy U (((U.setCell ⟨w.heap.size+1+1,0,none⟩ (.string ⟨#[]⟩)).setCell ⟨w.heap.size+1+1,1,none⟩ (.slice none 0 0)).setCell ⟨w.heap.size+1+1,2,none⟩ (.slice none 0 0)) (some (w.heap.size+1+1)):=grownBy_trans (grownBy_trans (grownBy_set _ _ _ _) (grownBy_set _ _ _ _)) (grownBy_set _ _ _ _);have h:=((t.o.set 0 (.string ⟨#[]⟩)).set 1 (.slice none 0 0)).set 2 (.slice none 0 0);have V:=r.o.grown G r.o.size (by first | (simp;done) | (simp;omega));clear kl M Y O Z R f2;obtain⟨wE,a0⟩:=eX ((((U.setCell ⟨w.heap.size+1+1,0,none⟩ (.string ⟨#[]⟩)).setCell ⟨w.heap.size+1+1,1,none⟩ (.slice none 0 0)).setCell ⟨w.heap.size+1+1,2,none⟩ (.slice none 0 0)));rw[<- a0] at h V ⊢;have M:=h.at_ 0 rfl;have O:=h.at_ 1 rfl;have R:=h.at_ 2 rfl;refine bodyPost_ret (v:= .tuple #[.agg #[.string ⟨#[]⟩, .slice none 0 0, .slice none 0 0], .int .i64 21]) (by simp[results,results37,go_sem,M,O,R]) rfl ?_;exact⟨.inr ⟨H0.o, .inl ⟨_,HY.o,rfl⟩⟩,V⟩
  ·obtain⟨X,cx,gc,rfl⟩:=hv.shape;have HV:=lH hv;have a4:=lH a1;clear hv a1;obtain⟨M,Y,O,Z,R,f2⟩:=aF3 t.o;have kl:=t.o.lt;go_wp2_with fail
   have G:World.grownBy U (((U.setCell ⟨w.heap.size+1+1,0,none⟩ (.string (eB o.q))).setCell ⟨w.heap.size+1+1,1,none⟩ (.slice X P.n cx)).setCell ⟨w.heap.size+1+1,2,none⟩ (.slice (some ⟨gc,0,none⟩) 1 1)) (some (w.heap.size+1+1)):=grownBy_trans (grownBy_trans (grownBy_set _ _ _ _) (grownBy_set _ _ _ _)) (grownBy_set _ _ _ _);have h:=((t.o.set 0 (.string (eB o.q))).set 1 (.slice X P.n cx)).set 2 (.slice (some ⟨gc,0,none⟩) 1 1);have e2:=HV.o.other G t.o dC dC;have V:=r.o.grown G r.o.size (by first | (simp;done) | (simp;omega));clear kl M Y O Z R f2;obtain⟨wE,a0⟩:=eX ((((U.setCell ⟨w.heap.size+1+1,0,none⟩ (.string (eB o.q))).setCell ⟨w.heap.size+1+1,1,none⟩ (.slice X P.n cx)).setCell ⟨w.heap.size+1+1,2,none⟩ (.slice (some ⟨gc,0,none⟩) 1 1)));rw[<- a0] at h V e2 ⊢;have M:=h.at_ 0 rfl;have O:=h.at_ 1 rfl;have R:=h.at_ 2 rfl;refine bodyPost_ret (v:= .tuple #[.agg #[.string (eB o.q), .slice X P.n cx, .slice (some ⟨gc,0,none⟩) 1 1], .int .i64 0]) (by simp[results,results37,go_sem,M,O,R]) rfl ?_;exact⟨.inr ⟨H0.o, .inr ⟨o,_,a4.o,e2,rfl⟩⟩,V⟩
end
section
open Go.RowKit
open Lp (RL upd eH)
structure Rqm where
 s:ByteArray
 op:Int
 F:Frm
 fa:ByteArray
 na:Nat
 lo:ByteArray
 hi:ByteArray
def ik(s:ByteArray):Nat:=if s=⟨#[]⟩ then 0 else gm s.data.toList
noncomputable def fq(s:ByteArray):Rat:=if s=⟨#[]⟩ then 0 else qof s
open Classical in
noncomputable def lZ(n:Int)(R:Rqm):Nat:=
 if ku R.s=false then 11 else if R.op≠0 \/ 0<R.na \/ R.fa≠⟨#[]⟩ then 12 else if iL n R.F≠0 then iL n R.F else if ik R.lo≠0 then ik R.lo else if ik R.hi≠0 then ik R.hi else
  if R.lo≠⟨#[]⟩ /\ R.hi≠⟨#[]⟩ /\ qof R.hi<qof R.lo then 8 else 0
noncomputable def exE(P:Prb)(R:Rqm):Nat:=if iA P≠0 then iA P else lZ P.n R
noncomputable def rpB(R:Rqm)(o:Wst):ByteArray:=if R.lo=⟨#[]⟩ then⟨#[]⟩ else eB (o.q-qof R.lo)
noncomputable def rpA(R:Rqm)(o:Wst):ByteArray:=if R.hi=⟨#[]⟩ then⟨#[]⟩ else eB (qof R.hi-o.q)
noncomputable def rpL(R:Rqm)(o:Wst):Bool:=if R.lo=⟨#[]⟩ then true else decide (0 <= sgI (o.q-qof R.lo).num)
noncomputable def rpM(R:Rqm)(o o':Wst):Bool:=if R.hi=⟨#[]⟩ then rpL R o else rpL R o && decide (0 <= sgI (qof R.hi-o'.q).num)
def zT:Value:= .agg #[.bool false, .string ⟨#[]⟩, .slice none 0 0, .slice none 0 0, .string ⟨#[]⟩, .slice none 0 0, .slice none 0 0, .string ⟨#[]⟩, .string ⟨#[]⟩]
def Il(w:World)(P:Prb)(R:Rqm)(L:Nat)(e:Ending):Prop:=
 (exE P R≠0 /\ e= .returned (.tuple #[zT, .int .i64 (exE P R:Nat)])) \/
 (exE P R=0 /\ ((∃y,Lp.Inf (pM P) P.n (pA P) (pB P) y /\ e= .returned (.tuple #[zT, .int .i64 21])) \/
  ∃o o' X c g X' c' g',mU P R.F (-1) L o /\ jk w (.agg #[.string (eB o.q), .slice X P.n c, .slice (some ⟨g,0,none⟩) 1 1]) P.n (pM P) o /\ mU P R.F 1 L o' /\ jk w (.agg #[.string (eB o'.q), .slice X' P.n c', .slice (some ⟨g',0,none⟩) 1 1]) P.n (pM P) o' /\
   e= .returned (.tuple #[.agg #[.bool (rpM R o o'), .string (eB o.q), .slice X P.n c, .slice (some ⟨g,0,none⟩) 1 1, .string (eB o'.q), .slice X' P.n c', .slice (some ⟨g',0,none⟩) 1 1, .string (rpB R o), .string (rpA R o')], .int .i64 0])))
theorem isE{s:ByteArray}(h:s=⟨#[]⟩):s.toList.isEmpty=true:=by
 rw[h]
 first | kernel_rfl | (rw[ByteArray.toList_eq];rfl) | simp
theorem notE{s:ByteArray}(h:¬s=⟨#[]⟩):s.toList.isEmpty=false:=(mG fun e=>h (by
 cases s with
 | mk d=>rw[show d= #[] from Array.toList_eq_nil_iff.1 e])).2
theorem Im{a b:Rat}:0<nJ a b↔b<a:=by
 unfold nJ;by_cases h:a<b
 ·rw[if_pos h];constructor <;> intro r;omega;grind
 ·rw[if_neg h];by_cases h1:a=b
  ·rw[if_pos h1];constructor <;> intro r;omega;grind
  ·rw[if_neg h1];constructor <;> intro r;grind;decide
theorem oG(w:World)(g:Nat)(v0 v1 v2 v3 v4 v5 v6 v7 v8:Value):w.grownBy (((((((((w.setCell ⟨g,0,none⟩ (v0)).setCell ⟨g,1,none⟩ (v1)).setCell ⟨g,2,none⟩ (v2)).setCell ⟨g,3,none⟩ (v3)).setCell ⟨g,4,none⟩ (v4)).setCell ⟨g,5,none⟩ (v5)).setCell ⟨g,6,none⟩ (v6)).setCell ⟨g,7,none⟩ (v7)).setCell ⟨g,8,none⟩ (v8)) (some g):=
 grownBy_trans (grownBy_trans (grownBy_trans (grownBy_trans (grownBy_trans (grownBy_trans (grownBy_trans (grownBy_trans (grownBy_set _ _ _ _) (grownBy_set _ _ _ _)) (grownBy_set _ _ _ _)) (grownBy_set _ _ _ _)) (grownBy_set _ _ _ _)) (grownBy_set _ _ _ _)) (grownBy_set _ _ _ _)) (grownBy_set _ _ _ _)) (grownBy_set _ _ _ _)
theorem Row.oH{w:World}{g:Nat}{e:TypeId}{r t C E G M O R T v0 v1 v2 v3 v4 v5 v6 v7 v8:Value}(h:Row w g e [r,t,C,E,G,M,O,R,T]):Row (((((((((w.setCell ⟨g,0,none⟩ (v0)).setCell ⟨g,1,none⟩ (v1)).setCell ⟨g,2,none⟩ (v2)).setCell ⟨g,3,none⟩ (v3)).setCell ⟨g,4,none⟩ (v4)).setCell ⟨g,5,none⟩ (v5)).setCell ⟨g,6,none⟩ (v6)).setCell ⟨g,7,none⟩ (v7)).setCell ⟨g,8,none⟩ (v8)) g e [v0,v1,v2,v3,v4,v5,v6,v7,v8]:=
 ((((((((h.set 0 v0).set 1 v1).set 2 v2).set 3 v3).set 4 v4).set 5 v5).set 6 v6).set 7 v7).set 8 v8
end
section
open Go.RowKit
open Lp (RL upd eH sumTo jf Opt)
def IV:Rqm:=⟨⟨#[103,97,112]⟩,0,kF,⟨#[]⟩,0,⟨#[53,57,48,48]⟩,⟨#[54,49,48,48]⟩⟩
theorem uR:qof ⟨#[53,57,48,48]⟩=5900:=jQ kR
theorem zU:qof ⟨#[54,49,48,48]⟩=6100:=jQ kR
theorem mV:¬IV.lo=⟨#[]⟩ /\ ¬IV.hi=⟨#[]⟩:=by constructor <;> (intro h;cases h)
theorem zV:ku IV.s=true:=by decide+kernel
theorem zW:gm IV.lo.data.toList=0 /\ gm IV.hi.data.toList=0:=by decide+kernel
theorem Io:exE (kP 1) IV=0:=by
 unfold exE;rw[if_neg (by rw[mR.2.1];simp)];unfold lZ;rw[if_neg (by rw[zV];simp),if_neg (by intro h;rcases h with h | h | h;exact h rfl;exact absurd h dC;exact h rfl),show IV.F=kF from rfl,show((kP 1).n:Int)=2 from rfl,if_neg (by rw[mR.2.2];simp)];rw[if_neg (by unfold ik;rw[if_neg mV.1,zW.1];simp),if_neg (by unfold ik;rw[if_neg mV.2,zW.2];simp),if_neg];intro h;have r:=h.2.2;rw[show IV.hi=⟨#[54,49,48,48]⟩ from rfl,show IV.lo=⟨#[53,57,48,48]⟩ from rfl,zU,uR] at r;exact absurd r dC
theorem zX{m:Nat}(h:m <= 1):qE (kP m) kF=0:=by
 have e:m=0 \/ m=1:=oM
 unfold qE
 rcases e with rfl | rfl
 ·rw[if_neg (by rw[mR.1];simp)];exact mR.2.2
 ·rw[if_neg (by rw[mR.2.1];simp)];exact mR.2.2
theorem uS{m:Nat}(r:m <= 1){y:Nat -> Rat}(h:Lp.Inf (pM (kP m)) (kP m).n (pA (kP m)) (pB (kP m)) y):False:=h.no (uK r).1
theorem uT{m L:Nat}(r:m <= 1){o:Wst}(h:mU (kP m) kF (-1) L o):o.q=5880:=by
 obtain⟨h0,h1⟩:=GX r h.opt;rw[h.val,uJ,h0,h1];decide+kernel
theorem Ip{L:Nat}{o:Wst}(h:mU (kP 0) kF 1 L o):o.q=6070 /\ o.x 0=10050 /\ o.x 1=3980:=by
 obtain⟨h0,h1⟩:=zC oM h.opt;rw[if_pos rfl] at h0;exact⟨by rw[h.val,uJ,h0,h1];decide+kernel,h0,h1⟩
theorem Iq{L:Nat}{o:Wst}(h:mU (kP 1) kF 1 L o):o.q=6040:=by
 obtain⟨h0,h1⟩:=zC oM h.opt;rw[if_neg oM] at h0;rw[h.val,uJ,h0,h1];decide+kernel
theorem zY:eB 5880=⟨#[53,56,56,48]⟩:=by kernel_rfl
theorem Ir:eB 6070=⟨#[54,48,55,48]⟩:=by kernel_rfl
theorem Iu:eB 6040=⟨#[54,48,52,48]⟩:=by kernel_rfl
theorem Iw:eB 10050=⟨#[49,48,48,53,48]⟩:=by kernel_rfl
theorem Iy:eB 3980=⟨#[51,57,56,48]⟩:=by kernel_rfl
theorem Iz{L:Nat}{o r:Wst}(h:mU (kP 1) kF (-1) L o)(E:mU (kP 1) kF 1 L r):rpM IV o r=false /\ eB r.q=⟨#[54,48,52,48]⟩ /\ rpB IV o=⟨#[45,50,48]⟩ /\ rpA IV r=⟨#[54,48]⟩:=by
 have t:=uT oM h;have C:=Iq E;refine⟨?_,by rw[C,Iu],?_,?_⟩
 ·unfold rpM rpL;rw[if_neg mV.2,if_neg mV.1,t,show IV.lo=⟨#[53,57,48,48]⟩ from rfl,uR,show decide (0 <= sgI ((5880:Rat)-5900).num)=false by decide+kernel];rfl
 ·unfold rpB;rw[if_neg mV.1,t,show IV.lo=⟨#[53,57,48,48]⟩ from rfl,uR]
  kernel_rfl
 ·unfold rpA;rw[if_neg mV.2,C,show IV.hi=⟨#[54,49,48,48]⟩ from rfl,zU]
  kernel_rfl
theorem uU{m:Nat}(r:m <= 1):oF (kP m) kF 6 16000:=by
 have h:∀k,(kF.f k).size <= 6:=fun k=>by unfold kF;dsimp only;split <;> decide
 have e:m=0 \/ m=1:=oM
 refine⟨fun i _ k _=> ?_,fun i _=> ?_,fun k _=>h k,by decide,?_,by decide⟩
 ·show(ByteArray.mk #[49]).size <= 6;decide
 ·show(ByteArray.mk #[45,49,52,48,48,48]).size <= 6;decide
 ·rcases e with rfl | rfl <;> decide+kernel
end
section
open Go.RowKit
open Lp (RL upd eH)
theorem uV{w:World}{g:Nat}(h:Row w g 76 [.string ⟨#[97]⟩, .int .i64 10000, .int .i64 (-100), .int .i64 50, .string ⟨#[98]⟩, .int .i64 4000, .int .i64 (-20), .int .i64 20]):TD w (.slice (some ⟨g,0,none⟩) 2 2) 2 (kP 0).s (kP 0).a (kP 0).l (kP 0).u:=by
 refine⟨_,_,rfl,Nat.le_refl _,by unfold maxLen;omega, .inr ⟨g,0,rfl,fun j r=> ?_⟩⟩;have:j=0 \/ j=1:=oM
 rcases this with rfl | rfl
 ·exact⟨h.at_ 0 rfl,h.at_ 1 rfl,h.at_ 2 rfl,h.at_ 3 rfl⟩
 ·exact⟨h.at_ 4 rfl,h.at_ 5 rfl,h.at_ 6 rfl,h.at_ 7 rfl⟩
theorem uW{w:World}{g:Nat}(h:Row w g 126 [.int .i64 0, .string ⟨#[49]⟩, .int .i64 1, .string ⟨#[45,49]⟩]):TT w (.slice (some ⟨g,0,none⟩) 2 2) 2 kF.d kF.f:=by
 refine⟨_,_,rfl,Nat.le_refl _,by unfold maxLen;omega, .inr ⟨g,0,rfl,fun j r=> ?_⟩⟩;have:j=0 \/ j=1:=oM
 rcases this with rfl | rfl
 ·exact⟨h.at_ 0 rfl,h.at_ 1 rfl⟩
 ·exact⟨h.at_ 2 rfl,h.at_ 3 rfl⟩
theorem IA{w:World}{g:Nat}(h:Row w g 126 [.int .i64 0, .string ⟨#[49]⟩, .int .i64 1, .string ⟨#[49]⟩]):TT w (.slice (some ⟨g,0,none⟩) 2 2) 2 kG.d kG.f:=by
 refine⟨_,_,rfl,Nat.le_refl _,by unfold maxLen;omega, .inr ⟨g,0,rfl,fun j r=> ?_⟩⟩;have:j=0 \/ j=1:=oM
 rcases this with rfl | rfl
 ·exact⟨h.at_ 0 rfl,h.at_ 1 rfl⟩
 ·exact⟨h.at_ 2 rfl,h.at_ 3 rfl⟩
theorem zZ(w:World):TC w (.slice none 0 0) 0 (kP 0).t (kP 0).F:=⟨none,0,rfl,Nat.le_refl _,Nat.zero_le _, .inl rfl⟩
theorem IC{w:World}{g t:Nat}(h:Row w g 120 [.string ⟨#[115,117,109]⟩, .string ⟨#[45,49,52,48,48,48]⟩, .slice (some ⟨t,0,none⟩) 2 2])(r:Row w t 126 [.int .i64 0, .string ⟨#[49]⟩, .int .i64 1, .string ⟨#[49]⟩]):TC w (.slice (some ⟨g,0,none⟩) 1 1) 1 (kP 1).t (kP 1).F:=by
 refine⟨_,_,rfl,Nat.le_refl _,by unfold maxLen;omega, .inr ⟨g,0,rfl,fun j C=> ?_⟩⟩;obtain rfl:j=0:=oM
 exact⟨_,h.at_ 0 rfl,h.at_ 1 rfl,h.at_ 2 rfl,IA r⟩
theorem jk.ts{w:World}{A:Option Addr}{g n m c:Nat}{o:Wst}{s:ByteArray}(h:jk w (.agg #[.string s, .slice A n c, .slice (some ⟨g,0,none⟩) 1 1]) n m o):TS w (.slice A n c) n (fun j=>eB (o.x j)):=by
 obtain⟨X,t,C,h1,r,_⟩:=h;simp only[Value.agg.injEq,Array.mk.injEq,List.cons.injEq,Value.slice.injEq,true_and,and_true] at h1;obtain⟨_,⟨rfl,rfl⟩,_⟩:=h1;exact r.1.1
set_option maxRecDepth 100000 in
set_option maxHeartbeats 12800000 in
theorem IE(w:World):
  Calls prog 56 #[] w fun e w'=>∃gD gT,e= .returned (.tuple #[.agg #[.slice (some ⟨gD,0,none⟩) 2 2, .slice none 0 0], .agg #[.string ⟨#[48]⟩, .slice (some ⟨gT,0,none⟩) 2 2]]) /\ (Row w' gD 76 [.string ⟨#[97]⟩, .int .i64 10000, .int .i64 (-100), .int .i64 50, .string ⟨#[98]⟩, .int .i64 4000, .int .i64 (-20), .int .i64 20] /\ Row w' gT 126 [.int .i64 0, .string ⟨#[49]⟩, .int .i64 1, .string ⟨#[45,49]⟩]) /\ Below w.heap.size w w':=by
 obtain⟨W,hW,t,C,r⟩:=eN2 w [.slice none 0 0, .slice none 0 0] 58 [.string ⟨#[]⟩, .slice none 0 0] 25;go_enter func56,ntmps56
 go_upto_region 1 with (fail)
 rw[<- hW];clear hW;obtain⟨v1,O⟩:=eX (W.alloc (.cells #[.string ⟨#[97]⟩, .int .i64 10000, .int .i64 (-100), .int .i64 50, .string ⟨#[98]⟩, .int .i64 4000, .int .i64 (-20), .int .i64 20] 76));obtain⟨E,Y⟩:=eX (W.heap.size);have h:Below W.heap.size W v1:=by rw[O];exact eD _ _
 have G:Hid (Row v1 E 76 [.string ⟨#[97]⟩, .int .i64 10000, .int .i64 (-100), .int .i64 50, .string ⟨#[98]⟩, .int .i64 4000, .int .i64 (-20), .int .i64 20]):=lH (by rw[O,Y];exact eO _ _);have LD:Hid (w.heap.size <= E):=lH (by rw[Y];exact r.o.size);replace t:=rW t h;replace C:=rW C h;replace r:=bT r h;clear h;obtain⟨v2,a1⟩:=eX (v1.alloc (.cells #[.slice (some ⟨E,0,none⟩) 2 2, .slice none 0 0] 58));obtain⟨a2,Z⟩:=eX (v1.heap.size);have h:Below v1.heap.size v1 v2:=by rw[a1];exact eD _ _
 have BP:Hid (Row v2 a2 58 [.slice (some ⟨E,0,none⟩) 2 2, .slice none 0 0]):=lH (by rw[a1,Z];exact eO _ _);have LP:Hid (w.heap.size <= a2):=lH (by rw[Z];exact r.o.size);replace t:=rW t h;replace C:=rW C h;replace G:=rW G h;replace r:=bT r h;clear h
 go_upto_region 2 with (fail)
 have a3:W.heap.size=E:=by rw[Y]
 have a4:W.heap.size+1=a2:=by rw[Z,O];simp
 try rw[a4]
 try rw[a3]
 rw[<- O, <- a1];clear O Y a3 a1 Z a4;obtain⟨ai,aj⟩:=aT2 BP.o;have ak:=BP.o.lt;obtain⟨v3,R⟩:=eX (v2.alloc (.cells #[.int .i64 0, .string ⟨#[49]⟩, .int .i64 1, .string ⟨#[45,49]⟩] 126));obtain⟨M,a0⟩:=eX (v2.heap.size);have h:Below v2.heap.size v2 v3:=by rw[R];exact eD _ _
 have BT:Hid (Row v3 M 126 [.int .i64 0, .string ⟨#[49]⟩, .int .i64 1, .string ⟨#[45,49]⟩]):=lH (by rw[R,a0];exact eO _ _);have LT:Hid (w.heap.size <= M):=lH (by rw[a0];exact r.o.size);replace t:=rW t h;replace C:=rW C h;replace G:=rW G h;replace r:=bT r h;clear h;obtain⟨ab,a6,ad,a8⟩:=aF2 t.o;have af:=t.o.lt;obtain⟨ac,a7,ae,a9⟩:=aF2 C.o;have ag:=C.o.lt;rw[R] at ab a6 ad a8 ac a7 ae a9 af ag;go_wp2_with fail
 have a5:v2.heap.size=M:=by rw[a0]
 try rw[a5]
 rw[<- R];clear R a0 a5;clear ai aj ak ab a6 ad a8 ac a7 ae a9 af ag;have aa:w.heap.size≠w.heap.size+1:=oM
 have V:World.grownBy v3 ((v3.setCell ⟨w.heap.size,0,none⟩ (.slice (some ⟨E,0,none⟩) 2 2)).setCell ⟨w.heap.size,1,none⟩ (.slice none 0 0)) (some w.heap.size):=iP _ _ _ _ _ _;have X:World.grownBy ((v3.setCell ⟨w.heap.size,0,none⟩ (.slice (some ⟨E,0,none⟩) 2 2)).setCell ⟨w.heap.size,1,none⟩ (.slice none 0 0)) ((((v3.setCell ⟨w.heap.size,0,none⟩ (.slice (some ⟨E,0,none⟩) 2 2)).setCell ⟨w.heap.size,1,none⟩ (.slice none 0 0)).setCell ⟨w.heap.size+1,0,none⟩ (.string ⟨#[48]⟩)).setCell ⟨w.heap.size+1,1,none⟩ (.slice (some ⟨M,0,none⟩) 2 2)) (some (w.heap.size+1)):=iP _ _ _ _ _ _;have T:=(t.o.set 0 (.slice (some ⟨E,0,none⟩) 2 2)).set 1 (.slice none 0 0);have T:=T.other X aa;have U:=C.o.other V (fun e=>aa e.symm);have U:=(U.set 0 (.string ⟨#[48]⟩)).set 1 (.slice (some ⟨M,0,none⟩) 2 2);have qD:=(G.o.other V (fun e=>by have h0:=t.o.ty (show Row _ w.heap.size _ _ from by rw[<- e];exact G.o);revert h0;decide)).other X (fun e=>by have h0:=C.o.ty (show Row _ (w.heap.size+1) _ _ from by rw[<- e];exact G.o);revert h0;decide);have qT:=(BT.o.other V (fun e=>by have h0:=t.o.ty (show Row _ w.heap.size _ _ from by rw[<- e];exact BT.o);revert h0;decide)).other X (fun e=>by have h0:=C.o.ty (show Row _ (w.heap.size+1) _ _ from by rw[<- e];exact BT.o);revert h0;decide);have qb:=(r.o.grown V r.o.size (by first | (simp;done) | (simp;omega))).grown X (by have:=r.o.size;simp;omega) (by first | (simp;done) | (simp;omega));obtain⟨wE,ah⟩:=eX ((((v3.setCell ⟨w.heap.size,0,none⟩ (.slice (some ⟨E,0,none⟩) 2 2)).setCell ⟨w.heap.size,1,none⟩ (.slice none 0 0)).setCell ⟨w.heap.size+1,0,none⟩ (.string ⟨#[48]⟩)).setCell ⟨w.heap.size+1,1,none⟩ (.slice (some ⟨M,0,none⟩) 2 2));rw[<- ah] at T U qD qT qb ⊢;have k0:=T.at_ 0 rfl;have k1:=T.at_ 1 rfl;have k2:=U.at_ 0 rfl;have k3:=U.at_ 1 rfl;refine bodyPost_ret (v:= .tuple #[.agg #[.slice (some ⟨E,0,none⟩) 2 2, .slice none 0 0], .agg #[.string ⟨#[48]⟩, .slice (some ⟨M,0,none⟩) 2 2]]) (by simp[results,results56,go_sem,k0,k1,k2,k3]) rfl ?_;exact⟨_,_,rfl,⟨qD,qT⟩,qb⟩
end
end Go.Proofs.YtokagbahdkfagaaGreatDoor
