/- Parts of this proof: SFAddF FragF. -/
import Derived.Test.YtokagbahdkfagaaGreatDoorMAE
import Derived.Test.YtokagbahdkfagaaGreatDoorMCL
import Derived.Test.YtokagbahdkfagaaGreatDoorMAC
namespace Go.Proofs.YtokagbahdkfagaaGreatDoor
open Go.Proofs.Tryz
section
open Go.RowKit
open Lp (RL upd eH)
set_option maxRecDepth 100000 in
set_option maxHeartbeats 12800000 in
theorem Np(F G:Frm)(T U:Option Addr)(kT kU:Nat)(w:World)(hT:TT w (.slice T F.N kT) F.N F.d F.f)(hU:TT w (.slice U G.N kU) G.N G.d G.f)(ht:Tab w)(hg:fF w):
  Calls prog 43 #[.agg #[.string F.c, .slice T F.N kT], .agg #[.string G.c, .slice U G.N kU]] w fun e w'=>∃V cV,e= .returned (.tuple #[.agg #[.string (ME F G).c, .slice V (ME F G).N cV], .int .i64 ((MJ F G:Nat):Nat)]) /\ TTN w' (.slice V (ME F G).N cV) (ME F G).N (ME F G).d (ME F G).f /\ Below w.heap.size w w':=by
 have HT:=lH hT;have HU:=lH hU;have a6:=lH ht;have a2:=lH hg;clear hT hU ht hg;obtain⟨W,hW,M,O,t,r⟩:=eN3 w [.string F.c, .slice T F.N kT] 25 [.string G.c, .slice U G.N kU] 25 [.string ⟨#[]⟩, .slice none 0 0] 25;go_enter func43,ntmps43
 go_upto_region 1 with (fail)
 rw[<- hW];clear hW;obtain⟨a8,aa⟩:=aT2 M.o;have ac:=M.o.lt;go_wp2_with fail
 clear a8 aa ac;refine(qd 64 F T kT _ (HT.o.below r.o) (a2.o.below r.o)).mono ?_;rintro e w1 ⟨rfl,h⟩;replace M:=rW M h;replace O:=rW O h;replace t:=rW t h;replace r:=bT r h;clear h;obtain⟨E,R⟩:=eX (iL 64 F);rw[<- R];have HE:=lH R;clear R;by_cases h0:E=0
 ·subst h0;obtain⟨a9,ab⟩:=aT2 O.o;have ad:=O.o.lt;go_wp2_with fail
  clear a9 ab ad;refine(qd 64 G U kU _ (HU.o.below r.o) (a2.o.below r.o)).mono ?_;rintro e w2 ⟨rfl,h⟩;replace M:=rW M h;replace O:=rW O h;replace t:=rW t h;replace r:=bT r h;clear h;obtain⟨E2,R⟩:=eX (iL 64 G);rw[<- R];have a0:=lH R;clear R;by_cases h0:E2=0
  ·subst h0
   go_upto_region 7 with (fail)
   refine iC (fun w'=> w'.cell? ⟨w.heap.size,0,none⟩=some (.string F.c) /\ w'.cell? ⟨w.heap.size,1,none⟩=some (.slice T F.N kT) /\ w'.cell? ⟨w.heap.size+1,0,none⟩=some (.string G.c) /\ w'.cell? ⟨w.heap.size+1,1,none⟩=some (.slice U G.N kU)) (fun i=>decide (6 <= i)) kR ?_;obtain⟨y1,a4⟩:=eX (w2.drew);rw[<- a4];have h:Below w2.heap.size w2 y1:=by rw[a4];exact(Below.refl _ _).drew
   clear a4;replace M:=rW M h;replace O:=rW O h;replace t:=rW t h;replace r:=bT r h;have ae:=lH h;clear h;have Y:=And.intro (M.o.at_ 0 rfl) (And.intro (M.o.at_ 1 rfl) (And.intro (O.o.at_ 0 rfl) (O.o.at_ 1 rfl)));refine tKs 0 20 Y ?_;refine tKs 1 21 Y ?_;refine rD 2 (fun K hK=> ?_);go_simp;refine(nL 1 dC dC _).mono ?_;rintro e y2 ⟨vs,rfl,hs,h⟩;obtain⟨ss,As,ls,cs,ts,Bs,ms,ds,rfl⟩:=hs.shape;have VS:=lH hs;clear hs;replace M:=rW M h;replace O:=rW O h;replace t:=rW t h;replace r:=bT r h;clear h;clear Y;have Y:=And.intro (M.o.at_ 0 rfl) (And.intro (M.o.at_ 1 rfl) (And.intro (O.o.at_ 0 rfl) (O.o.at_ 1 rfl)));refine kH hK Y ?_;clear hK K;refine rD 3 (fun K hK=> ?_);go_simp;refine(Na F G T U kT kU _ 1 _ (HT.o.below r.o) (HU.o.below r.o) (qg HE.o.symm) (qg a0.o.symm) (show eP _ _ (1:Rat) from VS.o) (RL.mono (k:=1) (by unfold RL;decide) dC) (a6.o.below r.o) (a2.o.below r.o)).mono ?_;rintro e y3 ⟨V,cV,rfl,hV,h⟩;rw[<- (MM HE.o.symm a0.o.symm).2] at hV;rw[<- (MM HE.o.symm a0.o.symm).2, <- (MM HE.o.symm a0.o.symm).1];obtain⟨L,hL⟩:∃L:Frm,L=ME F G:=⟨_,rfl⟩
   obtain⟨E,R⟩:=eX (MJ F G);rw[<- hL] at hV;rw[<- hL, <- R];have HL:=lH hL;have a5:=lH R;have HV:=lH hV;clear hL R hV;replace M:=rW M h;replace O:=rW O h;replace t:=rW t h;replace r:=bT r h;clear h;clear Y;have Y:=And.intro (M.o.at_ 0 rfl) (And.intro (M.o.at_ 1 rfl) (And.intro (O.o.at_ 0 rfl) (O.o.at_ 1 rfl)));refine kH hK Y ?_;clear hK K;refine tKs 4 24 Y ?_;refine tKs 5 25 Y ?_;refine rD 6 (fun K hK=> ?_);obtain⟨Z,f0,k1,f1⟩:=aF2 t.o;have kl:=t.o.lt;go_simp;refine kL hK ?_;clear hK K;refine tWs 7 5 ?_;refine dN ?_ _;clear Y;go_wp2_with fail
   clear kl Z k1 f0 f1;have hg:World.grownBy y3 ((y3.setCell ⟨w.heap.size+1+1,0,none⟩ (.string L.c)).setCell ⟨w.heap.size+1+1,1,none⟩ (.slice V L.N cV)) (some (w.heap.size+1+1)):=iP _ _ _ _ _ _;have X:=(t.o.set 0 (.string L.c)).set 1 (.slice V L.N cV);have hT:=HV.o.other hg t.o dC;have hB:=r.o.grown hg r.o.size (by first | (simp;done) | (simp;omega));obtain⟨wE,a1⟩:=eX (((y3.setCell ⟨w.heap.size+1+1,0,none⟩ (.string L.c)).setCell ⟨w.heap.size+1+1,1,none⟩ (.slice V L.N cV)));rw[<- a1] at X hT hB ⊢;have Z:=X.at_ 0 rfl;have k1:=X.at_ 1 rfl;refine bodyPost_ret (v:= .tuple #[.agg #[.string L.c, .slice V L.N cV], .int .i64 (E:Nat)]) (by simp[results,results43,go_sem,Z,k1]) rfl ?_;exact⟨V,cV,by rw[HL.o,a5.o],by rw[<- HL.o];exact hT,hB⟩
  ·have H1:=lH h0;clear h0;have a3:¬((E2:Nat):Int)=0:=by have:=H1.o;omega
   have a7:(((E2:Nat):Int) !=0)=true:=by simpa using a3
   obtain⟨Z,f0,k1,f1⟩:=aF2 t.o;have kl:=t.o.lt;go_wp2_with fail
   clear kl Z k1 f0 f1;have hg:World.grownBy w2 ((w2.setCell ⟨w.heap.size+1+1,0,none⟩ (.string ⟨#[]⟩)).setCell ⟨w.heap.size+1+1,1,none⟩ (.slice none 0 0)) (some (w.heap.size+1+1)):=iP _ _ _ _ _ _;have X:=(t.o.set 0 (.string ⟨#[]⟩)).set 1 (.slice none 0 0);have hB:=r.o.grown hg r.o.size (by first | (simp;done) | (simp;omega));obtain⟨wE,a1⟩:=eX (((w2.setCell ⟨w.heap.size+1+1,0,none⟩ (.string ⟨#[]⟩)).setCell ⟨w.heap.size+1+1,1,none⟩ (.slice none 0 0)));rw[<- a1] at X hB ⊢;have Z:=X.at_ 0 rfl;have k1:=X.at_ 1 rfl;refine bodyPost_ret (v:= .tuple #[.agg #[.string ⟨#[]⟩, .slice none 0 0], .int .i64 (E2:Nat)]) (by simp[results,results43,go_sem,Z,k1]) rfl ?_;have ea:MJ F G=E2:=by unfold MJ;rw[<- HE.o,if_neg dC, <- a0.o,if_pos H1.o]
   have ef:ME F G=noF:=by unfold ME;rw[ea,if_pos H1.o]
   rw[ea,ef];exact⟨none,0,rfl,(IW.nil _ 126 2 (cT (fun _=>0) (fun _=>⟨#[]⟩))).ttn,hB⟩
 ·have H1:=lH h0;clear h0;have a3:¬((E:Nat):Int)=0:=by have:=H1.o;omega
  have a7:(((E:Nat):Int) !=0)=true:=by simpa using a3
  obtain⟨Z,f0,k1,f1⟩:=aF2 t.o;have kl:=t.o.lt;go_wp2_with fail
  clear kl Z k1 f0 f1;have hg:World.grownBy w1 ((w1.setCell ⟨w.heap.size+1+1,0,none⟩ (.string ⟨#[]⟩)).setCell ⟨w.heap.size+1+1,1,none⟩ (.slice none 0 0)) (some (w.heap.size+1+1)):=iP _ _ _ _ _ _;have X:=(t.o.set 0 (.string ⟨#[]⟩)).set 1 (.slice none 0 0);have hB:=r.o.grown hg r.o.size (by first | (simp;done) | (simp;omega));obtain⟨wE,a1⟩:=eX (((w1.setCell ⟨w.heap.size+1+1,0,none⟩ (.string ⟨#[]⟩)).setCell ⟨w.heap.size+1+1,1,none⟩ (.slice none 0 0)));rw[<- a1] at X hB ⊢;have Z:=X.at_ 0 rfl;have k1:=X.at_ 1 rfl;refine bodyPost_ret (v:= .tuple #[.agg #[.string ⟨#[]⟩, .slice none 0 0], .int .i64 (E:Nat)]) (by simp[results,results43,go_sem,Z,k1]) rfl ?_;have ea:MJ F G=E:=by unfold MJ;rw[<- HE.o,if_pos H1.o]
  have ef:ME F G=noF:=by unfold ME;rw[ea,if_pos H1.o]
  rw[ea,ef];exact⟨none,0,rfl,(IW.nil _ 126 2 (cT (fun _=>0) (fun _=>⟨#[]⟩))).ttn,hB⟩
theorem MN:iL 64 zeF=0:=by
 have h:gm (⟨#[48]⟩:ByteArray).data.toList=0:=by
  have h0:(⟨#[48]⟩:ByteArray)=eB 0:=by kernel_rfl
  have h1:(⟨#[48]⟩:ByteArray).size <= 400:=dC
  rw[h0] at h1 ⊢;exact Jd h1
 unfold iL zeF;rw[if_neg dC];show(if gm (⟨#[48]⟩:ByteArray).data.toList≠0 then gm (⟨#[48]⟩:ByteArray).data.toList else if 64<0 then 6 else fE 0 (fG 64 (fun _=>0) (fun _=>⟨#[]⟩)))=0;rw[h];rfl
set_option maxRecDepth 100000 in
set_option maxHeartbeats 12800000 in
theorem Nq(F:Frm)(T:Option Addr)(kT:Nat)(s:ByteArray)(w:World)(hT:TT w (.slice T F.N kT) F.N F.d F.f)(ht:Tab w)(Y:fF w):
  Calls prog 44 #[.agg #[.string F.c, .slice T F.N kT], .string s] w fun e w'=>∃V cV,e= .returned (.tuple #[.agg #[.string (MF F s).c, .slice V (MF F s).N cV], .int .i64 ((MK F s:Nat):Nat)]) /\ TTN w' (.slice V (MF F s).N cV) (MF F s).N (MF F s).d (MF F s).f /\ Below w.heap.size w w':=by
 have HT:=lH hT;have aa:=lH ht;have a3:=lH Y;clear hT ht Y;obtain⟨W,hW,U,r,h⟩:=eN2 w [.string F.c, .slice T F.N kT] 25 [.string ⟨#[]⟩, .slice none 0 0] 25;go_enter func44,ntmps44
 go_upto_region 1 with (fail)
 rw[<- hW];clear hW;obtain⟨a5,a6⟩:=aT2 U.o;have a7:=U.o.lt;go_wp2_with fail
 clear a5 a6 a7;refine(qd 64 F T kT _ (HT.o.below h.o) (a3.o.below h.o)).mono ?_;rintro e w1 ⟨rfl,t⟩;replace U:=rW U t;replace r:=rW r t;replace h:=bT h t;clear t;obtain⟨E,G⟩:=eX (iL 64 F);rw[<- G];have HE:=lH G;clear G;by_cases h0:E=0
 ·subst h0;go_wp2_with fail
  refine(pV s _ (a3.o.below h.o)).mono ?_;rintro e w2 ⟨hr,t⟩;replace U:=rW U t;replace r:=rW r t;replace h:=bT h t;clear t
  rcases hr with ⟨h0,rfl⟩ | ⟨q,v,h0,hl,rfl,hv⟩
  ·obtain⟨E2,G⟩:=eX (gm s.data.toList);rw[<- G] at h0 ⊢;have a8:=lH G;have H1:=lH h0;clear G h0;obtain⟨w3,Z⟩:=eX (w2.alloc (.cells #[.bool false, .slice none 0 0, .bool false, .slice none 0 0] 40));obtain⟨gK,a0⟩:=eX (w2.heap.size);have X:Below w2.heap.size w2 w3:=by rw[Z];exact eD _ _
   have RK:Hid (Row w3 gK 40 [.bool false, .slice none 0 0, .bool false, .slice none 0 0]):=lH (by rw[Z,a0];exact eO _ _);replace r:=rW r X;replace h:=bT h X;clear X
   go_upto_region 5 with (fail)
   rw[<- Z];clear Z a0;have a4:¬((E2:Nat):Int)=0:=by have:=H1.o;omega
   have ab:(((E2:Nat):Int) !=0)=true:=by simpa using a4
   obtain⟨O,f0,R,f1⟩:=aF2 r.o;have kl:=r.o.lt;go_wp2_with fail
   clear kl O R f0 f1;have Y:World.grownBy w3 ((w3.setCell ⟨w.heap.size+1,0,none⟩ (.string ⟨#[]⟩)).setCell ⟨w.heap.size+1,1,none⟩ (.slice none 0 0)) (some (w.heap.size+1)):=iP _ _ _ _ _ _;have M:=(r.o.set 0 (.string ⟨#[]⟩)).set 1 (.slice none 0 0);have hB:=h.o.grown Y h.o.size (by first | (simp;done) | (simp;omega));obtain⟨wE,a1⟩:=eX (((w3.setCell ⟨w.heap.size+1,0,none⟩ (.string ⟨#[]⟩)).setCell ⟨w.heap.size+1,1,none⟩ (.slice none 0 0)));rw[<- a1] at M hB ⊢;have O:=M.at_ 0 rfl;have R:=M.at_ 1 rfl;refine bodyPost_ret (v:= .tuple #[.agg #[.string ⟨#[]⟩, .slice none 0 0], .int .i64 (E2:Nat)]) (by simp[results,results44,go_sem,O,R]) rfl ?_;have ea:MK F s=E2:=by unfold MK;rw[<- HE.o,if_neg dC, <- a8.o,if_pos H1.o]
   have ef:MF F s=noF:=by unfold MF;rw[ea,if_pos H1.o]
   rw[ea,ef];exact⟨none,0,rfl,(IW.nil _ 126 2 (cT (fun _=>0) (fun _=>⟨#[]⟩))).ttn,hB⟩
  ·obtain⟨sk,Ak,lk,ck,tk,Bk,mk,dk,rfl⟩:=hv.shape;have VK:=lH hv;have H0:=lH h0;have HQ:Hid (qof s=q):=lH (jQ hl);clear h0 hl hv;obtain⟨w3,Z⟩:=eX (w2.alloc (.cells #[.bool sk, .slice Ak lk ck, .bool tk, .slice Bk mk dk] 40));obtain⟨gK,a0⟩:=eX (w2.heap.size);have X:Below w2.heap.size w2 w3:=by rw[Z];exact eD _ _
   have RK:Hid (Row w3 gK 40 [.bool sk, .slice Ak lk ck, .bool tk, .slice Bk mk dk]):=lH (by rw[Z,a0];exact eO _ _);replace U:=rW U X;replace r:=rW r X;replace VK:=lH (VK.o.below X);replace h:=bT h X;clear X
   go_upto_region 7 with (fail)
   rw[<- Z, <- a0];clear Z a0;obtain⟨a5,a6⟩:=aT2 U.o;have a7:=U.o.lt;obtain⟨ac,ad,ae,af⟩:=aT4 RK.o;have ag:=RK.o.lt;go_wp2_with fail
   clear a5 a6 a7 ac ad ae af ag;rw[<- HQ.o] at VK;refine(Na F zeF T none kT 0 _ (qof s) _ (HT.o.below h.o) ⟨none,0,rfl,Nat.le_refl _,Nat.zero_le _, .inl rfl⟩ (qg HE.o.symm) (qg MN) VK.o (ig (oq H0.o) dC) (aa.o.below h.o) (a3.o.below h.o)).mono ?_;rintro e w4 ⟨V,cV,rfl,hV,t⟩;replace r:=rW r t;replace h:=bT h t;clear t;have a2:=MO HE.o.symm H0.o;rw[<- a2.2] at hV;rw[<- a2.2, <- a2.1];clear a2;obtain⟨L,hL⟩:∃L:Frm,L=MF F s:=⟨_,rfl⟩
   obtain⟨E,G⟩:=eX (MK F s);rw[<- hL] at hV;rw[<- hL, <- G];have HL:=lH hL;have a9:=lH G;have HV:=lH hV;clear hL G hV;obtain⟨O,f0,R,f1⟩:=aF2 r.o;have kl:=r.o.lt;go_wp2_with fail
   clear kl O R f0 f1;have Y:World.grownBy w4 ((w4.setCell ⟨w.heap.size+1,0,none⟩ (.string L.c)).setCell ⟨w.heap.size+1,1,none⟩ (.slice V L.N cV)) (some (w.heap.size+1)):=iP _ _ _ _ _ _;have M:=(r.o.set 0 (.string L.c)).set 1 (.slice V L.N cV);have hT:=HV.o.other Y r.o dC;have hB:=h.o.grown Y h.o.size (by first | (simp;done) | (simp;omega));obtain⟨wE,a1⟩:=eX (((w4.setCell ⟨w.heap.size+1,0,none⟩ (.string L.c)).setCell ⟨w.heap.size+1,1,none⟩ (.slice V L.N cV)));rw[<- a1] at M hT hB ⊢;have O:=M.at_ 0 rfl;have R:=M.at_ 1 rfl;refine bodyPost_ret (v:= .tuple #[.agg #[.string L.c, .slice V L.N cV], .int .i64 (E:Nat)]) (by simp[results,results44,go_sem,O,R]) rfl ?_;exact⟨V,cV,by rw[HL.o,a9.o],by rw[<- HL.o];exact hT,hB⟩
 ·have H1:=lH h0;clear h0;have a4:¬((E:Nat):Int)=0:=by have:=H1.o;omega
  have ab:(((E:Nat):Int) !=0)=true:=by simpa using a4
  obtain⟨O,f0,R,f1⟩:=aF2 r.o;have kl:=r.o.lt;go_wp2_with fail
  clear kl O R f0 f1;have Y:World.grownBy w1 ((w1.setCell ⟨w.heap.size+1,0,none⟩ (.string ⟨#[]⟩)).setCell ⟨w.heap.size+1,1,none⟩ (.slice none 0 0)) (some (w.heap.size+1)):=iP _ _ _ _ _ _;have M:=(r.o.set 0 (.string ⟨#[]⟩)).set 1 (.slice none 0 0);have hB:=h.o.grown Y h.o.size (by first | (simp;done) | (simp;omega));obtain⟨wE,a1⟩:=eX (((w1.setCell ⟨w.heap.size+1,0,none⟩ (.string ⟨#[]⟩)).setCell ⟨w.heap.size+1,1,none⟩ (.slice none 0 0)));rw[<- a1] at M hB ⊢;have O:=M.at_ 0 rfl;have R:=M.at_ 1 rfl;refine bodyPost_ret (v:= .tuple #[.agg #[.string ⟨#[]⟩, .slice none 0 0], .int .i64 (E:Nat)]) (by simp[results,results44,go_sem,O,R]) rfl ?_;have ea:MK F s=E:=by unfold MK;rw[<- HE.o,if_pos H1.o]
  have ef:MF F s=noF:=by unfold MF;rw[ea,if_pos H1.o]
  rw[ea,ef];exact⟨none,0,rfl,(IW.nil _ 126 2 (cT (fun _=>0) (fun _=>⟨#[]⟩))).ttn,hB⟩
end
section
open Go.RowKit
def Nr:Code -> Code
 | .seq a _=>a
 | c=>c
def MR:Code -> Code
 | .seq _ b=>b
 | c=>c
def Nb(R:Act -> World -> Prop):Exit -> Act -> World -> Prop
 | .normal,a,w=>R a w
 | _,_,_=>False
theorem Ns{P:Program}{c:Code}{Q:Exit -> Act -> World -> Prop}{a:Act}{w:World}(h:Code.wp P c (Nb (Q .normal)) a w):Code.wp P c Q a w:=
 wp_mono h fun e a w h=>by cases e <;> first | exact h | exact h.elim
end
end Go.Proofs.YtokagbahdkfagaaGreatDoor
