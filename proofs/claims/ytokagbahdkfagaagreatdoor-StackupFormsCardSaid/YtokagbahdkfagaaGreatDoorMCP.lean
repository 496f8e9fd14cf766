/- Parts of this proof: LForms. -/
import Derived.Test.YtokagbahdkfagaaGreatDoorMCM
import Derived.Test.YtokagbahdkfagaaGreatDoorMCO
import Derived.Test.YtokagbahdkfagaaGreatDoorMBL
namespace Go.Proofs.YtokagbahdkfagaaGreatDoor
open Go.Proofs.Tryz
open Go.RowKit
open Lp (RL upd eH)
theorem Nv{q:Rat}{c:Nat -> Rat}{E:Nat}(h:E=MH q c):E=iL 64 (MG (eB q) c 64) /\ MB q c=if E≠0 then noF else MG (eB q) c 64:=by
 rw[Nh,h];unfold MB MH;by_cases e:MC q c 64=true
 ·rw[if_pos e,if_pos e,if_pos dC];exact⟨rfl,rfl⟩
 ·rw[if_neg e,if_neg e,if_neg dC];exact⟨rfl,rfl⟩
theorem N7{F G:Frm}{k:Rat}:MG (eB (k*qof F.c+1*qof G.c)) (fun j=>k*iw F F.N j+1*iw G G.N j) 64=MG (eB (adQ F G k)) (adC F G k) 64:=by
 have h1:k*qof F.c+1*qof G.c=adQ F G k:=by unfold adQ;grind
 have h:(fun j=>k*iw F F.N j+1*iw G G.N j)=adC F G k:=by funext j;unfold adC;grind
 rw[h1,h]
theorem Nw{q:Rat}{c:Nat -> Rat}(E:RL 10000 q)(r:∀j,RL 10000 (c j)):(MG (eB q) c 64).c.size <= 65536 /\ ∀k,k<(MG (eB q) c 64).N -> ((MG (eB q) c 64).f k).size <= 65536:=by
 refine⟨Nat.le_trans (ky E) dC,fun k t=> ?_⟩;obtain⟨j,h1,G,M,h⟩:=MP 64 k t;show(cFc c 64 k).size <= 65536;rw[h];exact Nat.le_trans (ky (r j)) dC
theorem MS{F G:Frm}{k:Rat}(hF:FOk 64 F)(r:FOk 64 G)(t:RL 400 k)(j:Nat):RL 10000 (adC F G k j):=
 (((uE (K:=400) (fun i h=>ig (hF.ok.size i h) dC) dC F.N (Nat.le_refl _) j).mul t).add (uE (K:=400) (fun i h=>ig (r.ok.size i h) dC) dC G.N (Nat.le_refl _) j)).mono dC
theorem MU{F G:Frm}{k:Rat}(hF:FOk 64 F)(h:FOk 64 G)(r:RL 400 k):RL 10000 (adQ F G k):=
 (((ig hF.rF dC).mul r).add (ig h.rF dC)).mono dC
theorem Ny:noF.c.size <= 65536 /\ ∀k,k<noF.N -> (noF.f k).size <= 65536:=⟨by decide,fun k h=>absurd h (Nat.not_lt_zero k)⟩
structure Mx (R X:Frm) (ec want:Nat):Prop where
 he:ec=if want≠0 then want else iL 64 X
 hR:R=if ec≠0 then noF else X
 hs:X.c.size <= 65536 /\ ∀k,k<X.N -> (X.f k).size <= 65536
theorem Mx.err{R:Frm}{r:Nat}(h:r≠0)(t:R=noF):Mx R noF r r:=⟨by rw[if_pos h],by rw[if_pos h];exact t,Ny⟩
theorem Mx.ok{q:Rat}{c:Nat -> Rat}{R X:Frm}{r:Nat}(E:X=MG (eB q) c 64)(M:r=MH q c)(t:R=MB q c)(O:RL 10000 q)(G:∀j,RL 10000 (c j)):Mx R X r 0:=by
 subst E;have h:=Nv M;exact⟨by rw[if_neg dC];exact h.1,by rw[t];exact h.2,Nw O G⟩
set_option maxRecDepth 100000 in
set_option maxHeartbeats 12800000 in
theorem Nz(F G:Frm)(T U:Option Addr)(kT kU:Nat)(sf:ByteArray)(w:World)(hT:TT w (.slice T F.N kT) F.N F.d F.f)(hU:TT w (.slice U G.N kU) G.N G.d G.f)(hg:fF w)(ht:Tab w):
  Calls prog 9 #[.agg #[.string F.c, .slice T F.N kT], .agg #[.string G.c, .slice U G.N kU], .string sf] w fun e w'=>e= .returned (.bool true) /\ Below w.heap.size w w':=by
 have HT:=lH hT;have HU:=lH hU;have a3:=lH hg;have aq:=lH ht;clear hT hU hg ht;obtain⟨W,hW,V,O,t⟩:=eN2 w [.string F.c, .slice T F.N kT] 25 [.string G.c, .slice U G.N kU] 25;go_enter func9,ntmps9
 go_upto_region 1 with (fail)
 rw[<- hW];clear hW;go_wp2_with fail
 refine(uX _ (a3.o.below t.o) (aq.o.below t.o)).mono ?_;rintro e w1 ⟨rfl,r⟩;replace V:=rW V r;replace O:=rW O r;replace t:=bT t r;clear r;obtain⟨aa,ab⟩:=aT2 V.o;have ac:=V.o.lt;go_wp2_with fail
 clear aa ab ac;refine(II F T kT _ (HT.o.below t.o)).mono ?_;rintro e w2 ⟨hf,r⟩;replace V:=rW V r;replace O:=rW O r;replace t:=bT t r;clear r
 rcases hf with ⟨hf,rfl⟩ | ⟨hf,rfl⟩
 ·have bd:=lH hf;clear hf;obtain⟨aQ,aR⟩:=aT2 O.o;have aS:=O.o.lt;go_wp2_with fail
  clear aQ aR aS;refine(II G U kU _ (HU.o.below t.o)).mono ?_;rintro e w3 ⟨hf,r⟩;replace V:=rW V r;replace O:=rW O r;replace t:=bT t r;clear r
  rcases hf with ⟨hf,rfl⟩ | ⟨hf,rfl⟩
  ·have be:=lH hf;clear hf;by_cases b2:(402:Int)<(sf.size:Nat)
   ·have b4:decide ((402:Int)<(sf.size:Nat))=true:=decide_eq_true b2;go_wp2_with fail
    clear b2 b4;refine(uX _ (a3.o.below t.o) (aq.o.below t.o)).mono ?_;rintro e w9 ⟨rfl,r⟩;replace t:=bT t r;clear r;go_wp2_with fail
    go_returns;exact⟨rfl,t.o⟩
   ·have b4:decide ((402:Int)<(sf.size:Nat))=false:=decide_eq_false b2;have bg:Hid (sf.size <= 402):=lH oM;have bh:Hid (F.c.size <= 65536 /\ ∀k,k<F.N -> (F.f k).size <= 65536):=lH ⟨by have h:=bd.o.2.1;unfold gz at h;omega,fun k hk=>by have h:=bd.o.2.2 k hk;unfold gz at h;omega⟩;have bi:Hid (G.c.size <= 65536 /\ ∀k,k<G.N -> (G.f k).size <= 65536):=lH ⟨by have h:=be.o.2.1;unfold gz at h;omega,fun k hk=>by have h:=be.o.2.2 k hk;unfold gz at h;omega⟩
    go_upto_region 3 with (fail)
    clear b2 b4;obtain⟨aa,ab⟩:=aT2 V.o;have ac:=V.o.lt;obtain⟨aQ,aR⟩:=aT2 O.o;have aS:=O.o.lt;go_wp2_with fail
    clear aa ab ac aQ aR aS;refine(Np F G T U kT kU _ (HT.o.below t.o) (HU.o.below t.o) (aq.o.below t.o) (a3.o.below t.o)).mono ?_;rintro e w4 ⟨V1,c1,rfl,hV,r⟩;replace V:=rW V r;replace O:=rW O r;replace t:=bT t r;clear r;obtain⟨L1,hL⟩:∃L:Frm,L=ME F G:=⟨_,rfl⟩
    obtain⟨E1,hE⟩:=eX (MJ F G);rw[<- hL] at hV;rw[<- hL, <- hE];have aT:=lH hL;have aG:=lH hE;have Y:=lH hV;clear hL hE hV;obtain⟨w5,a0⟩:=eX (w4.alloc (.cells #[.string L1.c, .slice V1 L1.N c1] 25));obtain⟨gP,a1⟩:=eX (w4.heap.size);have E:Below w4.heap.size w4 w5:=by rw[a0];exact eD _ _
    have X:Hid (Row w5 gP 25 [.string L1.c, .slice V1 L1.N c1]):=lH (by rw[a0,a1];exact eO _ _);replace V:=rW V E;replace O:=rW O E;replace Y:=lH (Y.o.below E);replace t:=bT t E;clear E
    go_upto_region 4 with (fail)
    rw[<- a0, <- a1];clear a0 a1;obtain⟨aa,ab⟩:=aT2 V.o;have ac:=V.o.lt;go_wp2_with fail
    clear aa ab ac;refine(Nq F T kT sf _ (HT.o.below t.o) (aq.o.below t.o) (a3.o.below t.o)).mono ?_;rintro e w6 ⟨V2,c2,rfl,hV,r⟩;replace V:=rW V r;replace O:=rW O r;replace X:=rW X r;replace Y:=lH (Y.o.below r);replace t:=bT t r;clear r;obtain⟨L2,hL⟩:∃L:Frm,L=MF F sf:=⟨_,rfl⟩
    obtain⟨E2,hE⟩:=eX (MK F sf);rw[<- hL] at hV;rw[<- hL, <- hE];have aU:=lH hL;have aH:=lH hE;have R:=lH hV;clear hL hE hV;obtain⟨w7,a0⟩:=eX (w6.alloc (.cells #[.string L2.c, .slice V2 L2.N c2] 25));obtain⟨gQ,a1⟩:=eX (w6.heap.size);have E:Below w6.heap.size w6 w7:=by rw[a0];exact eD _ _
    have M:Hid (Row w7 gQ 25 [.string L2.c, .slice V2 L2.N c2]):=lH (by rw[a0,a1];exact eO _ _);replace V:=rW V E;replace O:=rW O E;replace X:=rW X E;replace Y:=lH (Y.o.below E);replace R:=lH (R.o.below E);replace t:=bT t E;clear E
    go_upto_region 5 with (fail)
    rw[<- a0, <- a1];clear a0 a1;obtain⟨aa,ab⟩:=aT2 V.o;have ac:=V.o.lt;go_wp2_with fail
    clear aa ab ac;refine(IK 64 F T kT _ (HT.o.below t.o) bh.o (a3.o.below t.o)).mono ?_;rintro e w8 ⟨rfl,r⟩;replace V:=rW V r;replace O:=rW O r;replace X:=rW X r;replace M:=rW M r;replace Y:=lH (Y.o.below r);replace R:=lH (R.o.below r);replace t:=bT t r;clear r;obtain⟨D1,hE⟩:=eX (iL 64 F);rw[<- hE];have a2:=lH hE;clear hE;by_cases h0:D1=0
    ·subst h0
     go_upto_region 8 with (fail)
     obtain⟨aQ,aR⟩:=aT2 O.o;have aS:=O.o.lt;go_wp2_with fail
     clear aQ aR aS;refine(IK 64 G U kU _ (HU.o.below t.o) bi.o (a3.o.below t.o)).mono ?_;rintro e w9 ⟨rfl,r⟩;replace V:=rW V r;replace O:=rW O r;replace X:=rW X r;replace M:=rW M r;replace Y:=lH (Y.o.below r);replace R:=lH (R.o.below r);replace t:=bT t r;clear r;obtain⟨D2,hE⟩:=eX (iL 64 G);rw[<- hE];have ad:=lH hE;clear hE;go_wp2_with fail
     refine(um sf _ (by have:=bg.o;omega) (a3.o.below t.o)).mono ?_;rintro e wa ⟨hr,r⟩;replace V:=rW V r;replace O:=rW O r;replace X:=rW X r;replace M:=rW M r;replace Y:=lH (Y.o.below r);replace R:=lH (R.o.below r);replace t:=bT t r;clear r;obtain⟨D3,hE⟩:=eX (gm sf.data.toList);have a8:=lH hE
     have b7:∃ (q:Rat) (v:Value),e= .returned (.tuple #[v, .int .i64 (D3:Nat)]) /\ eP wa v q /\ (D3=0 -> qof sf=q):=by
      rw[hE]
      rcases hr with ⟨h0,rfl⟩ | ⟨q,v,h0,hl,rfl,hv⟩
      ·exact⟨0,_,rfl,eP.jo _,fun h=>absurd h h0⟩
      ·exact⟨q,v,by rw[h0];rfl,hv,fun _=>jQ hl⟩
     obtain⟨q,v,rfl,hv,hq⟩:=b7;obtain⟨sk,Ak,lk,ck,tk,Bk,mk,dk,rfl⟩:=hv.shape;have VK:=lH hv;have HQ:=lH hq;clear hr hE hv hq;obtain⟨wb,a0⟩:=eX (wa.alloc (.cells #[.bool sk, .slice Ak lk ck, .bool tk, .slice Bk mk dk] 40));obtain⟨gK,a1⟩:=eX (wa.heap.size);have E:Below wa.heap.size wa wb:=by rw[a0];exact eD _ _
     have RK:Hid (Row wb gK 40 [.bool sk, .slice Ak lk ck, .bool tk, .slice Bk mk dk]):=lH (by rw[a0,a1];exact eO _ _);replace V:=rW V E;replace O:=rW O E;replace X:=rW X E;replace M:=rW M E;replace Y:=lH (Y.o.below E);replace R:=lH (R.o.below E);replace VK:=lH (VK.o.below E);replace t:=bT t E;clear E
     go_upto_region 10 with (fail)
     rw[<- a0, <- a1];clear a0 a1
     go_upto_region 12 with (fail)
     go_wp2_with fail
     refine(nL 1 dC dC _).mono ?_;rintro e wd ⟨vo,rfl,ho,r⟩;obtain⟨si,Ai,li,ci,ti,Bi,mi,di,rfl⟩:=ho.shape;have VO:=lH ho;clear ho;replace V:=rW V r;replace O:=rW O r;replace X:=rW X r;replace M:=rW M r;replace RK:=rW RK r;replace Y:=lH (Y.o.below r);replace R:=lH (R.o.below r);replace VK:=lH (VK.o.below r);replace t:=bT t r;clear r;obtain⟨we,a0⟩:=eX (wd.alloc (.cells #[.bool si, .slice Ai li ci, .bool ti, .slice Bi mi di] 40));obtain⟨gU,a1⟩:=eX (wd.heap.size);have E:Below wd.heap.size wd we:=by rw[a0];exact eD _ _
     have RO:Hid (Row we gU 40 [.bool si, .slice Ai li ci, .bool ti, .slice Bi mi di]):=lH (by rw[a0,a1];exact eO _ _);replace V:=rW V E;replace O:=rW O E;replace X:=rW X E;replace M:=rW M E;replace RK:=rW RK E;replace Y:=lH (Y.o.below E);replace R:=lH (R.o.below E);replace VK:=lH (VK.o.below E);replace VO:=lH (VO.o.below E);replace t:=bT t E;clear E
     go_upto_region 13 with (fail)
     rw[<- a0, <- a1];clear a0 a1;have aP:w.heap.size <= we.heap.size:=t.o.size;have aO:=And.intro X.o.lt (And.intro M.o.lt (And.intro RK.o.lt (And.intro RO.o.lt O.o.lt)));obtain⟨wf,a0⟩:=eX (we.alloc (.cells #[.string ⟨#[]⟩, .slice none 0 0] 25));obtain⟨gX,a1⟩:=eX (we.heap.size);have E:Below we.heap.size we wf:=by rw[a0];exact eD _ _
     have RX:Hid (Row wf gX 25 [.string ⟨#[]⟩, .slice none 0 0]):=lH (by rw[a0,a1];exact eO _ _);replace V:=rW V E;replace O:=rW O E;replace X:=rW X E;replace M:=rW M E;replace RK:=rW RK E;replace RO:=rW RO E;replace Y:=lH (Y.o.below E);replace R:=lH (R.o.below E);replace VK:=lH (VK.o.below E);replace VO:=lH (VO.o.below E);replace t:=bT t E;clear E;rw[<- a1] at aP aO;have b1:=lH (And.intro aP aO);clear aP aO;obtain⟨wg,ar⟩:=eX (wf.alloc (.cells #[.string ⟨#[]⟩, .slice none 0 0] 25));obtain⟨gY,aN⟩:=eX (wf.heap.size);have a4:Below wf.heap.size wf wg:=by rw[ar];exact eD _ _
     have Z:Hid (Row wg gY 25 [.string ⟨#[]⟩, .slice none 0 0]):=lH (by rw[ar,aN];exact eO _ _);replace V:=rW V a4;replace O:=rW O a4;replace X:=rW X a4;replace M:=rW M a4;replace RK:=rW RK a4;replace RO:=rW RO a4;replace RX:=rW RX a4;replace Y:=lH (Y.o.below a4);replace R:=lH (R.o.below a4);replace VK:=lH (VK.o.below a4);replace VO:=lH (VO.o.below a4);replace t:=bT t a4;have b6:gY=gX+1:=by rw[aN,a0,a1];simp
     subst b6;clear a4
     go_upto_region 14 with (fail)
     rw[<- a0, <- ar, <- a1];clear a0 ar a1 aN;by_cases h2:D2=0
     ·subst h2
      go_upto_region 15 with (fail)
      obtain⟨aa,ab⟩:=aT2 V.o;have ac:=V.o.lt;obtain⟨aQ,aR⟩:=aT2 O.o;have aS:=O.o.lt;obtain⟨aW,aX,aY,aZ⟩:=aT4 RO.o;have b0:=RO.o.lt;go_wp2_with fail
      clear aa ab ac aQ aR aS aW aX aY aZ b0;refine(MX F G T U kT kU _ _ 1 1 _ (HT.o.below t.o) (HU.o.below t.o) (qg a2.o.symm) (qg ad.o.symm) (show eP _ _ (1:Rat) from VO.o) (show eP _ _ (1:Rat) from VO.o) (RL.mono (k:=1) (by unfold RL;decide) dC) (RL.mono (k:=1) (by unfold RL;decide) dC) (aq.o.below t.o) (a3.o.below t.o)).mono ?_;rintro e wh ⟨V3,L3,c3,rfl,hL,hV,r⟩;have bf:=lH (hL.trans N7);have ap:=lH hV;clear hL hV;replace V:=rW V r;replace O:=rW O r;replace X:=rW X r;replace M:=rW M r;replace RK:=rW RK r;replace RO:=rW RO r;replace RX:=rW RX r;replace Z:=rW Z r;replace Y:=lH (Y.o.below r);replace R:=lH (R.o.below r);replace VK:=lH (VK.o.below r);replace VO:=lH (VO.o.below r);replace t:=bT t r;clear r;obtain⟨k0,f0,k1,f1⟩:=aF2 RX.o;have kl:=RX.o.lt
      go_upto_region 16 with (fail)
      clear k0 k1 f0 f1 kl;have aV:=b1.o;have hg:World.grownBy wh ((wh.setCell ⟨gX,0,none⟩ (.string L3.c)).setCell ⟨gX,1,none⟩ (.slice V3 L3.N c3)) (some (gX)):=iP _ _ _ _ _ _;have hX:=(RX.o.set 0 (.string L3.c)).set 1 (.slice V3 L3.N c3);have ag:=V.o.other hg oM;have ah:=O.o.other hg oM;have ak:=X.o.other hg oM;have al:=M.o.other hg oM;have ai:=RK.o.other hg oM;have aj:=RO.o.other hg oM;have b5:=Z.o.other hg oM;have ae:=Y.o.other hg RX.o dC;have af:=R.o.other hg RX.o dC;have am:=VK.o.other hg RX.o dC;have an:=VO.o.other hg RX.o dC;have aK:=ap.o.other hg RX.o dC;have hB:=t.o.grown hg t.o.size (by first | (simp;done) | (simp;omega));obtain⟨wi,aJ⟩:=eX (((wh.setCell ⟨gX,0,none⟩ (.string L3.c)).setCell ⟨gX,1,none⟩ (.slice V3 L3.N c3)));rw[<- aJ] at hX hB ag ah ak al ai aj b5 ae af am an aK ⊢;clear aJ hg aV t V O X M RK RO RX Z Y R VK VO ap;have t:=lH hB;have RX:=lH hX;have V:=lH ag;have O:=lH ah;have X:=lH ak;have M:=lH al;have RK:=lH ai;have RO:=lH aj;have Z:=lH b5;have Y:=lH ae;have R:=lH af;have VK:=lH am;have VO:=lH an;have ap:=lH aK;clear hB hX ag ah ak al ai aj b5 ae af am an aK;by_cases h3:D3=0
      ·subst h3
       go_upto_region 17 with (fail)
       obtain⟨aa,ab⟩:=aT2 V.o;have ac:=V.o.lt;obtain⟨b8,b9,ba,bb⟩:=aT4 RK.o;have bc:=RK.o.lt;obtain⟨aW,aX,aY,aZ⟩:=aT4 RO.o;have b0:=RO.o.lt;go_wp2_with fail
       clear aa ab ac b8 b9 ba bb bc aW aX aY aZ b0;rw[<- HQ.o (by first | rfl | trivial)] at VK;refine(MX F zeF T none kT 0 _ _ (qof sf) 1 _ (HT.o.below t.o) ⟨none,0,rfl,Nat.le_refl _,Nat.zero_le _, .inl rfl⟩ (qg a2.o.symm) (qg MN) VK.o (show eP _ _ (1:Rat) from VO.o) (ig (oq a8.o.symm) dC) (RL.mono (k:=1) (by unfold RL;decide) dC) (aq.o.below t.o) (a3.o.below t.o)).mono ?_;rintro e wj ⟨V4,L4,c4,rfl,hL,hV,r⟩;have b3:=lH (hL.trans N7);have a9:=lH hV;clear hL hV;replace V:=rW V r;replace O:=rW O r;replace X:=rW X r;replace M:=rW M r;replace RK:=rW RK r;replace RO:=rW RO r;replace RX:=rW RX r;replace Z:=rW Z r;replace Y:=lH (Y.o.below r);replace R:=lH (R.o.below r);replace VK:=lH (VK.o.below r);replace VO:=lH (VO.o.below r);replace ap:=lH (ap.o.below r);replace t:=bT t r;clear r;obtain⟨k0,f0,k1,f1⟩:=aF2 Z.o;have kl:=Z.o.lt
       go_upto_region 18 with (fail)
       clear k0 k1 f0 f1 kl;have aV:=b1.o;have hg:World.grownBy wj ((wj.setCell ⟨gX+1,0,none⟩ (.string L4.c)).setCell ⟨gX+1,1,none⟩ (.slice V4 L4.N c4)) (some (gX+1)):=iP _ _ _ _ _ _;have hX:=(Z.o.set 0 (.string L4.c)).set 1 (.slice V4 L4.N c4);have ag:=V.o.other hg oM;have ah:=O.o.other hg oM;have ak:=X.o.other hg oM;have al:=M.o.other hg oM;have ai:=RK.o.other hg oM;have aj:=RO.o.other hg oM;have aM:=RX.o.other hg oM;have ae:=Y.o.other hg Z.o dC;have af:=R.o.other hg Z.o dC;have am:=VK.o.other hg Z.o dC;have an:=VO.o.other hg Z.o dC;have aL:=a9.o.other hg Z.o dC;have aK:=ap.o.other hg Z.o dC;have hB:=t.o.grown hg t.o.size (by first | (simp;done) | (simp;omega));obtain⟨wk,aJ⟩:=eX (((wj.setCell ⟨gX+1,0,none⟩ (.string L4.c)).setCell ⟨gX+1,1,none⟩ (.slice V4 L4.N c4)));rw[<- aJ] at hX hB ag ah ak al ai aj aM ae af am an aL aK ⊢;clear aJ hg aV t V O X M RK RO RX Z Y R VK VO a9 ap;have t:=lH hB;have Z:=lH hX;have V:=lH ag;have O:=lH ah;have X:=lH ak;have M:=lH al;have RK:=lH ai;have RO:=lH aj;have RX:=lH aM;have Y:=lH ae;have R:=lH af;have VK:=lH am;have VO:=lH an;have a9:=lH aL;have ap:=lH aK;clear hB hX ag ah ak al ai aj aM ae af am an aL aK;have a5:Hid (Mx L1 L3 E1 0):=lH (Mx.ok bf.o (aG.o.trans (MM a2.o.symm ad.o.symm).1) (aT.o.trans (MM a2.o.symm ad.o.symm).2) (MU (qg a2.o.symm) (qg ad.o.symm) (RL.mono (k:=1) (by unfold RL;decide) dC)) (MS (qg a2.o.symm) (qg ad.o.symm) (RL.mono (k:=1) (by unfold RL;decide) dC)));have a6:Hid (Mx L2 L4 E2 0):=lH (Mx.ok b3.o (aH.o.trans (MO a2.o.symm a8.o.symm).1) (aU.o.trans (MO a2.o.symm a8.o.symm).2) (MU (qg a2.o.symm) (qg MN) (ig (oq a8.o.symm) dC)) (MS (qg a2.o.symm) (qg MN) (ig (oq a8.o.symm) dC)));obtain⟨au,ay⟩:=aT2 X.o;have aC:=X.o.lt;obtain⟨aw,aA⟩:=aT2 RX.o;have aE:=RX.o.lt;go_wp2_with fail
       clear au ay aC aw aA aE;refine(ML L1 L3 V1 V3 c1 c3 E1 0 _ Y.o.1 ap.o.1 a5.o.hs a5.o.he a5.o.hR (a3.o.below t.o)).mono ?_;rintro e wx ⟨rfl,r⟩;replace M:=rW M r;replace Z:=rW Z r;replace R:=lH (R.o.below r);replace a9:=lH (a9.o.below r);replace t:=bT t r;clear r;obtain⟨av,az⟩:=aT2 M.o;have aD:=M.o.lt;obtain⟨ax,aB⟩:=aT2 Z.o;have aF:=Z.o.lt;go_wp2_with fail
       clear av az aD ax aB aF;refine(ML L2 L4 V2 V4 c2 c4 E2 0 _ R.o.1 a9.o.1 a6.o.hs a6.o.he a6.o.hR (a3.o.below t.o)).mono ?_;rintro e wy ⟨rfl,r⟩;replace t:=bT t r;clear r;go_wp2_with fail
       go_returns;exact⟨rfl,t.o⟩
      ·have H3:=lH h3;have a7:¬((D3:Nat):Int)=0:=oM
       have ao:(((D3:Nat):Int)==0)=false:=by simpa using a7
       go_upto_region 18 with (fail)
       clear a7 ao h3;have a5:Hid (Mx L1 L3 E1 0):=lH (Mx.ok bf.o (aG.o.trans (MM a2.o.symm ad.o.symm).1) (aT.o.trans (MM a2.o.symm ad.o.symm).2) (MU (qg a2.o.symm) (qg ad.o.symm) (RL.mono (k:=1) (by unfold RL;decide) dC)) (MS (qg a2.o.symm) (qg ad.o.symm) (RL.mono (k:=1) (by unfold RL;decide) dC)));have a6:Hid (Mx L2 noF E2 D3):=lH (by have e1:E2=D3:=by {rw[aH.o,MK, <- a2.o,if_neg dC, <- a8.o,if_pos H3.o]};rw[e1];exact Mx.err H3.o (by rw[aU.o,MF, <- aH.o,e1,if_pos H3.o]));obtain⟨au,ay⟩:=aT2 X.o;have aC:=X.o.lt;obtain⟨aw,aA⟩:=aT2 RX.o;have aE:=RX.o.lt;go_wp2_with fail
       clear au ay aC aw aA aE;refine(ML L1 L3 V1 V3 c1 c3 E1 0 _ Y.o.1 ap.o.1 a5.o.hs a5.o.he a5.o.hR (a3.o.below t.o)).mono ?_;rintro e wx ⟨rfl,r⟩;replace M:=rW M r;replace Z:=rW Z r;replace R:=lH (R.o.below r);replace t:=bT t r;clear r;obtain⟨av,az⟩:=aT2 M.o;have aD:=M.o.lt;obtain⟨ax,aB⟩:=aT2 Z.o;have aF:=Z.o.lt;go_wp2_with fail
       clear av az aD ax aB aF;refine(ML L2 noF V2 none c2 0 E2 D3 _ R.o.1 ⟨none,0,rfl,Nat.le_refl _,Nat.zero_le _, .inl rfl⟩ a6.o.hs a6.o.he a6.o.hR (a3.o.below t.o)).mono ?_;rintro e wy ⟨rfl,r⟩;replace t:=bT t r;clear r;go_wp2_with fail
       go_returns;exact⟨rfl,t.o⟩
     ·have H2:=lH h2;have a7:¬((D2:Nat):Int)=0:=oM
      have ao:(((D2:Nat):Int)==0)=false:=by simpa using a7
      go_upto_region 16 with (fail)
      clear a7 ao h2;by_cases h3:D3=0
      ·subst h3
       go_upto_region 17 with (fail)
       obtain⟨aa,ab⟩:=aT2 V.o;have ac:=V.o.lt;obtain⟨b8,b9,ba,bb⟩:=aT4 RK.o;have bc:=RK.o.lt;obtain⟨aW,aX,aY,aZ⟩:=aT4 RO.o;have b0:=RO.o.lt;go_wp2_with fail
       clear aa ab ac b8 b9 ba bb bc aW aX aY aZ b0;rw[<- HQ.o (by first | rfl | trivial)] at VK;refine(MX F zeF T none kT 0 _ _ (qof sf) 1 _ (HT.o.below t.o) ⟨none,0,rfl,Nat.le_refl _,Nat.zero_le _, .inl rfl⟩ (qg a2.o.symm) (qg MN) VK.o (show eP _ _ (1:Rat) from VO.o) (ig (oq a8.o.symm) dC) (RL.mono (k:=1) (by unfold RL;decide) dC) (aq.o.below t.o) (a3.o.below t.o)).mono ?_;rintro e wj ⟨V4,L4,c4,rfl,hL,hV,r⟩;have b3:=lH (hL.trans N7);have a9:=lH hV;clear hL hV;replace V:=rW V r;replace O:=rW O r;replace X:=rW X r;replace M:=rW M r;replace RK:=rW RK r;replace RO:=rW RO r;replace RX:=rW RX r;replace Z:=rW Z r;replace Y:=lH (Y.o.below r);replace R:=lH (R.o.below r);replace VK:=lH (VK.o.below r);replace VO:=lH (VO.o.below r);replace t:=bT t r;clear r;obtain⟨k0,f0,k1,f1⟩:=aF2 Z.o;have kl:=Z.o.lt
       go_upto_region 18 with (fail)
       clear k0 k1 f0 f1 kl;have aV:=b1.o;have hg:World.grownBy wj ((wj.setCell ⟨gX+1,0,none⟩ (.string L4.c)).setCell ⟨gX+1,1,none⟩ (.slice V4 L4.N c4)) (some (gX+1)):=iP _ _ _ _ _ _;have hX:=(Z.o.set 0 (.string L4.c)).set 1 (.slice V4 L4.N c4);have ag:=V.o.other hg oM;have ah:=O.o.other hg oM;have ak:=X.o.other hg oM;have al:=M.o.other hg oM;have ai:=RK.o.other hg oM;have aj:=RO.o.other hg oM;have aM:=RX.o.other hg oM;have ae:=Y.o.other hg Z.o dC;have af:=R.o.other hg Z.o dC;have am:=VK.o.other hg Z.o dC;have an:=VO.o.other hg Z.o dC;have aL:=a9.o.other hg Z.o dC;have hB:=t.o.grown hg t.o.size (by first | (simp;done) | (simp;omega));obtain⟨wk,aJ⟩:=eX (((wj.setCell ⟨gX+1,0,none⟩ (.string L4.c)).setCell ⟨gX+1,1,none⟩ (.slice V4 L4.N c4)));rw[<- aJ] at hX hB ag ah ak al ai aj aM ae af am an aL ⊢;clear aJ hg aV t V O X M RK RO RX Z Y R VK VO a9;have t:=lH hB;have Z:=lH hX;have V:=lH ag;have O:=lH ah;have X:=lH ak;have M:=lH al;have RK:=lH ai;have RO:=lH aj;have RX:=lH aM;have Y:=lH ae;have R:=lH af;have VK:=lH am;have VO:=lH an;have a9:=lH aL;clear hB hX ag ah ak al ai aj aM ae af am an aL;have a5:Hid (Mx L1 noF E1 D2):=lH (by have e1:E1=D2:=by {rw[aG.o,MJ, <- a2.o,if_neg dC, <- ad.o,if_pos H2.o]};rw[e1];exact Mx.err H2.o (by rw[aT.o,ME, <- aG.o,e1,if_pos H2.o]));have a6:Hid (Mx L2 L4 E2 0):=lH (Mx.ok b3.o (aH.o.trans (MO a2.o.symm a8.o.symm).1) (aU.o.trans (MO a2.o.symm a8.o.symm).2) (MU (qg a2.o.symm) (qg MN) (ig (oq a8.o.symm) dC)) (MS (qg a2.o.symm) (qg MN) (ig (oq a8.o.symm) dC)));obtain⟨au,ay⟩:=aT2 X.o;have aC:=X.o.lt;obtain⟨aw,aA⟩:=aT2 RX.o;have aE:=RX.o.lt;go_wp2_with fail
       clear au ay aC aw aA aE;refine(ML L1 noF V1 none c1 0 E1 D2 _ Y.o.1 ⟨none,0,rfl,Nat.le_refl _,Nat.zero_le _, .inl rfl⟩ a5.o.hs a5.o.he a5.o.hR (a3.o.below t.o)).mono ?_;rintro e wx ⟨rfl,r⟩;replace M:=rW M r;replace Z:=rW Z r;replace R:=lH (R.o.below r);replace a9:=lH (a9.o.below r);replace t:=bT t r;clear r;obtain⟨av,az⟩:=aT2 M.o;have aD:=M.o.lt;obtain⟨ax,aB⟩:=aT2 Z.o;have aF:=Z.o.lt;go_wp2_with fail
       clear av az aD ax aB aF;refine(ML L2 L4 V2 V4 c2 c4 E2 0 _ R.o.1 a9.o.1 a6.o.hs a6.o.he a6.o.hR (a3.o.below t.o)).mono ?_;rintro e wy ⟨rfl,r⟩;replace t:=bT t r;clear r;go_wp2_with fail
       go_returns;exact⟨rfl,t.o⟩
      ·have H3:=lH h3;have a7:¬((D3:Nat):Int)=0:=oM
       have ao:(((D3:Nat):Int)==0)=false:=by simpa using a7
       go_upto_region 18 with (fail)
       clear a7 ao h3;have a5:Hid (Mx L1 noF E1 D2):=lH (by have e1:E1=D2:=by {rw[aG.o,MJ, <- a2.o,if_neg dC, <- ad.o,if_pos H2.o]};rw[e1];exact Mx.err H2.o (by rw[aT.o,ME, <- aG.o,e1,if_pos H2.o]));have a6:Hid (Mx L2 noF E2 D3):=lH (by have e1:E2=D3:=by {rw[aH.o,MK, <- a2.o,if_neg dC, <- a8.o,if_pos H3.o]};rw[e1];exact Mx.err H3.o (by rw[aU.o,MF, <- aH.o,e1,if_pos H3.o]));obtain⟨au,ay⟩:=aT2 X.o;have aC:=X.o.lt;obtain⟨aw,aA⟩:=aT2 RX.o;have aE:=RX.o.lt;go_wp2_with fail
       clear au ay aC aw aA aE;refine(ML L1 noF V1 none c1 0 E1 D2 _ Y.o.1 ⟨none,0,rfl,Nat.le_refl _,Nat.zero_le _, .inl rfl⟩ a5.o.hs a5.o.he a5.o.hR (a3.o.below t.o)).mono ?_;rintro e wx ⟨rfl,r⟩;replace M:=rW M r;replace Z:=rW Z r;replace R:=lH (R.o.below r);replace t:=bT t r;clear r;obtain⟨av,az⟩:=aT2 M.o;have aD:=M.o.lt;obtain⟨ax,aB⟩:=aT2 Z.o;have aF:=Z.o.lt;go_wp2_with fail
       clear av az aD ax aB aF;refine(ML L2 noF V2 none c2 0 E2 D3 _ R.o.1 ⟨none,0,rfl,Nat.le_refl _,Nat.zero_le _, .inl rfl⟩ a6.o.hs a6.o.he a6.o.hR (a3.o.below t.o)).mono ?_;rintro e wy ⟨rfl,r⟩;replace t:=bT t r;clear r;go_wp2_with fail
       go_returns;exact⟨rfl,t.o⟩
    ·have H1:=lH h0;clear h0;have a7:¬((D1:Nat):Int)=0:=by have:=H1.o;omega
     have ao:(((D1:Nat):Int)==0)=false:=by simpa using a7
     go_upto_region 9 with (fail)
     clear a7 ao;go_wp2_with fail
     refine(um sf _ (by have:=bg.o;omega) (a3.o.below t.o)).mono ?_;rintro e wa ⟨hr,r⟩;replace O:=rW O r;replace X:=rW X r;replace M:=rW M r;replace Y:=lH (Y.o.below r);replace R:=lH (R.o.below r);replace t:=bT t r;clear r;obtain⟨D3,hE⟩:=eX (gm sf.data.toList);have a8:=lH hE
     have b7:∃ (q:Rat) (v:Value),e= .returned (.tuple #[v, .int .i64 (D3:Nat)]) /\ eP wa v q /\ (D3=0 -> qof sf=q):=by
      rw[hE]
      rcases hr with ⟨h0,rfl⟩ | ⟨q,v,h0,hl,rfl,hv⟩
      ·exact⟨0,_,rfl,eP.jo _,fun h=>absurd h h0⟩
      ·exact⟨q,v,by rw[h0];rfl,hv,fun _=>jQ hl⟩
     obtain⟨q,v,rfl,hv,hq⟩:=b7;obtain⟨sk,Ak,lk,ck,tk,Bk,mk,dk,rfl⟩:=hv.shape;have VK:=lH hv;have HQ:=lH hq;clear hr hE hv hq;obtain⟨wb,a0⟩:=eX (wa.alloc (.cells #[.bool sk, .slice Ak lk ck, .bool tk, .slice Bk mk dk] 40));obtain⟨gK,a1⟩:=eX (wa.heap.size);have E:Below wa.heap.size wa wb:=by rw[a0];exact eD _ _
     have RK:Hid (Row wb gK 40 [.bool sk, .slice Ak lk ck, .bool tk, .slice Bk mk dk]):=lH (by rw[a0,a1];exact eO _ _);replace O:=rW O E;replace X:=rW X E;replace M:=rW M E;replace Y:=lH (Y.o.below E);replace R:=lH (R.o.below E);replace t:=bT t E;clear E
     go_upto_region 10 with (fail)
     rw[<- a0, <- a1];clear a0 a1;have a7:¬((D1:Nat):Int)=0:=by have:=H1.o;omega
     have ao:(((D1:Nat):Int)==0)=false:=by simpa using a7
     go_upto_region 12 with (fail)
     clear a7 ao;go_wp2_with fail
     refine(nL 1 dC dC _).mono ?_;rintro e wd ⟨vo,rfl,ho,r⟩;obtain⟨si,Ai,li,ci,ti,Bi,mi,di,rfl⟩:=ho.shape;have VO:=lH ho;clear ho;replace O:=rW O r;replace X:=rW X r;replace M:=rW M r;replace RK:=rW RK r;replace Y:=lH (Y.o.below r);replace R:=lH (R.o.below r);replace t:=bT t r;clear r;obtain⟨we,a0⟩:=eX (wd.alloc (.cells #[.bool si, .slice Ai li ci, .bool ti, .slice Bi mi di] 40));obtain⟨gU,a1⟩:=eX (wd.heap.size);have E:Below wd.heap.size wd we:=by rw[a0];exact eD _ _
     have RO:Hid (Row we gU 40 [.bool si, .slice Ai li ci, .bool ti, .slice Bi mi di]):=lH (by rw[a0,a1];exact eO _ _);replace O:=rW O E;replace X:=rW X E;replace M:=rW M E;replace RK:=rW RK E;replace Y:=lH (Y.o.below E);replace R:=lH (R.o.below E);replace t:=bT t E;clear E
     go_upto_region 13 with (fail)
     rw[<- a0, <- a1];clear a0 a1;have aP:w.heap.size <= we.heap.size:=t.o.size;have aO:=And.intro X.o.lt (And.intro M.o.lt (And.intro RK.o.lt (And.intro RO.o.lt O.o.lt)));obtain⟨wf,a0⟩:=eX (we.alloc (.cells #[.string ⟨#[]⟩, .slice none 0 0] 25));obtain⟨gX,a1⟩:=eX (we.heap.size);have E:Below we.heap.size we wf:=by rw[a0];exact eD _ _
     have RX:Hid (Row wf gX 25 [.string ⟨#[]⟩, .slice none 0 0]):=lH (by rw[a0,a1];exact eO _ _);replace X:=rW X E;replace M:=rW M E;replace Y:=lH (Y.o.below E);replace R:=lH (R.o.below E);replace t:=bT t E;clear E;rw[<- a1] at aP aO;have b1:=lH (And.intro aP aO);clear aP aO;obtain⟨wg,ar⟩:=eX (wf.alloc (.cells #[.string ⟨#[]⟩, .slice none 0 0] 25));obtain⟨gY,aN⟩:=eX (wf.heap.size);have a4:Below wf.heap.size wf wg:=by rw[ar];exact eD _ _
     have Z:Hid (Row wg gY 25 [.string ⟨#[]⟩, .slice none 0 0]):=lH (by rw[ar,aN];exact eO _ _);replace X:=rW X a4;replace M:=rW M a4;replace RX:=rW RX a4;replace Y:=lH (Y.o.below a4);replace R:=lH (R.o.below a4);replace t:=bT t a4;have b6:gY=gX+1:=by rw[aN,a0,a1];simp
     subst b6;clear a4
     go_upto_region 14 with (fail)
     rw[<- a0, <- ar, <- a1];clear a0 ar a1 aN;have h1:=H1.o;have a7:¬((D1:Nat):Int)=0:=oM
     have ao:(((D1:Nat):Int)==0)=false:=by simpa using a7
     go_upto_region 18 with (fail)
     clear a7 ao h1;have a5:Hid (Mx L1 noF E1 D1):=lH (by have e1:E1=D1:=by {rw[aG.o,MJ, <- a2.o,if_pos H1.o]};rw[e1];exact Mx.err H1.o (by rw[aT.o,ME, <- aG.o,e1,if_pos H1.o]));have a6:Hid (Mx L2 noF E2 D1):=lH (by have e1:E2=D1:=by {rw[aH.o,MK, <- a2.o,if_pos H1.o]};rw[e1];exact Mx.err H1.o (by rw[aU.o,MF, <- aH.o,e1,if_pos H1.o]));obtain⟨au,ay⟩:=aT2 X.o;have aC:=X.o.lt;obtain⟨aw,aA⟩:=aT2 RX.o;have aE:=RX.o.lt;go_wp2_with fail
     clear au ay aC aw aA aE;refine(ML L1 noF V1 none c1 0 E1 D1 _ Y.o.1 ⟨none,0,rfl,Nat.le_refl _,Nat.zero_le _, .inl rfl⟩ a5.o.hs a5.o.he a5.o.hR (a3.o.below t.o)).mono ?_;rintro e wx ⟨rfl,r⟩;replace M:=rW M r;replace Z:=rW Z r;replace R:=lH (R.o.below r);replace t:=bT t r;clear r;obtain⟨av,az⟩:=aT2 M.o;have aD:=M.o.lt;obtain⟨ax,aB⟩:=aT2 Z.o;have aF:=Z.o.lt;go_wp2_with fail
     clear av az aD ax aB aF;refine(ML L2 noF V2 none c2 0 E2 D1 _ R.o.1 ⟨none,0,rfl,Nat.le_refl _,Nat.zero_le _, .inl rfl⟩ a6.o.hs a6.o.he a6.o.hR (a3.o.below t.o)).mono ?_;rintro e wy ⟨rfl,r⟩;replace t:=bT t r;clear r;go_wp2_with fail
     go_returns;exact⟨rfl,t.o⟩
  ·clear hf;go_wp2_with fail
   refine(uX _ (a3.o.below t.o) (aq.o.below t.o)).mono ?_;rintro e w9 ⟨rfl,r⟩;replace t:=bT t r;clear r;go_wp2_with fail
   go_returns;exact⟨rfl,t.o⟩
 ·clear hf;go_wp2_with fail
  refine(uX _ (a3.o.below t.o) (aq.o.below t.o)).mono ?_;rintro e w9 ⟨rfl,r⟩;replace t:=bT t r;clear r;go_wp2_with fail
  go_returns;exact⟨rfl,t.o⟩
end Go.Proofs.YtokagbahdkfagaaGreatDoor
