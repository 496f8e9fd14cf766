/- Parts of this proof: SFrmM SFAdd SFLim SFComb. -/
import Derived.Test.YtokagbahdkfagaaGreatDoorMBP
import Derived.Test.YtokagbahdkfagaaGreatDoorMAE
import Derived.Test.YtokagbahdkfagaaGreatDoorMAP
import Derived.Test.YtokagbahdkfagaaGreatDoorMAU
import Derived.Test.YtokagbahdkfagaaGreatDoorMAO
namespace Go.Proofs.YtokagbahdkfagaaGreatDoor
open Go.Proofs.Tryz
section
open Go.RowKit
open Lp (RL upd)
def cN(c:Nat -> Rat):Nat -> Nat
 | 0=>0
 | i+1=>if c i=0 then cN c i else cN c i+1
def cDm(c:Nat -> Rat):Nat -> Nat -> Int
 | 0=>fun _=>0
 | i+1=>if c i=0 then cDm c i else upd (cDm c i) (cN c i) ((i:Nat):Int)
def cFc(c:Nat -> Rat):Nat -> Nat -> ByteArray
 | 0=>fun _=>⟨#[]⟩
 | i+1=>if c i=0 then cFc c i else upd (cFc c i) (cN c i) (eB (c i))
def MG(t:ByteArray)(c:Nat -> Rat)(n:Nat):Frm:=⟨t,cN c n,cDm c n,cFc c n⟩
section
variable {c:Nat -> Rat}
theorem MV:∀i,cN c i <= i
 | 0=>Nat.le_refl _
 | i+1=>by have:=MV i;rw[cN];by_cases e:c i=0;rw[if_pos e];omega;rw[if_neg e];omega
theorem MP:∀i k,k<cN c i -> ∃j,j<i /\ cDm c i k=((j:Nat):Int) /\ c j≠0 /\ cFc c i k=eB (c j):=by
 intro i
 induction i with
 | zero=>intro k h;exact absurd h (by simp[cN])
 | succ i E=>
  intro k h;rw[cN] at h;rw[cDm,cFc];by_cases e:c i=0
  ·rw[if_pos e] at h;rw[if_pos e,if_pos e];obtain⟨j,h1,t⟩:=E k h;exact⟨j,by omega,t⟩
  ·rw[if_neg e] at h;rw[if_neg e,if_neg e];by_cases r:k=cN c i
   ·rw[r,Lp.upd_same,Lp.upd_same];exact⟨i,by omega,rfl,e,rfl⟩
   ·rw[Lp.eQ _ _ r,Lp.eQ _ _ r];obtain⟨j,h1,t⟩:=E k oM;exact⟨j,by omega,t⟩
theorem Nc:∀i k,k+1<cN c i -> cDm c i k<cDm c i (k+1):=by
 intro i
 induction i with
 | zero=>intro k h;exact absurd h (by simp[cN])
 | succ i t=>
  intro k h;rw[cN] at h;rw[cDm];by_cases e:c i=0
  ·rw[if_pos e] at h;rw[if_pos e];exact t k h
  ·rw[if_neg e] at h;rw[if_neg e];by_cases r:k+1=cN c i
   ·rw[Lp.eQ _ _ oM,r,Lp.upd_same];obtain⟨j,h1,E,_⟩:=MP (c:=c) i k oM;omega
   ·rw[Lp.eQ _ _ oM,Lp.eQ _ _ r];exact t k oM
def MC(q:Rat)(c:Nat -> Rat):Nat -> Bool
 | 0=>decide (400<(eB q).size)
 | i+1=>if c i=0 then MC q c i else(MC q c i || decide (400<(eB (c i)).size))
theorem MW{q:Rat}:∀i,MC q c i=true↔(400<(eB q).size \/ ∃j,j<i /\ c j≠0 /\ 400<(eB (c j)).size):=by
 intro i
 induction i with
 | zero=>rw[MC,decide_eq_true_iff];exact⟨fun h=> .inl h,fun h=>h.elim id fun⟨j,M,_⟩=>absurd M oM⟩
 | succ i G=>
  rw[MC];by_cases e:c i=0
  ·rw[if_pos e,G];constructor
   ·rintro(h | ⟨j,h1,r⟩)
    ·exact .inl h
    ·exact .inr ⟨j,by omega,r⟩
   ·rintro(h | ⟨j,h1,r,t⟩)
    ·exact .inl h
    ·by_cases E:j=i
     ·rw[E] at r;exact absurd e r
     ·exact .inr ⟨j,by omega,r,t⟩
  ·rw[if_neg e,Bool.or_eq_true,G,decide_eq_true_iff];constructor
   ·rintro((h | ⟨j,h1,r⟩) | h)
    ·exact .inl h
    ·exact .inr ⟨j,by omega,r⟩
    ·exact .inr ⟨i,by omega,e,h⟩
   ·rintro(h | ⟨j,h1,r,t⟩)
    ·exact .inl (.inl h)
    ·by_cases E:j=i
     ·rw[E] at t;exact .inr t
     ·exact .inl (.inr ⟨j,by omega,r,t⟩)
def MI(q0:Rat)(c:Nat -> Rat)(k q:Nat)(d:Nat -> Int)(f:Nat -> ByteArray)(lg:Bool):Prop:=q=cN c k /\ d=cDm c k /\ f=cFc c k /\ lg=MC q0 c k
section
variable {q0:Rat} {k q:Nat} {d:Nat -> Int} {f:Nat -> ByteArray} {lg:Bool}
theorem MI.zero(q0:Rat)(c:Nat -> Rat):MI q0 c 0 0 (fun _=>0) (fun _=>⟨#[]⟩) (decide (400<(eB q0).size)):=⟨rfl,rfl,rfl,rfl⟩
theorem MI.off(h:MI q0 c k q d f lg)(h0:c k=0):MI q0 c (k+1) q d f lg:=by
 obtain⟨rfl,rfl,rfl,rfl⟩:=h;exact⟨by rw[cN,if_pos h0],by rw[cDm,if_pos h0],by rw[cFc,if_pos h0],by rw[MC,if_pos h0]⟩
theorem MI.on(h:MI q0 c k q d f lg)(h0:c k≠0):MI q0 c (k+1) (q+1) (upd d q ((k:Nat):Int)) (upd f q (eB (c k))) (lg || decide (400<(eB (c k)).size)):=by
 obtain⟨rfl,rfl,rfl,rfl⟩:=h;exact⟨by rw[cN,if_neg h0],by rw[cDm,if_neg h0],by rw[cFc,if_neg h0],by rw[MC,if_neg h0]⟩
theorem MI.le(h:MI q0 c k q d f lg):q <= k:=by rw[h.1];exact MV k
end
theorem Nf:∀i j,j<i -> c j≠0 -> ∃k,k<cN c i /\ cFc c i k=eB (c j):=by
 intro i
 induction i with
 | zero=>intro j r;exact absurd r oM
 | succ i t=>
  intro j r h0;rw[cN,cFc];by_cases e:c i=0
  ·rw[if_pos e,if_pos e];by_cases h:j=i
   ·rw[h] at h0;exact absurd e h0
   ·exact t j oM h0
  ·rw[if_neg e,if_neg e];by_cases h:j=i
   ·exact⟨cN c i,by omega,by rw[Lp.upd_same,h]⟩
   ·obtain⟨k,h1,E⟩:=t j oM h0;exact⟨k,by omega,by rw[Lp.eQ _ _ oM];exact E⟩
end
theorem Ng{n:Nat}{e:Nat -> Nat}(h:fE n e≠0):∃k,k<n /\ fE n e=e k:=by
 induction n with
 | zero=>exact absurd rfl h
 | succ n E=>
  have r:fE (n+1) e=if fE n e≠0 then fE n e else e n:=rfl
  by_cases h1:fE n e=0
  ·exact⟨n,by omega,by rw[r,if_neg (by simpa using h1)]⟩
  ·obtain⟨k,G,t⟩:=E h1;exact⟨k,by omega,by rw[r,if_pos h1];exact t⟩
theorem N8{q:Rat}:gm (eB q).data.toList=if 400<(eB q).size then 5 else 0:=by
 unfold gm;rw[<- zi,jA,nC]
theorem MQ{c:Nat -> Rat}{k:Nat}(G:k<cN c 64):fG 64 (cDm c 64) (cFc c 64) k=if 400<(cFc c 64 k).size then 5 else 0:=by
 obtain⟨j,h1,h,r,t⟩:=MP 64 k G;unfold fG;rw[h,t,if_neg oM,if_neg,N8]
 ·by_cases e:400<(eB (c j)).size
  ·rw[if_pos e,if_pos dC]
  ·rw[if_neg e,if_neg dC,if_neg];rw[jA,show [48]=fB 0 by kernel_rfl];exact fun e=>r (kZ e)
 ·rintro⟨M,O⟩;have E:=Nc 64 (k-1) (show k-1+1<cN c 64 by omega);rw[show k-1+1=k by omega,h] at E;omega
theorem Nh(q:Rat)(c:Nat -> Rat):iL 64 (MG (eB q) c 64)=if MC q c 64=true then 5 else 0:=by
 unfold iL MG;rw[if_neg dC];show(if gm (eB q).data.toList≠0 then gm (eB q).data.toList else if 64<cN c 64 then 6 else fE (cN c 64) (fG 64 (cDm c 64) (cFc c 64)))=_;have V:=MV (c:=c) 64;rw[N8];by_cases h1:400<(eB q).size
 ·rw[if_pos h1,if_pos dC,if_pos ((MW 64).2 (.inl h1))]
 ·rw[if_neg h1,if_neg dC,if_neg oM];by_cases G:MC q c 64=true
  ·rw[if_pos G]
   have M:fE (cN c 64) (fG 64 (cDm c 64) (cFc c 64))≠0:=by
    intro h0
    rcases(MW 64).1 G with h | ⟨j,r,t,R⟩
    ·exact h1 h
    ·obtain⟨k,O,U⟩:=Nf 64 j r t;have T:=jw.1 h0 k O;rw[MQ O,U,if_pos R] at T;exact absurd T dC
   obtain⟨k,E,r⟩:=Ng M;rw[r];rw[r,MQ E] at M;rw[MQ E];by_cases t:400<(cFc c 64 k).size
   ·rw[if_pos t]
   ·rw[if_neg t] at M;exact absurd rfl M
  ·rw[if_neg G];refine jw.2 fun k E=> ?_
   rw[MQ E];obtain⟨j,r,t,R,O⟩:=MP 64 k E;rw[if_neg];rw[O];exact fun h=>G ((MW 64).2 (.inr ⟨j,r,R,h⟩))
def noF:Frm:=⟨⟨#[]⟩,0,fun _=>0,fun _=>⟨#[]⟩⟩
def MB(q:Rat)(c:Nat -> Rat):Frm:=if MC q c 64=true then noF else MG (eB q) c 64
def MH(q:Rat)(c:Nat -> Rat):Nat:=if MC q c 64=true then 5 else 0
noncomputable def adC(F G:Frm)(k:Rat)(j:Nat):Rat:=iw F F.N j*k+iw G G.N j
noncomputable def adQ(F G:Frm)(k:Rat):Rat:=qof F.c*k+qof G.c
noncomputable def MJ(F G:Frm):Nat:=if iL 64 F≠0 then iL 64 F else if iL 64 G≠0 then iL 64 G else if MC (adQ F G 1) (adC F G 1) 64=true then 5 else 0
noncomputable def ME(F G:Frm):Frm:=if MJ F G≠0 then noF else MG (eB (adQ F G 1)) (adC F G 1) 64
def zeF:Frm:=⟨⟨#[48]⟩,0,fun _=>0,fun _=>⟨#[]⟩⟩
noncomputable def MK(F:Frm)(s:ByteArray):Nat:=if iL 64 F≠0 then iL 64 F else if gm s.data.toList≠0 then gm s.data.toList else if MC (adQ F zeF (qof s)) (adC F zeF (qof s)) 64=true then 5 else 0
noncomputable def MF(F:Frm)(s:ByteArray):Frm:=if MK F s≠0 then noF else MG (eB (adQ F zeF (qof s))) (adC F zeF (qof s)) 64
theorem Ni{n:Int}{F:Frm}(h:TOk n F){k:Nat}(t:k<F.N){z:Nat}(E:(F.d k).toNat=z)(x:Nat -> Rat)(q:Rat)(j:Nat):
  x j+iw F (k+1) j*q=upd (fun j=>x j+iw F k j*q) z ((x z+iw F k z*q)+qof (F.f k)*q) j:=by
 rw[iw,E];by_cases e:j=z
 ·rw[e,Lp.upd_same,Lp.upd_same,GJ k (fun i r=>by have:=h.inc k t i r;have:=h.lt (k:=i) oM;omega)];grind
 ·rw[Lp.eQ _ _ e,Lp.eQ _ _ e]
theorem Nj{n:Int}{F:Frm}(h:TOk n F){k:Nat}(t:k<F.N){z:Nat}(E:(F.d k).toNat=z)(x:Nat -> Rat)(q:Rat)(j:Nat):
  x j+q*iw F (k+1) j=upd (fun j=>x j+q*iw F k j) z ((x z+q*iw F k z)+q*qof (F.f k)) j:=by
 rw[iw,E];by_cases e:j=z
 ·rw[e,Lp.upd_same,Lp.upd_same,GJ k (fun i r=>by have:=h.inc k t i r;have:=h.lt (k:=i) oM;omega)];grind
 ·rw[Lp.eQ _ _ e,Lp.eQ _ _ e]
end
section
open Go.RowKit
open Lp (RL upd eH)
set_option maxRecDepth 100000 in
set_option maxHeartbeats 12800000 in
theorem N9(F:Frm)(T:Option Addr)(kT b gF t:Nat)(x:Nat -> Rat)(vq:Value)(q:Rat)(w:World)(hT:∀w',Below b w w' -> TT w' (.slice T F.N kT) F.N F.d F.f)(hk:TOk 64 F)(hF:Row w gF 33 [.slice (some ⟨t,0,none⟩) 64 64])(hO:RB w t 64 x)(hq:eP w vq q)(hx:∀j,RL 3000 (x j))(hl:RL 400 q)(h:b <= w.heap.size /\ b <= gF /\ b <= t)(ah:gF≠t)(hg:∀w',Below b w w' -> fF w'):
  Calls prog 117 #[.slice T F.N kT,vq, .pointer (some ⟨gF,0,none⟩)] w fun e w'=>e= .returned (.tuple #[]) /\ RB w' t 64 (fun j=>x j+iw F F.N j*q) /\ Chg (fun k=>k=t) w w':=by
 obtain⟨sq,Aq,lq,cq,tq,Bq,mq,dq,rfl⟩:=hq.shape;have ac:F.N <= 64:=hk.few;have au:=lH hT;have a5:=lH hk;have av:=lH hx;have a6:=lH hl;have aC:=lH h.1;have aB:=lH h.2.1;have am:=lH h.2.2;have aa:Hid (∀w',Chg (fun k=>k=t) w w' -> Below b w w'):=lH (fun w' hc=>hc.below h.1 (fun k hk=>by have:=h.2.2;omega));have ap:=lH ah;have ao:=lH hg;have aD:=lH hF.lt;have ar:=lH hO.lt;have aq:=lH ac;have a4:Hid (∀k,k<F.N -> (F.f k).size <= 400):=lH (fun k a7=>hk.size k a7);have an:Hid (∀k,k <= F.N -> ∀j,RL 400 (iw F k j)):=lH (uE (K:=400) (fun k a7=>ig (hk.size k a7) dC) dC);clear hT hk hx hl h ah hg ac;obtain⟨W,hW⟩:=eX (w.alloc (.cells #[.bool sq, .slice Aq lq cq, .bool tq, .slice Bq mq dq] 40));obtain⟨r0,ae,a2⟩:=jy w (.cells #[.bool sq, .slice Aq lq cq, .bool tq, .slice Bq mq dq] 40);rw[<- hW] at r0 ae a2;have r:Hid (Row W w.heap.size 40 [.bool sq, .slice Aq lq cq, .bool tq, .slice Bq mq dq]):=lH r0;have G:Hid (Row W gF 33 [.slice (some ⟨t,0,none⟩) 64 64]):=lH (hF.below a2 hF.lt);have SB:Hid (RB W t 64 (fun j=>x j+iw F 0 j*q)):=lH ((hO.below a2).congr (fun j _=>by show x j=x j+0*q;grind));have M:=lH (hq.below a2);have E:Hid (Chg (fun k=>k=t) w W):=lH (Chg.of_below a2);clear r0 ae a2 hF hO hq;go_enter func117,ntmps117
 go_upto_region 1 with (fail)
 rw[<- hW];clear hW;go_wp2_with fail
 go_loopw [11] (fun iv wr=>∃ (k:Nat),k <= F.N /\ iv= .int .i64 k /\ Hid (RB wr t 64 (fun j=>x j+iw F k j*q)) /\ Hid (Row wr gF 33 [.slice (some ⟨t,0,none⟩) 64 64]) /\ Hid (Row wr w.heap.size 40 [.bool sq, .slice Aq lq cq, .bool tq, .slice Bq mq dq]) /\ Hid (eP wr (.agg #[.bool sq, .slice Aq lq cq, .bool tq, .slice Bq mq dq]) q) /\ Hid (Chg (fun k=>k=t) w wr)) (fun iv _=>F.N-(intOf iv).toNat)
 case atStart=>exact⟨0,Nat.zero_le _,rfl,SB,G,r,M,E⟩
 case round=>
  clear SB G r M E;obtain⟨k,hk,rfl,SB,G,r,M,E⟩:=hrel;by_cases aJ:((k:Nat):Int)<(F.N:Nat)
  ·have a3:k<F.N:=oM
   have a0:=lH a3;obtain⟨z,hz⟩:∃z:Nat,F.d k=(z:Int):=⟨(F.d k).toNat,by have:=a5.o.lt a3;omega⟩
   have al:z<64:=by have:=a5.o.lt a3;omega
   have aK:((z:Nat):Int)<64:=oM
   have ab:=lH al;have HZ:Hid ((F.d k).toNat=z):=lH oM;obtain⟨gA,oA,rfl,af⟩:=(au.o _ (aa.o _ E.o)).at_ oM;obtain⟨a9,ay⟩:=af k a3;rw[hz] at a9;have az:=eF a9;clear hz af;obtain⟨w3,Z⟩:=eX (wr.alloc (.cells #[.int .i64 (z:Nat), .string (F.f k)] 126));obtain⟨gT,a1⟩:=eX (wr.heap.size);have X:Below wr.heap.size wr w3:=by rw[Z];exact eD _ _
   have V:Hid (Row w3 gT 126 [.int .i64 (z:Nat), .string (F.f k)]):=lH (by rw[Z,a1];exact eO _ _);replace G:=rW G X;replace r:=rW r X;replace SB:=lH (SB.o.below X);replace M:=lH (M.o.below X);replace E:=lH (E.o.gU X)
   skip
   clear X
   go_upto_region 4 with (fail)
   clear a9 ay az;rw[<- Z, <- a1];clear Z a1;have ax:=aI 1 V;have aA:=V.o.lt;go_wp2_with fail
   clear ax aA;refine(nQ (F.f k) _ (Nat.le_trans (a4.o k a0.o) dC) (ao.o _ (aa.o _ E.o))).mono ?_;rintro e w4 ⟨vf,rfl,hf,h⟩;obtain⟨sf,Af,lf,cf,tf,Bf,mf,df,rfl⟩:=hf.shape;have VF:=lH hf;clear hf;replace G:=rW G h;replace V:=rW V h;replace r:=rW r h;replace SB:=lH (SB.o.below h);replace M:=lH (M.o.below h);replace E:=lH (E.o.gU h);clear h;obtain⟨w5,Z⟩:=eX (w4.alloc (.cells #[.bool sf, .slice Af lf cf, .bool tf, .slice Bf mf df] 40));obtain⟨gX,a1⟩:=eX (w4.heap.size);have X:Below w4.heap.size w4 w5:=by rw[Z];exact eD _ _
   have R:Hid (Row w5 gX 40 [.bool sf, .slice Af lf cf, .bool tf, .slice Bf mf df]):=lH (by rw[Z,a1];exact eO _ _);replace G:=rW G X;replace V:=rW V X;replace r:=rW r X;replace SB:=lH (SB.o.below X);replace VF:=lH (VF.o.below X);replace M:=lH (M.o.below X);replace E:=lH (E.o.gU X);clear X
   go_upto_region 5 with (fail)
   rw[<- Z, <- a1];clear Z a1;obtain⟨sx,Ax,lx,cx,tx,Bx,mx,dx,ad,aj⟩:=SB.o.fK al;have O:=lH ad;have VX:=lH aj;clear ad aj;refine iC (fun w'=> w'.cell? ⟨gF,0,none⟩=some (.slice (some ⟨t,0,none⟩) 64 64) /\ w'.cell? ⟨gT,0,none⟩=some (.int .i64 (z:Nat)) /\ w'.cell? ⟨t,z*4,none⟩=some (.bool sx) /\ w'.cell? ⟨t,z*4+1,none⟩=some (.slice Ax lx cx) /\ w'.cell? ⟨t,z*4+2,none⟩=some (.bool tx) /\ w'.cell? ⟨t,z*4+3,none⟩=some (.slice Bx mx dx) /\ w'.cell? ⟨gX,0,none⟩=some (.bool sf) /\ w'.cell? ⟨gX,1,none⟩=some (.slice Af lf cf) /\ w'.cell? ⟨gX,2,none⟩=some (.bool tf) /\ w'.cell? ⟨gX,3,none⟩=some (.slice Bf mf df) /\ w'.cell? ⟨w.heap.size,0,none⟩=some (.bool sq) /\ w'.cell? ⟨w.heap.size,1,none⟩=some (.slice Aq lq cq) /\ w'.cell? ⟨w.heap.size,2,none⟩=some (.bool tq) /\ w'.cell? ⟨w.heap.size,3,none⟩=some (.slice Bq mq dq)) (fun i=>decide (13 <= i)) kR ?_;obtain⟨y1,a8⟩:=eX (w5.drew);rw[<- a8];have h:Below w5.heap.size w5 y1:=by rw[a8];exact(Below.refl _ _).drew
   clear a8;replace G:=rW G h;replace r:=rW r h;replace V:=rW V h;replace R:=rW R h;replace SB:=lH (SB.o.below h);replace VF:=lH (VF.o.below h);replace M:=lH (M.o.below h);replace O:=lH (O.o.below h);replace VX:=lH (VX.o.below h);replace E:=lH (E.o.gU h);have aE:=lH h;clear h;have U:=And.intro (G.o.at_ 0 rfl) (And.intro (V.o.at_ 0 rfl) (And.intro (O.o.1) (And.intro (O.o.2.1) (And.intro (O.o.2.2.1) (And.intro (O.o.2.2.2) (And.intro (R.o.at_ 0 rfl) (And.intro (R.o.at_ 1 rfl) (And.intro (R.o.at_ 2 rfl) (And.intro (R.o.at_ 3 rfl) (And.intro (r.o.at_ 0 rfl) (And.intro (r.o.at_ 1 rfl) (And.intro (r.o.at_ 2 rfl) (r.o.at_ 3 rfl)))))))))))));refine tKs 0 21 U ?_;refine tKs 1 22 U ?_;refine tKs 2 23 U ?_;refine tKs 3 24 U ?_;refine tKs 4 25 U ?_;refine tKs 5 26 U ?_;refine tKs 6 27 U ?_;refine tKs 7 28 U ?_;refine tKs 8 29 U ?_;refine tKs 9 30 U ?_;refine rD 10 (fun K Y=> ?_);go_simp;refine(mO _ _ (qof (F.f k)) q _ VF.o M.o ((ig (a4.o k a0.o) dC).mono dC) (a6.o.mono dC)).mono ?_;rintro e y2 ⟨vp,rfl,hp,h⟩;obtain⟨sp,Ap,lp,cp,tp,Bp,mp,dp,rfl⟩:=hp.shape;have VP:=lH hp;clear hp;replace G:=rW G h;replace r:=rW r h;replace V:=rW V h;replace R:=rW R h;replace SB:=lH (SB.o.below h);replace M:=lH (M.o.below h);replace O:=lH (O.o.below h);replace VX:=lH (VX.o.below h);replace E:=lH (E.o.gU h);clear h;clear U;have U:=And.intro (G.o.at_ 0 rfl) (And.intro (V.o.at_ 0 rfl) (And.intro (O.o.1) (And.intro (O.o.2.1) (And.intro (O.o.2.2.1) (And.intro (O.o.2.2.2) (And.intro (R.o.at_ 0 rfl) (And.intro (R.o.at_ 1 rfl) (And.intro (R.o.at_ 2 rfl) (And.intro (R.o.at_ 3 rfl) (And.intro (r.o.at_ 0 rfl) (And.intro (r.o.at_ 1 rfl) (And.intro (r.o.at_ 2 rfl) (r.o.at_ 3 rfl)))))))))))));refine kH Y U ?_;clear Y K;refine rD 11 (fun K Y=> ?_);go_simp;refine(Go.Proofs.YtokagbahdkfagaaGreatDoor.u7 _ _ (x z+iw F k z*q) (qof (F.f k)*q) _ VX.o VP.o (((av.o z).add ((an.o k (Nat.le_of_lt a0.o) z).mul a6.o)).mono dC) (((ig (a4.o k a0.o) dC).mul a6.o).mono dC)).mono ?_;rintro e y3 ⟨vr,rfl,hr,h⟩;obtain⟨sr,Ar,lr,cr,tr,Br,mr,dr,rfl⟩:=hr.shape;have VR:=lH hr;clear hr;replace G:=rW G h;replace r:=rW r h;replace V:=rW V h;replace R:=rW R h;replace SB:=lH (SB.o.below h);replace M:=lH (M.o.below h);replace O:=lH (O.o.below h);replace E:=lH (E.o.gU h);clear h;clear U;have U:=And.intro (G.o.at_ 0 rfl) (And.intro (V.o.at_ 0 rfl) (And.intro (O.o.1) (And.intro (O.o.2.1) (And.intro (O.o.2.2.1) (And.intro (O.o.2.2.2) (And.intro (R.o.at_ 0 rfl) (And.intro (R.o.at_ 1 rfl) (And.intro (R.o.at_ 2 rfl) (And.intro (R.o.at_ 3 rfl) (And.intro (r.o.at_ 0 rfl) (And.intro (r.o.at_ 1 rfl) (And.intro (r.o.at_ 2 rfl) (r.o.at_ 3 rfl)))))))))))));refine kH Y U ?_;clear Y K;refine tKs 12 33 U ?_;refine rD 13 (fun K Y=> ?_);obtain⟨_,_,_,_,_,_,_,_,hQ,_⟩:=SB.o.fK ab.o;obtain⟨q0,q1,q2,q3⟩:=hQ;have f0:=SB.o.free (z*4);have f1:=SB.o.free (z*4+1);have f2:=SB.o.free (z*4+2);have f3:=SB.o.free (z*4+3);have ql:=SB.o.lt;go_simp;clear ql q0 q1 q2 q3 f0 f1 f2 f3;have hg:World.grownBy y3 ((((y3.setCell ⟨t,z*4,none⟩ (.bool sr)).setCell ⟨t,z*4+1,none⟩ (.slice Ar lr cr)).setCell ⟨t,z*4+2,none⟩ (.bool tr)).setCell ⟨t,z*4+3,none⟩ (.slice Br mr dr)) (some t):=gJ _ _ _ _ _ _ _ _ _ _;obtain⟨aF,ai⟩:=SB.o.row;have hS:=SB.o.set ab.o VR.o;have aw:=am.o;have hF:=G.o.other hg ap.o;have Y:=r.o.other hg (by have:=ar.o;omega);have hV:=M.o.other hg ai gM;have hB:=E.o.iW hg (.inl rfl);obtain⟨y4,ak⟩:=eX (((((y3.setCell ⟨t,z*4,none⟩ (.bool sr)).setCell ⟨t,z*4+1,none⟩ (.slice Ar lr cr)).setCell ⟨t,z*4+2,none⟩ (.bool tr)).setCell ⟨t,z*4+3,none⟩ (.slice Br mr dr)));rw[<- ak] at hS hF Y hV hB ⊢;clear ak hg aw ai SB G r M E;have SB:=lH hS;have G:=lH hF;have r:=lH Y;have M:=lH hV;have E:=lH hB;clear hS hF Y hV hB;refine kL Y ?_;clear Y K;refine dN ?_ _;clear U;have aH:=a0.o;have aG:=aq.o;go_wp2_with fail
   go_roundw
   case rel=>exact⟨k+1,a0.o,by simp,lH (SB.o.congr (fun j _=>(Ni a5.o a0.o HZ.o x q j).symm)),G,r,M,E⟩
   case measure=>exact mZ
  ·have ag:k=F.N:=oM
   rw[ag] at SB;clear ag;go_wp2_with fail
   go_returns;exact⟨rfl,SB.o,E.o⟩
end
section
open Go.RowKit
open Lp (RL upd eH)
set_option maxRecDepth 100000 in
set_option maxHeartbeats 12800000 in
theorem Nk(c:Nat -> Rat)(vq:Value)(q0:Rat)(gO:Nat)(w:World)(hq:eP w vq q0)(hl:RL 400000 q0)(hO:RB w gO 64 c)(hc:∀j,RL 400000 (c j))(V:Tab w):
  Calls prog 118 #[vq, .slice (some ⟨gO,0,none⟩) 64 64] w fun e w'=>∃T cT,e= .returned (.tuple #[.agg #[.string (MB q0 c).c, .slice T (MB q0 c).N cT], .int .i64 (MH q0 c:Nat)]) /\ TTN w' (.slice T (MB q0 c).N cT) (MB q0 c).N (MB q0 c).d (MB q0 c).f /\ Below w.heap.size w w':=by
 obtain⟨sc,Ac,lc,cc,tc,Bc,mc,dc,rfl⟩:=hq.shape;have VQ:=lH hq;have aQ:=lH hl;have HO:=lH hO;have aP:=lH hc;have aE:=lH V;obtain⟨E,hE⟩:=eX (MH q0 c);obtain⟨L,hL⟩:∃L:Frm,L=MB q0 c:=⟨_,rfl⟩
 rw[<- hE, <- hL];have HE:=lH hE;have HL:=lH hL;clear hq hl hO hc V hE hL;obtain⟨W,hW,RC,r,h⟩:=eN2 w [.bool sc, .slice Ac lc cc, .bool tc, .slice Bc mc dc] 40 [.string ⟨#[]⟩, .slice none 0 0] 25;go_enter func118,ntmps118
 go_upto_region 1 with (fail)
 rw[<- hW];clear hW;obtain⟨aV,aW,aX,aY⟩:=aT4 RC.o;have aZ:=RC.o.lt;go_wp2_with fail
 clear aV aW aX aY aZ;refine(jE _ q0 1000000 _ (VQ.o.below h.o) (aQ.o.mono dC) (Nat.le_refl _) (aE.o.below h.o)).mono ?_;rintro e w1 ⟨rfl,R⟩;replace r:=rW r R;replace h:=bT h R;clear R;clear RC;have Y:=lH (MI.zero q0 c);obtain⟨tc,ao⟩:∃x:ByteArray,x=eB q0:=⟨_,rfl⟩
 rw[<- ao] at Y ⊢;obtain⟨lg,ac⟩:∃x:Bool,x=decide (400<tc.size):=⟨_,rfl⟩
 rw[<- ac] at Y;have aT:decide ((400:Int)<(tc.size:Nat))=lg:=by rw[ac];exact decide_eq_decide.2 oM
 have aU:decide (400<tc.size)=lg:=ac.symm;have aR:=lH ao;clear ao ac;have aD:=r.o.lt;obtain⟨w2,ae⟩:=eX (w1.alloc (.cells #[.string tc, .slice none 0 0] 25));obtain⟨gF,aa⟩:=eX (w1.heap.size);have al:Below w1.heap.size w1 w2:=by rw[ae];exact eD _ _
 have t:Hid (Row w2 gF 25 [.string tc, .slice none 0 0]):=lH (by rw[ae,aa];exact eO _ _);replace r:=rW r al;replace h:=bT h al;have aC:Hid (w.heap.size+1<gF):=lH (by rw[aa];exact aD);clear al aD
 go_upto_region 2 with (fail)
 rw[<- ae, <- aa];clear ae aa;have af:=aI 0 t;have ag:=t.o.lt;go_wp2_with fail
 clear aT aU af ag
 go_loopw [7,20] (fun lv iv wr=>∃ (k q:Nat) (d:Nat -> Int) (f:Nat -> ByteArray) (B:Option Addr) (Z:Nat) (lg:Bool),k <= 64 /\ lv= .bool lg /\ iv= .int .i64 k /\ Hid (MI q0 c k q d f lg) /\ Hid (Row wr gF 25 [.string tc, .slice B q Z]) /\ Hid (IW wr (.slice B q Z) 126 2 q (cT d f)) /\ Hid (∀g,(Value.slice B q Z).ownBlock=some g -> w.heap.size <= g) /\ Hid (Row wr (w.heap.size+1) 25 [.string ⟨#[]⟩, .slice none 0 0]) /\ Hid (Below w.heap.size w wr)) (fun _ iv _=>64-(intOf iv).toNat)
 case atStart=>exact⟨0,0,fun _=>0,fun _=>⟨#[]⟩,none,0,lg,Nat.zero_le _,rfl,rfl,Y,t,lH (IW.nil _ _ _ _),lH (fun g U=>by simp[Value.ownBlock] at U),r,h⟩
 case round=>
  clear Y t r h;obtain⟨k,q,d,f,B,Z,lg,hk,rfl,rfl,Y,t,O,LB,r,h⟩:=hrel;have b0:=lH hk;by_cases b1:((k:Nat):Int)<(64:Nat)
  ·have ab:k<64:=oM
   have a1:=lH ab;obtain⟨sk,Ak,lk,ck,tk,Bk,mk,dk,aS,aL⟩:=(HO.o.below h.o).fK ab;obtain⟨k0,k1,k2,k3⟩:=aS;have VK:=lH aL;have kl:=eF k0;clear aL hk;obtain⟨w4,M⟩:=eX (wr.alloc (.cells #[.bool sk, .slice Ak lk ck, .bool tk, .slice Bk mk dk] 40));obtain⟨gK,X⟩:=eX (wr.heap.size);have G:Below wr.heap.size wr w4:=by rw[M];exact eD _ _
   have RK:Hid (Row w4 gK 40 [.bool sk, .slice Ak lk ck, .bool tk, .slice Bk mk dk]):=lH (by rw[M,X];exact eO _ _);replace t:=rW t G;replace r:=rW r G;replace O:=lH (O.o.below G);replace VK:=lH (VK.o.below G);replace h:=bT h G;clear G
   go_upto_region 6 with (fail)
   rw[<- M, <- X];clear M X k0 k1 k2 k3 kl;obtain⟨av,aw,ax,ay⟩:=aT4 RK.o;have aB:=RK.o.lt;go_wp2_with fail
   clear av aw ax ay aB;refine(fQ _ (c k) _ VK.o).mono ?_;rintro e w5 ⟨rfl,R⟩;replace t:=rW t R;replace r:=rW r R;replace RK:=rW RK R;replace O:=lH (O.o.below R);replace VK:=lH (VK.o.below R);replace h:=bT h R;clear R;obtain⟨sg,a9⟩:=eX (sgI (c k).num);rw[<- a9];by_cases a8:sg=0
   ·have aJ:(sg !=0)=false:=by simpa using a8
    have ah:Hid (c k=0):=lH (jC.1 (a9.symm.trans a8));clear a9;go_wp2_with fail
    go_roundw
    case rel=>exact⟨k+1,q,d,f,B,Z,lg,by have:=a1.o;omega,rfl,by simp,lH (Y.o.off ah.o),t,O,LB,r,h⟩
    case measure=>first | (simp[intOf];done) | (simp[intOf];have:=a1.o;omega)
   ·have aJ:(sg !=0)=true:=by simpa using a8
    have ah:Hid (c k≠0):=lH (fun e=>a8 (a9.trans (jC.2 e)));clear a9
    go_upto_region 7 with (fail)
    clear aJ a8;obtain⟨av,aw,ax,ay⟩:=aT4 RK.o;have aB:=RK.o.lt;go_wp2_with fail
    clear av aw ax ay aB;refine(jE _ (c k) 1000000 _ VK.o ((aP.o k).mono dC) (Nat.le_refl _) (aE.o.below h.o)).mono ?_;rintro e w6 ⟨rfl,R⟩;replace t:=rW t R;replace r:=rW r R;replace O:=lH (O.o.below R);replace h:=bT h R;clear R;clear VK RK;have a6:=lH (Y.o.on ah.o);obtain⟨tx,aK⟩:∃y:ByteArray,y=eB (c k):=⟨_,rfl⟩
    rw[<- aK] at a6 ⊢;clear aK;obtain⟨w7,M⟩:=eX (w6.alloc (.cells #[.int .i64 k, .string tx] 126));obtain⟨gT,X⟩:=eX (w6.heap.size);have G:Below w6.heap.size w6 w7:=by rw[M];exact eD _ _
    have RT:Hid (Row w7 gT 126 [.int .i64 k, .string tx]):=lH (by rw[M,X];exact eO _ _);replace t:=rW t G;replace r:=rW r G;replace O:=lH (O.o.below G);replace h:=bT h G;clear G
    go_upto_region 8 with (fail)
    rw[<- M, <- X];clear M X;obtain⟨lx,ad⟩:∃y:Bool,y=decide (400<tx.size):=⟨_,rfl⟩
    rw[<- ad] at a6;have aM:decide ((400:Int)<(tx.size:Nat))=lx:=by rw[ad];exact decide_eq_decide.2 oM
    have aN:decide (400<tx.size)=lx:=ad.symm;clear ad;obtain⟨a2,a3⟩:=aT2 RT.o;have a4:=RT.o.lt;obtain⟨ln,a7⟩:∃y:Bool,y=(lg || lx):=⟨_,rfl⟩
    rw[<- a7] at a6;cases lg
    ·rw[Bool.false_or] at a7;subst a7
     go_upto_region 9 with (fail)
     clear aM aN a2 a3 a4;have az:=aI 1 t;have aA:=t.o.lt;obtain⟨a2,a3⟩:=aT2 RT.o;have a4:=RT.o.lt;obtain⟨w8,M⟩:=eX (w7.alloc (.cells #[.int .i64 k, .string tx] 126));obtain⟨gE,X⟩:=eX (w7.heap.size);have G:Below w7.heap.size w7 w8:=by rw[M];exact eD _ _
     have RE:Hid (Row w8 gE 126 [.int .i64 k, .string tx]):=lH (by rw[M,X];exact eO _ _);replace t:=rW t G;replace r:=rW r G;replace O:=lH (O.o.below G);replace h:=bT h G;clear G;obtain⟨iT,an,aq,ar,au⟩:=info_parts Jf
     go_wp2_with (at_builtin;(rw[<- M, <- X];refine wpList_plain rfl fun K hK=>J7 _ (.tmp 40) (.tmp 42) 23 rfl 126 iT _ 2 24 underlying23 an aq ar au rfl dC (.slice B q Z) q (cT d f) (cT (upd d q ((k:Nat):Int)) (upd f q tx)) rfl O.o [.int .i64 k, .string tx] rfl (fun i hi j hj=>Jg i hi j hj) (fun j hj=>Jh j hj) (fun y hy=>by simp only[List.mem_cons,List.not_mem_nil,or_false] at hy;rcases hy with rfl | rfl <;> rfl) gE RE.o rfl (by have:=Y.o.le;have:=a1.o;unfold maxLen;omega) ?_))
     intro va w9 ho V;rw[<- M] at V;clear M X az aA a2 a3 a4;obtain⟨B2,b2,rfl,_,_⟩:=ho.shape;have a0:=lH (t.o.turned V (O.o.ne t.o dC));have ak:=lH (r.o.turned V (O.o.ne r.o dC));have ai:=lH (V.base h.o.size LB.o);have a5:=lH (h.o.trans (V.below (B:=w.heap.size) h.o.size LB.o));have aj:=lH ho;clear ho V;refine hK _ _ ?_;clear hK K;have q1:=aI 1 a0;have f1:=a0.o.free 1;have ql:=a0.o.lt;have am:=aC.o;have U:World.grownBy w9 (w9.setCell ⟨gF,1,none⟩ (.slice B2 (q+1) b2)) (some gF):=grownBy_set _ _ _ _;have hF:=lH (a0.o.set 1 (.slice B2 (q+1) b2));have hO:=lH (aj.o.other U a0.o dC);have hR:=lH (ak.o.other U oM);have hB:=lH (a5.o.grown U a5.o.size (by first | (simp;done) | (simp;omega)));clear am U;have ab:=a1.o;go_wp2_with fail
     clear q1 f1 ql;go_roundw
     case rel=>exact⟨k+1,q+1,upd d q ((k:Nat):Int),upd f q tx,B2,b2,_,by have:=a1.o;omega,rfl,by simp,a6,hF,hO,ai,hR,hB⟩
     case measure=>first | (simp[intOf];done) | (simp[intOf];have:=a1.o;omega)
    ·rw[Bool.true_or] at a7;subst a7
     go_upto_region 9 with (fail)
     clear aM aN a2 a3 a4;have az:=aI 1 t;have aA:=t.o.lt;obtain⟨a2,a3⟩:=aT2 RT.o;have a4:=RT.o.lt;obtain⟨w8,M⟩:=eX (w7.alloc (.cells #[.int .i64 k, .string tx] 126));obtain⟨gE,X⟩:=eX (w7.heap.size);have G:Below w7.heap.size w7 w8:=by rw[M];exact eD _ _
     have RE:Hid (Row w8 gE 126 [.int .i64 k, .string tx]):=lH (by rw[M,X];exact eO _ _);replace t:=rW t G;replace r:=rW r G;replace O:=lH (O.o.below G);replace h:=bT h G;clear G;obtain⟨iT,an,aq,ar,au⟩:=info_parts Jf
     go_wp2_with (at_builtin;(rw[<- M, <- X];refine wpList_plain rfl fun K hK=>J7 _ (.tmp 40) (.tmp 42) 23 rfl 126 iT _ 2 24 underlying23 an aq ar au rfl dC (.slice B q Z) q (cT d f) (cT (upd d q ((k:Nat):Int)) (upd f q tx)) rfl O.o [.int .i64 k, .string tx] rfl (fun i hi j hj=>Jg i hi j hj) (fun j hj=>Jh j hj) (fun y hy=>by simp only[List.mem_cons,List.not_mem_nil,or_false] at hy;rcases hy with rfl | rfl <;> rfl) gE RE.o rfl (by have:=Y.o.le;have:=a1.o;unfold maxLen;omega) ?_))
     intro va w9 ho V;rw[<- M] at V;clear M X az aA a2 a3 a4;obtain⟨B2,b2,rfl,_,_⟩:=ho.shape;have a0:=lH (t.o.turned V (O.o.ne t.o dC));have ak:=lH (r.o.turned V (O.o.ne r.o dC));have ai:=lH (V.base h.o.size LB.o);have a5:=lH (h.o.trans (V.below (B:=w.heap.size) h.o.size LB.o));have aj:=lH ho;clear ho V;refine hK _ _ ?_;clear hK K;have q1:=aI 1 a0;have f1:=a0.o.free 1;have ql:=a0.o.lt;have am:=aC.o;have U:World.grownBy w9 (w9.setCell ⟨gF,1,none⟩ (.slice B2 (q+1) b2)) (some gF):=grownBy_set _ _ _ _;have hF:=lH (a0.o.set 1 (.slice B2 (q+1) b2));have hO:=lH (aj.o.other U a0.o dC);have hR:=lH (ak.o.other U oM);have hB:=lH (a5.o.grown U a5.o.size (by first | (simp;done) | (simp;omega)));clear am U;have ab:=a1.o;go_wp2_with fail
     clear q1 f1 ql;go_roundw
     case rel=>exact⟨k+1,q+1,upd d q ((k:Nat):Int),upd f q tx,B2,b2,_,by have:=a1.o;omega,rfl,by simp,a6,hF,hO,ai,hR,hB⟩
     case measure=>first | (simp[intOf];done) | (simp[intOf];have:=a1.o;omega)
  ·have aF:k=64:=oM
   rw[aF] at Y;clear aF;have aG:decide ((64:Int)<(q:Nat))=false:=decide_eq_false (by have:=Y.o.le;omega);have aH:¬(64:Int)<(q:Nat):=by have:=Y.o.le;omega
   obtain⟨af,aO⟩:=aT2 t.o;have ag:=t.o.lt;obtain⟨k0,f0,k1,f1⟩:=aF2 r.o;have kl:=r.o.lt;cases lg
   ·go_wp2_with fail
    clear k0 k1 f0 f1 kl aG aH af aO ag;have U:World.grownBy wr ((wr.setCell ⟨w.heap.size+1,0,none⟩ (.string tc)).setCell ⟨w.heap.size+1,1,none⟩ (.slice B q Z)) (some (w.heap.size+1)):=iP _ _ _ _ _ _;have hR:=(r.o.set 0 (.string tc)).set 1 (.slice B q Z);have hT:=O.o.ttn.other U r.o dC;have hB:=h.o.grown U h.o.size (by first | (simp;done) | (simp;omega));obtain⟨wE,ap⟩:=eX (((wr.setCell ⟨w.heap.size+1,0,none⟩ (.string tc)).setCell ⟨w.heap.size+1,1,none⟩ (.slice B q Z)));rw[<- ap] at hR hT hB ⊢;have k0:=hR.at_ 0 rfl;have k1:=hR.at_ 1 rfl;obtain⟨e1,e2,e3,e4⟩:=Y.o;refine bodyPost_ret (v:= .tuple #[.agg #[.string tc, .slice B q Z], .int .i64 0]) (by simp[results,results118,go_sem,k0,k1]) rfl ?_;have el:L=⟨tc,q,d,f⟩:=by rw[HL.o];unfold MB MG;rw[<- e4,if_neg dC,aR.o,e1,e2,e3]
    have ee:E=0:=by rw[HE.o,MH, <- e4];rfl
    rw[el,ee];exact⟨B,Z,rfl,hT,hB⟩
   ·go_wp2_with fail
    clear k0 k1 f0 f1 kl aG aH af aO ag;have U:World.grownBy wr ((wr.setCell ⟨w.heap.size+1,0,none⟩ (.string ⟨#[]⟩)).setCell ⟨w.heap.size+1,1,none⟩ (.slice none 0 0)) (some (w.heap.size+1)):=iP _ _ _ _ _ _;have hR:=(r.o.set 0 (.string ⟨#[]⟩)).set 1 (.slice none 0 0);have hB:=h.o.grown U h.o.size (by first | (simp;done) | (simp;omega));obtain⟨wE,ap⟩:=eX (((wr.setCell ⟨w.heap.size+1,0,none⟩ (.string ⟨#[]⟩)).setCell ⟨w.heap.size+1,1,none⟩ (.slice none 0 0)));rw[<- ap] at hR hB ⊢;have k0:=hR.at_ 0 rfl;have k1:=hR.at_ 1 rfl;obtain⟨e1,e2,e3,e4⟩:=Y.o;refine bodyPost_ret (v:= .tuple #[.agg #[.string ⟨#[]⟩, .slice none 0 0], .int .i64 5]) (by simp[results,results118,go_sem,k0,k1]) rfl ?_;have el:L=noF:=by rw[HL.o];unfold MB;rw[<- e4,if_pos rfl]
    have ee:E=5:=by rw[HE.o,MH, <- e4];rfl
    rw[el,ee];exact⟨none,0,rfl,(IW.nil wE 126 2 (cT (fun _=>0) (fun _=>⟨#[]⟩))).ttn,hB⟩
end
section
open Go.RowKit
open Lp (RL upd eH)
theorem FOk.terms{F:Frm}(h:FOk 64 F):TOk 64 F:=h.ok
theorem Nl{F G:Frm}{k:Rat}(hF:FOk 64 F)(r:FOk 64 G)(t:RL 400 k)(j:Nat):RL 400000 (adC F G k j):=
 (((uE (K:=400) (fun i h=>ig (hF.ok.size i h) dC) dC F.N (Nat.le_refl _) j).mul t).add (uE (K:=400) (fun i h=>ig (r.ok.size i h) dC) dC G.N (Nat.le_refl _) j)).mono dC
theorem Nn{F G:Frm}{k:Rat}(hF:FOk 64 F)(h:FOk 64 G)(r:RL 400 k):RL 400000 (adQ F G k):=
 (((ig hF.rF dC).mul r).add (ig h.rF dC)).mono dC
theorem MM{F G:Frm}(hF:iL 64 F=0)(r:iL 64 G=0):MJ F G=MH (adQ F G 1) (adC F G 1) /\ ME F G=MB (adQ F G 1) (adC F G 1):=by
 have h:MJ F G=MH (adQ F G 1) (adC F G 1):=by unfold MJ;rw[if_neg (by simpa using hF),if_neg (by simpa using r)];rfl
 refine⟨h,?_⟩;unfold ME MB;rw[h,MH];by_cases e:MC (adQ F G 1) (adC F G 1) 64=true
 ·rw[if_pos e,if_pos e,if_pos dC]
 ·rw[if_neg e,if_neg e,if_neg dC]
theorem MO{F:Frm}{s:ByteArray}(hF:iL 64 F=0)(r:gm s.data.toList=0):MK F s=MH (adQ F zeF (qof s)) (adC F zeF (qof s)) /\ MF F s=MB (adQ F zeF (qof s)) (adC F zeF (qof s)):=by
 have h:MK F s=MH (adQ F zeF (qof s)) (adC F zeF (qof s)):=by unfold MK;rw[if_neg (by simpa using hF),if_neg (by simpa using r)];rfl
 refine⟨h,?_⟩;unfold MF MB;rw[h,MH];by_cases e:MC (adQ F zeF (qof s)) (adC F zeF (qof s)) 64=true
 ·rw[if_pos e,if_pos e,if_pos dC]
 ·rw[if_neg e,if_neg e,if_neg dC]
set_option maxRecDepth 100000 in
set_option maxHeartbeats 12800000 in
theorem Na(F G:Frm)(T U:Option Addr)(kT kU:Nat)(vk:Value)(k:Rat)(w:World)(hT:TT w (.slice T F.N kT) F.N F.d F.f)(hU:TT w (.slice U G.N kU) G.N G.d G.f)(hF:FOk 64 F)(hG:FOk 64 G)(hk:eP w vk k)(hl:RL 400 k)(ht:Tab w)(hg:fF w):
  Calls prog 84 #[.agg #[.string F.c, .slice T F.N kT], .agg #[.string G.c, .slice U G.N kU],vk] w fun e w'=>∃V cV,e= .returned (.tuple #[.agg #[.string (MB (adQ F G k) (adC F G k)).c, .slice V (MB (adQ F G k) (adC F G k)).N cV], .int .i64 ((MH (adQ F G k) (adC F G k):Nat):Nat)]) /\ TTN w' (.slice V (MB (adQ F G k) (adC F G k)).N cV) (MB (adQ F G k) (adC F G k)).N (MB (adQ F G k) (adC F G k)).d (MB (adQ F G k) (adC F G k)).f /\ Below w.heap.size w w':=by
 obtain⟨sk,Ak,lk,ck,tk,Bk,mk,dk,rfl⟩:=hk.shape;have HT:=lH hT;have HU:=lH hU;have a6:=lH hF;have ab:=lH hG;have aa:=lH hl;have ap:=lH ht;have ad:=lH hg;have VK:=lH hk;clear hT hU hF hG hl ht hg hk;obtain⟨W,hW⟩:=eX (((((w.alloc (.cells #[.string F.c, .slice T F.N kT] 25)).alloc (.cells #[.string G.c, .slice U G.N kU] 25)).alloc (.cells #[.bool sk, .slice Ak lk ck, .bool tk, .slice Bk mk dk] 40)).alloc (.cells #[.string ⟨#[]⟩, .slice none 0 0] 25)));obtain⟨r0,r1,r2,r3,ao,ai⟩:=DY w (.cells #[.string F.c, .slice T F.N kT] 25) (.cells #[.string G.c, .slice U G.N kU] 25) (.cells #[.bool sk, .slice Ak lk ck, .bool tk, .slice Bk mk dk] 40) (.cells #[.string ⟨#[]⟩, .slice none 0 0] 25);rw[<- hW] at r0 r1 r2 r3 ao ai;have RF:Hid (Row W w.heap.size 25 [.string F.c, .slice T F.N kT]):=lH r0;have Z:Hid (Row W (w.heap.size+1) 25 [.string G.c, .slice U G.N kU]):=lH r1;have r:Hid (Row W (w.heap.size+1+1) 40 [.bool sk, .slice Ak lk ck, .bool tk, .slice Bk mk dk]):=lH r2;have O:Hid (Row W (w.heap.size+1+1+1) 25 [.string ⟨#[]⟩, .slice none 0 0]):=lH r3;have t:=lH ai;clear r0 r1 r2 r3 ao ai;go_enter func84,ntmps84
 go_upto_region 1 with (fail)
 rw[<- hW];clear hW;obtain⟨gO,ag⟩:=eX (W.heap.size);have an:=O.o.lt
 go_wp2_with (at_make;refine oh _ rfl (.const (.int .i64 64)) (.const (.int .i64 64)) rfl _ _ 64 rfl rfl rfl rfl dC ?_)
 rw[<- ag];intro w1 aj h ar;rw[ag] at h;have SB:=lH aj;have a1:Hid (w.heap.size+1+1+1<gO):=lH (by rw[ag];exact an);have a5:gO<w1.heap.size:=aj.lt;replace RF:=rW RF h;replace Z:=rW Z h;replace r:=rW r h;replace O:=rW O h;replace t:=bT t h;clear h;clear aj ar ag an;obtain⟨w2,ah⟩:=eX (w1.alloc (.cells #[.slice (some ⟨gO,0,none⟩) 64 64] 33));obtain⟨gF,af⟩:=eX (w1.heap.size);have a7:Below w1.heap.size w1 w2:=by rw[ah];exact eD _ _
 have X:Hid (Row w2 gF 33 [.slice (some ⟨gO,0,none⟩) 64 64]):=lH (by rw[ah,af];exact eO _ _);replace RF:=rW RF a7;replace Z:=rW Z a7;replace r:=rW r a7;replace O:=rW O a7;replace SB:=lH (SB.o.below a7);replace t:=bT t a7;have a9:Hid (gO<gF):=lH (by rw[af];exact a5);clear a7 a5
 go_upto_region 2 with (fail)
 rw[<- ah, <- af];clear ah af;have av:=aI 0 RF;have ak:=RF.o.lt;go_wp2_with fail
 clear av ak;refine(nQ F.c _ (Nat.le_trans (a6.o.rF) dC) (ad.o.below t.o)).mono ?_;rintro e w3 ⟨vf,rfl,hf,h⟩;obtain⟨sa,Aa,la,ca,ta,Ba,ma,da,rfl⟩:=hf.shape;have VA:=lH hf;clear hf;replace RF:=rW RF h;replace Z:=rW Z h;replace r:=rW r h;replace O:=rW O h;replace X:=rW X h;replace SB:=lH (SB.o.below h);replace t:=bT t h;clear h;have a5:=SB.o.lt;obtain⟨w4,a4⟩:=eX (w3.alloc (.cells #[.bool sa, .slice Aa la ca, .bool ta, .slice Ba ma da] 40));obtain⟨gA,a2⟩:=eX (w3.heap.size);have a0:Below w3.heap.size w3 w4:=by rw[a4];exact eD _ _
 have M:Hid (Row w4 gA 40 [.bool sa, .slice Aa la ca, .bool ta, .slice Ba ma da]):=lH (by rw[a4,a2];exact eO _ _);replace RF:=rW RF a0;replace Z:=rW Z a0;replace r:=rW r a0;replace O:=rW O a0;replace X:=rW X a0;replace SB:=lH (SB.o.below a0);replace VA:=lH (VA.o.below a0);replace t:=bT t a0;have al:Hid (gO<gA):=lH (by rw[a2];exact a5);clear a0 a5
 go_upto_region 3 with (fail)
 rw[<- a4, <- a2];clear a4 a2;obtain⟨wq,rfl⟩:=eX (w4);have aw:=aI 0 Z;have aC:=Z.o.lt;go_wp2_with fail
 clear aw aC;refine(nQ G.c _ (Nat.le_trans (ab.o.rF) dC) (ad.o.below t.o)).mono ?_;rintro e w3 ⟨vf,rfl,hf,h⟩;obtain⟨sb,Ab,lb,cb,tb,Bb,mb,db,rfl⟩:=hf.shape;have VB:=lH hf;clear hf;replace RF:=rW RF h;replace Z:=rW Z h;replace r:=rW r h;replace O:=rW O h;replace X:=rW X h;replace M:=rW M h;replace SB:=lH (SB.o.below h);replace VA:=lH (VA.o.below h);replace t:=bT t h;clear h;have a5:=SB.o.lt;obtain⟨w4,a4⟩:=eX (w3.alloc (.cells #[.bool sb, .slice Ab lb cb, .bool tb, .slice Bb mb db] 40));obtain⟨gB,a2⟩:=eX (w3.heap.size);have a0:Below w3.heap.size w3 w4:=by rw[a4];exact eD _ _
 have R:Hid (Row w4 gB 40 [.bool sb, .slice Ab lb cb, .bool tb, .slice Bb mb db]):=lH (by rw[a4,a2];exact eO _ _);replace RF:=rW RF a0;replace Z:=rW Z a0;replace r:=rW r a0;replace O:=rW O a0;replace X:=rW X a0;replace M:=rW M a0;replace SB:=lH (SB.o.below a0);replace VA:=lH (VA.o.below a0);replace VB:=lH (VB.o.below a0);replace t:=bT t a0;have am:Hid (gO<gB):=lH (by rw[a2];exact a5);clear a0 a5
 go_upto_region 4 with (fail)
 rw[<- a4, <- a2];clear a4 a2;obtain⟨wq,rfl⟩:=eX (w4);have ay:=aI 1 RF;have ak:=RF.o.lt;obtain⟨ax,az,aA,aB⟩:=aT4 r.o;have aD:=r.o.lt;go_wp2_with fail
 clear ay ak ax az aA aB aD;replace VK:=lH (VK.o.below t.o);refine(N9 F T kT gO gF gO (fun _=>0) _ k _ (fun w' h=>HT.o.below (t.o.trans (h.mono (by have:=a1.o;omega)))) a6.o.ok X.o SB.o VK.o (fun j=>RL.zero.mono dC) aa.o ⟨by have:=SB.o.lt;omega,by have:=a9.o;omega,Nat.le_refl _⟩ (by have:=a9.o;omega) (fun w' h=>ad.o.below (t.o.trans (h.mono (by have:=a1.o;omega))))).mono ?_;rintro e w5 ⟨rfl,hS,hc⟩;obtain⟨aq,ac⟩:=SB.o.row;have a3:iR (fun k=>k=gO) wq:=by intro y hy;have hy:y=gO:=hy;subst hy;exact⟨_,_,ac,gM⟩
 replace Z:=lH (Z.o.chg hc (by have:=a1.o;omega));replace r:=lH (r.o.chg hc (by have:=a1.o;omega));replace O:=lH (O.o.chg hc (by have:=a1.o;omega));replace X:=lH (X.o.chg hc (by have:=a9.o;omega));replace M:=lH (M.o.chg hc (by have:=al.o;omega));replace R:=lH (R.o.chg hc (by have:=am.o;omega));replace VA:=lH (VA.o.chg hc a3);replace VB:=lH (VB.o.chg hc a3);replace VK:=lH (VK.o.chg hc a3);replace t:=lH (t.o.trans (hc.below t.o.size (fun k hk=>by have:=a1.o;omega)));replace SB:=lH hS;clear hS hc a3 ac
 go_upto_region 6 with (fail)
 refine iC (fun w'=> w'.cell? ⟨w.heap.size+1,1,none⟩=some (.slice U G.N kU)) (fun i=>false) kR ?_;obtain⟨y1,a8⟩:=eX (w5.drew);rw[<- a8];have h:Below w5.heap.size w5 y1:=by rw[a8];exact(Below.refl _ _).drew
 clear a8;replace Z:=rW Z h;replace r:=rW r h;replace O:=rW O h;replace X:=rW X h;replace M:=rW M h;replace R:=rW R h;replace SB:=lH (SB.o.below h);replace VA:=lH (VA.o.below h);replace VB:=lH (VB.o.below h);replace VK:=lH (VK.o.below h);replace t:=bT t h;have ae:=lH h;clear h;have Y:=aI 1 Z;refine tKs 0 33 Y ?_;refine tKs 1 34 Y ?_;refine tKs 2 35 Y ?_;refine rD 3 (fun K hK=> ?_);go_simp;refine(nL 1 dC dC _).mono ?_;rintro e y2 ⟨vs,rfl,hs,h⟩;obtain⟨ss,As,ls,cs,ts,Bs,ms,ds,rfl⟩:=hs.shape;have VS:=lH hs;clear hs;replace Z:=rW Z h;replace r:=rW r h;replace O:=rW O h;replace X:=rW X h;replace M:=rW M h;replace R:=rW R h;replace SB:=lH (SB.o.below h);replace VA:=lH (VA.o.below h);replace VB:=lH (VB.o.below h);replace VK:=lH (VK.o.below h);replace t:=bT t h;replace ae:=bT ae h;clear h;clear Y;have Y:=aI 1 Z;refine kH hK Y ?_;clear hK K;refine rD 4 (fun K hK=> ?_);go_simp;refine(N9 G U kU gO gF gO (fun j=>0+iw F F.N j*k) _ ((1:Int):Rat) _ (fun w' h=>HU.o.below (t.o.trans (h.mono (by have:=a1.o;omega)))) ab.o.ok X.o SB.o VS.o (fun j=>(((show RL 1 (0:Rat) from RL.zero.mono dC).add ((uE (K:=400) (fun i hi=>ig (a6.o.ok.size i hi) dC) dC F.N (Nat.le_refl _) j).mul aa.o)).mono dC)) (show RL 400 ((1:Int):Rat) from RL.mono (k:=1) (by unfold RL;decide) dC) ⟨by have:=SB.o.lt;omega,by have:=a9.o;omega,Nat.le_refl _⟩ (by have:=a9.o;omega) (fun w' h=>ad.o.below (t.o.trans (h.mono (by have:=a1.o;omega))))).mono ?_;rintro e y3 ⟨rfl,hS,hc⟩;obtain⟨aq,ac⟩:=SB.o.row;have a3:iR (fun k=>k=gO) y2:=by intro y hy;have hy:y=gO:=hy;subst hy;exact⟨_,_,ac,gM⟩
 replace Z:=lH (Z.o.chg hc (by have:=a1.o;omega));replace r:=lH (r.o.chg hc (by have:=a1.o;omega));replace O:=lH (O.o.chg hc (by have:=a1.o;omega));replace X:=lH (X.o.chg hc (by have:=a9.o;omega));replace M:=lH (M.o.chg hc (by have:=al.o;omega));replace R:=lH (R.o.chg hc (by have:=am.o;omega));replace VA:=lH (VA.o.chg hc a3);replace VB:=lH (VB.o.chg hc a3);replace VK:=lH (VK.o.chg hc a3);replace t:=lH (t.o.trans (hc.below t.o.size (fun k hk=>by have:=a1.o;omega)));replace SB:=lH hS;clear hS hc a3 ac;clear Y;have Y:=aI 1 Z;refine kH hK Y ?_;clear hK K;refine dN ?_ _;clear Y;replace SB:=lH (SB.o.congr (f':=adC F G k) (fun j _=>by unfold adC;have e1:((1:Int):Rat)=1:=rfl;rw[e1];grind));obtain⟨w6,rfl⟩:=eX (y3);clear VS ae
 go_upto_region 7 with (fail)
 refine iC (fun w'=> w'.cell? ⟨gA,0,none⟩=some (.bool sa) /\ w'.cell? ⟨gA,1,none⟩=some (.slice Aa la ca) /\ w'.cell? ⟨gA,2,none⟩=some (.bool ta) /\ w'.cell? ⟨gA,3,none⟩=some (.slice Ba ma da) /\ w'.cell? ⟨gB,0,none⟩=some (.bool sb) /\ w'.cell? ⟨gB,1,none⟩=some (.slice Ab lb cb) /\ w'.cell? ⟨gB,2,none⟩=some (.bool tb) /\ w'.cell? ⟨gB,3,none⟩=some (.slice Bb mb db) /\ w'.cell? ⟨w.heap.size+1+1,0,none⟩=some (.bool sk) /\ w'.cell? ⟨w.heap.size+1+1,1,none⟩=some (.slice Ak lk ck) /\ w'.cell? ⟨w.heap.size+1+1,2,none⟩=some (.bool tk) /\ w'.cell? ⟨w.heap.size+1+1,3,none⟩=some (.slice Bk mk dk) /\ w'.cell? ⟨gF,0,none⟩=some (.slice (some ⟨gO,0,none⟩) 64 64)) (fun i=>decide (9 <= i)) kR ?_;obtain⟨y4,a8⟩:=eX (w6.drew);rw[<- a8];have h:Below w6.heap.size w6 y4:=by rw[a8];exact(Below.refl _ _).drew
 clear a8;replace r:=rW r h;replace O:=rW O h;replace X:=rW X h;replace M:=rW M h;replace R:=rW R h;replace SB:=lH (SB.o.below h);replace VA:=lH (VA.o.below h);replace VB:=lH (VB.o.below h);replace VK:=lH (VK.o.below h);replace t:=bT t h;have ae:=lH h;clear h;have Y:=And.intro (M.o.at_ 0 rfl) (And.intro (M.o.at_ 1 rfl) (And.intro (M.o.at_ 2 rfl) (And.intro (M.o.at_ 3 rfl) (And.intro (R.o.at_ 0 rfl) (And.intro (R.o.at_ 1 rfl) (And.intro (R.o.at_ 2 rfl) (And.intro (R.o.at_ 3 rfl) (And.intro (r.o.at_ 0 rfl) (And.intro (r.o.at_ 1 rfl) (And.intro (r.o.at_ 2 rfl) (And.intro (r.o.at_ 3 rfl) (X.o.at_ 0 rfl))))))))))));refine tKs 0 38 Y ?_;refine tKs 1 39 Y ?_;refine tKs 3 41 Y ?_;refine tKs 5 43 Y ?_;refine rD 2 (fun K hK=> ?_);go_simp;refine(mO _ _ (qof F.c) k _ VA.o VK.o ((ig a6.o.rF dC).mono dC) (aa.o.mono dC)).mono ?_;rintro e y5 ⟨vp,rfl,hp,h⟩;obtain⟨sp,Ap,lp,cp,tp,Bp,mp,dp,rfl⟩:=hp.shape;have VP:=lH hp;clear hp;replace r:=rW r h;replace O:=rW O h;replace X:=rW X h;replace M:=rW M h;replace R:=rW R h;replace SB:=lH (SB.o.below h);replace VB:=lH (VB.o.below h);replace t:=bT t h;clear h;clear Y;have Y:=And.intro (M.o.at_ 0 rfl) (And.intro (M.o.at_ 1 rfl) (And.intro (M.o.at_ 2 rfl) (And.intro (M.o.at_ 3 rfl) (And.intro (R.o.at_ 0 rfl) (And.intro (R.o.at_ 1 rfl) (And.intro (R.o.at_ 2 rfl) (And.intro (R.o.at_ 3 rfl) (And.intro (r.o.at_ 0 rfl) (And.intro (r.o.at_ 1 rfl) (And.intro (r.o.at_ 2 rfl) (And.intro (r.o.at_ 3 rfl) (X.o.at_ 0 rfl))))))))))));refine kH hK Y ?_;clear hK K;refine rD 4 (fun K hK=> ?_);go_simp;refine(u7 _ _ (qof F.c*k) (qof G.c) _ VP.o VB.o (((ig a6.o.rF dC).mul aa.o).mono dC) ((ig ab.o.rF dC).mono dC)).mono ?_;rintro e y6 ⟨vr,rfl,hr,h⟩;obtain⟨sr,Ar,lr,cr,tr,Br,mr,dr,rfl⟩:=hr.shape;have VR:=lH hr;clear hr;replace r:=rW r h;replace O:=rW O h;replace X:=rW X h;replace M:=rW M h;replace R:=rW R h;replace SB:=lH (SB.o.below h);replace t:=bT t h;clear h;clear Y;have Y:=And.intro (M.o.at_ 0 rfl) (And.intro (M.o.at_ 1 rfl) (And.intro (M.o.at_ 2 rfl) (And.intro (M.o.at_ 3 rfl) (And.intro (R.o.at_ 0 rfl) (And.intro (R.o.at_ 1 rfl) (And.intro (R.o.at_ 2 rfl) (And.intro (R.o.at_ 3 rfl) (And.intro (r.o.at_ 0 rfl) (And.intro (r.o.at_ 1 rfl) (And.intro (r.o.at_ 2 rfl) (And.intro (r.o.at_ 3 rfl) (X.o.at_ 0 rfl))))))))))));refine kH hK Y ?_;clear hK K;refine rD 6 (fun K hK=> ?_);go_simp;refine(Nk (adC F G k) _ (adQ F G k) gO _ VR.o (Nn a6.o ab.o aa.o) SB.o (Nl a6.o ab.o aa.o) (ap.o.below t.o)).mono ?_;rintro e y7 ⟨V,cV,rfl,hV,h⟩;obtain⟨L,hL⟩:∃L:Frm,L=MB (adQ F G k) (adC F G k):=⟨_,rfl⟩
 obtain⟨E,hE⟩:=eX (MH (adQ F G k) (adC F G k));rw[<- hL] at hV ⊢;rw[<- hE];have HL:=lH hL;have HE:=lH hE;have HV:=lH hV;clear hL hE hV;replace r:=rW r h;replace O:=rW O h;replace X:=rW X h;replace M:=rW M h;replace R:=rW R h;replace t:=bT t h;clear h;clear Y;have Y:=And.intro (M.o.at_ 0 rfl) (And.intro (M.o.at_ 1 rfl) (And.intro (M.o.at_ 2 rfl) (And.intro (M.o.at_ 3 rfl) (And.intro (R.o.at_ 0 rfl) (And.intro (R.o.at_ 1 rfl) (And.intro (R.o.at_ 2 rfl) (And.intro (R.o.at_ 3 rfl) (And.intro (r.o.at_ 0 rfl) (And.intro (r.o.at_ 1 rfl) (And.intro (r.o.at_ 2 rfl) (And.intro (r.o.at_ 3 rfl) (X.o.at_ 0 rfl))))))))))));refine kH hK Y ?_;clear hK K;refine tKs 7 45 Y ?_;refine tKs 8 46 Y ?_;refine rD 9 (fun K hK=> ?_);obtain⟨k0,f0,k1,f1⟩:=aF2 O.o;have kl:=O.o.lt;go_simp;refine kL hK ?_;clear hK K;refine tWs 10 7 ?_;refine dN ?_ _;clear Y;go_wp2_with fail
 clear kl k0 k1 f0 f1;have hg:World.grownBy y7 ((y7.setCell ⟨w.heap.size+1+1+1,0,none⟩ (.string L.c)).setCell ⟨w.heap.size+1+1+1,1,none⟩ (.slice V L.N cV)) (some (w.heap.size+1+1+1)):=iP _ _ _ _ _ _;have hR:=(O.o.set 0 (.string L.c)).set 1 (.slice V L.N cV);have hT:=HV.o.other hg O.o dC;have hB:=t.o.grown hg t.o.size (by first | (simp;done) | (simp;omega));obtain⟨wE,au⟩:=eX (((y7.setCell ⟨w.heap.size+1+1+1,0,none⟩ (.string L.c)).setCell ⟨w.heap.size+1+1+1,1,none⟩ (.slice V L.N cV)));rw[<- au] at hR hT hB ⊢;have k0:=hR.at_ 0 rfl;have k1:=hR.at_ 1 rfl;refine bodyPost_ret (v:= .tuple #[.agg #[.string L.c, .slice V L.N cV], .int .i64 (E:Nat)]) (by simp[results,results84,go_sem,k0,k1]) rfl ?_;exact⟨V,cV,by rw[HL.o,HE.o],by rw[<- HL.o];exact hT,hB⟩
end
end Go.Proofs.YtokagbahdkfagaaGreatDoor
