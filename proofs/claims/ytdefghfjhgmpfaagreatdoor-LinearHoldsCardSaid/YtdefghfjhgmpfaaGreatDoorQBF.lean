/- Parts of this proof: Release. -/
import Derived.Test.YtdefghfjhgmpfaaGreatDoorQAE
import Derived.Test.YtdefghfjhgmpfaaGreatDoorQBE
namespace Go.Proofs.YtdefghfjhgmpfaaGreatDoor
open Go.RowKit
open Lp (RL upd Dict)
structure Good (m n:Nat) (D0 D:Dict) (k:Nat):Prop where
 ok:D.Ok m n
 sol:∀x g f,D.Sol m n x g f↔D0.Sol m n x g f
 rel:D.Rel m n k
theorem Good.lim{m n k K:Nat}{D0 D:Dict}(h:Good m n D0 D k)(h0:D0.Ok m n)(hl:D0.Lim m n K):D.Lim m n (Lp.wide m n K):=
 Lp.near_lim h0 h.ok (fun x g f=>(h.sol x g f).symm) hl
theorem Good.pivot{m n i j:Nat}{D0 D:Dict}(h:Good m n D0 D j)(hi:i<m)(hj:j<n)(hb:n <= D.basic i)(hk:D.cell i j≠0):Good m n D0 (D.pivot i j) (j+1):=
 ⟨h.ok.pivot hi hj,fun x g f=>(Dict.sol_pivot hi hj hk).trans (h.sol x g f),h.rel.pivot hj hi hb⟩
theorem Good.none_{m n j:Nat}{D0 D:Dict}(h:Good m n D0 D j)(hz:∀r,r<m -> n <= D.basic r -> D.cell r j=0):Good m n D0 D (j+1):=⟨h.ok,h.sol,h.rel.none_ hz⟩
set_option maxRecDepth 100000 in
set_option maxHeartbeats 6400000 in
theorem release_walk(L:Lay)(m n K:Nat)(D0:Dict)(w:World)(hT:Tabl w L m n D0)(hok:D0.Ok m n)(hrel:D0.Rel m n 0)(hlim:D0.Lim m n K)(hK:Lp.wide m n K <= 100000000000)(hm:m <= 4611686018427387904)(hn:n <= 4611686018427387904):
  Calls Tryz.prog 101 #[.pointer (some ⟨L.gt,0,none⟩)] w fun e w'=>e= .returned (.tuple #[]) /\ (∃D,Tabl w' L m n D /\ Good m n D0 D n) /\ Chg (L.blocks m) w w':=by
 have HOK:=lH hok;have HLIM:=lH hlim;have HKK:=lH hK;have HG0:Hid (Good m n D0 D0 0):=lH ⟨hok,fun _ _ _=>Iff.rfl,hrel⟩;have HT0:=lH hT;clear hok hlim hK hrel;obtain⟨sv,Av,lv,cv,tv,Bv,mv,dv,hrt,hvv⟩:=hT.st;unfold Lay.cells at hrt;have RT:=lH hrt;clear hrt hvv;have k2:=aI 2 RT;have kl:=RT.out.lt;clear hT;go_enter Tryz.func101,Tryz.ntmps101;go_wp2_with fail
 clear k2 kl RT
 go_loopw [9] (fun iv wr=>∃k:Nat,k <= n /\ iv= .int .i64 k /\ Hid (∃D,Tabl wr L m n D /\ Good m n D0 D k) /\ Chg (L.blocks m) w wr)
  (fun iv _=>n-(intOf iv).toNat)
 case atStart=>exact⟨0,Nat.zero_le _,rfl,lH ⟨D0,HT0.out,HG0.out⟩,Chg.refl _ _⟩
 case round=>
  clear HT0 HG0;obtain⟨k,hk,rfl,HS,hbw⟩:=hrel;have HB0:=lH hbw;clear hbw;obtain⟨wa,rfl⟩:=eX (wr);by_cases hkn:((k:Nat):Int)<(n:Nat)
  ·have hkn':k<n:=by omega
   obtain⟨D,hT,hG⟩:=HS.out;have HT1:=lH hT;have HG:=lH hG;have HLD:=lH (hG.lim HOK.out HLIM.out);clear hG HS;have hn0:0<n:=by omega
   rw[(HT1.out.ao hn0).1];obtain⟨sv,Av,lv,cv,tv,Bv,mv,dv,hrt,hvv⟩:=hT.st;unfold Lay.cells at hrt;rw[(hT.ao hn0).1,(hT.ao hn0).2] at hrt;have RT:=lH hrt;clear hrt hvv;have k1:=aI 1 RT;have kl:=RT.out.lt;clear hT;go_wp2_with fail
   clear k1 kl RT
   go_loopw [17] (fun iv wr=>∃r:Nat,r <= m /\ iv= .int .i64 r /\ Hid (∀c,c<r -> n <= D.basic c -> D.cell c k=0) /\ Below wa.heap.size wa wr)
    (fun iv _=>m-(intOf iv).toNat)
   case atStart=>exact⟨0,Nat.zero_le _,rfl,lH (fun c hc=>absurd hc (by omega)),Below.refl _ _⟩
   case round=>
    obtain⟨r,hr,rfl,HZ,hbw⟩:=hrel;have HB:=lH hbw;have HT:=lH (HT1.out.below hbw);clear hbw;by_cases hrm:((r:Nat):Int)<(m:Nat)
    ·have hrm:r<m:=by omega
     have hm0:0<m:=by omega
     rw[(HT.out.ab hm0).1];obtain⟨sv,Av,lv,cv,tv,Bv,mv,dv,hrt,hvv⟩:=HT.out.st;unfold Lay.cells at hrt;rw[(HT.out.ab hm0).1,(HT.out.ab hm0).2.1,(HT.out.ab hm0).2.2] at hrt;rw[(HT.out.ao hn0).1,(HT.out.ao hn0).2] at hrt;have RT:=lH hrt;clear hrt hvv;have C0:=lH ((HT.out.bas hm0).at_ hrm);have C1:=lH ((HT.out.out hm0).at_ hn0 hrm);obtain⟨sx,Ax,lx,cx,tx,Bx,mx,dx,hQx,hvQx⟩:=((HT.out.rows hn0 r hrm)).quad hkn';have Qx:=lH hQx;have Vx:=lH hvQx;clear hQx hvQx;by_cases hf:¬n <= D.basic r
     ·have hge:decide (n <= D.basic r)=false:=by simp;omega
      have HF:=lH hf;clear hf;go_wp2_with fail
      have HRG:=rG wr;have glRT:=RT.out.lt;have g0RT:=aI 0 RT;have g1RT:=aI 1 RT;have g2RT:=aI 4 RT;have glC0:=cell_lt C0.out;have g0C0:=C0.out;have glC1:=cell_lt C1.out;have g0C1:=C1.out;have glQx:=Qx.out.lt;obtain⟨g0Qx,g1Qx,g2Qx,g3Qx⟩:=Qx.out;have KS:=lH (kC g0RT (kC g1RT (kC g2RT (kC g0C0 (kC g0C1 (kC g0Qx (kC g1Qx (kC g2Qx (kN g3Qx)))))))));clear glRT g0RT g1RT g2RT glC0 g0C0 glC1 g0C1 glQx g0Qx g1Qx g2Qx g3Qx;refine rL KS.out (fun i=>false) ?_;have hh:=KS.out _ HRG.out;refine tKs 0 20 hh ?_;refine tKs 1 21 hh ?_;refine tKs 2 22 hh ?_;refine tKs 3 23 hh ?_;refine tKs 4 24 hh ?_;refine tKs 5 25 hh ?_;refine tKs 6 26 hh ?_;refine tKs 7 27 hh ?_;refine tKs 8 28 hh ?_;refine tKs 9 29 hh ?_;refine tKs 10 30 hh ?_;refine tKs 11 31 hh ?_;refine tKs 12 32 hh ?_;refine tUs 13 33 hh ?_;refine tUs 14 34 hh ?_;refine tUs 15 35 hh ?_;refine tUs 16 36 hh ?_;refine tUs 17 37 hh ?_;refine tUs 18 38 hh ?_;refine tUs 19 39 hh ?_;refine tUs 20 40 hh ?_;refine tUs 21 41 hh ?_;refine tUs 22 42 hh ?_;refine tUs 23 43 hh ?_;refine tUs 24 44 hh ?_;refine tKs 25 45 hh ?_;refine dN ?_ _;clear hh KS HRG;clear hge;go_wp2_with fail
      go_roundw
      case rel=>exact⟨r+1,by omega,by simp,lH (fun c hc hn=>by by_cases e:c=r;subst e;exact absurd hn HF.out;exact HZ.out c (by omega) hn),HB.out.drew⟩
      case measure=>exact mZ
     ·have hge:decide (n <= D.basic r)=true:=by simp;omega
      have HF:Hid (n <= D.basic r):=lH (by omega);clear hf;by_cases hc:D.cell r k=0
      ·have hsn:(sgI (D.cell r k).num !=0)=false:=by simpa using sgI_zero.2 hc
       have HC:=lH hc;have HSN:=lH hsn;clear hc hsn;go_wp2_with fail
       have HRG:=rG wr;have glRT:=RT.out.lt;have g0RT:=aI 0 RT;have g1RT:=aI 1 RT;have g2RT:=aI 4 RT;have glC0:=cell_lt C0.out;have g0C0:=C0.out;have glC1:=cell_lt C1.out;have g0C1:=C1.out;have glQx:=Qx.out.lt;obtain⟨g0Qx,g1Qx,g2Qx,g3Qx⟩:=Qx.out;have KS:=lH (kC g0RT (kC g1RT (kC g2RT (kC g0C0 (kC g0C1 (kC g0Qx (kC g1Qx (kC g2Qx (kN g3Qx)))))))));clear glRT g0RT g1RT g2RT glC0 g0C0 glC1 g0C1 glQx g0Qx g1Qx g2Qx g3Qx;refine rL KS.out (fun i=>false) ?_;have hh:=KS.out _ HRG.out;refine tKs 0 20 hh ?_;refine tKs 1 21 hh ?_;refine tKs 2 22 hh ?_;refine tKs 3 23 hh ?_;refine tKs 4 24 hh ?_;refine tKs 5 25 hh ?_;refine tKs 6 26 hh ?_;refine tKs 7 27 hh ?_;refine tKs 8 28 hh ?_;refine tKs 9 29 hh ?_;refine tKs 10 30 hh ?_;refine tKs 11 31 hh ?_;refine tKs 12 32 hh ?_;refine tKs 13 33 hh ?_;refine tKs 14 34 hh ?_;refine tKs 15 35 hh ?_;refine tKs 16 36 hh ?_;refine tKs 17 37 hh ?_;refine tKs 18 38 hh ?_;refine tKs 19 39 hh ?_;refine tKs 20 40 hh ?_;refine tKs 21 41 hh ?_;refine tKs 22 42 hh ?_;refine rD 23 (fun K hK=> ?_);go_simp;refine(rsgn_walk _ (D.cell r k) _ (by exact Vx.out)).mono ?_;rintro e w1 ⟨rfl,hb1⟩;have hb1:Below wr.heap.size wr w1:=bD hb1;replace HT:=lH (HT.out.below hb1);replace Vx:=lH (Vx.out.below hb1);replace RT:=rW RT hb1;replace Qx:=lH (Qx.out.below hb1);replace C0:=lH (cell_below hb1 C0.out);replace C1:=lH (cell_below hb1 C1.out);replace HB:=bT HB hb1;replace HRG:=bT HRG hb1;have hsn:=HSN.out;clear hh hb1;have hh:=KS.out _ HRG.out;refine kH hK hh ?_;clear hK K;refine tKs 24 44 hh ?_;refine tKs 25 45 hh ?_;refine dN ?_ _;clear hh KS HRG;clear hge hsn;go_wp2_with fail
       go_roundw
       case rel=>exact⟨r+1,by omega,by simp,lH (fun c hc hn=>by by_cases e:c=r;subst e;exact HC.out;exact HZ.out c (by omega) hn),HB.out⟩
       case measure=>exact mZ
      ·have hsn:(sgI (D.cell r k).num !=0)=true:=by simpa using (not_congr sgI_zero).2 hc
       have HC:=lH hc;have HSN:=lH hsn;clear hc hsn;go_wp2_with fail
       have HRG:=rG wr;have glRT:=RT.out.lt;have g0RT:=aI 0 RT;have g1RT:=aI 1 RT;have g2RT:=aI 4 RT;have glC0:=cell_lt C0.out;have g0C0:=C0.out;have glC1:=cell_lt C1.out;have g0C1:=C1.out;have glQx:=Qx.out.lt;obtain⟨g0Qx,g1Qx,g2Qx,g3Qx⟩:=Qx.out;have KS:=lH (kC g0RT (kC g1RT (kC g2RT (kC g0C0 (kC g0C1 (kC g0Qx (kC g1Qx (kC g2Qx (kN g3Qx)))))))));clear glRT g0RT g1RT g2RT glC0 g0C0 glC1 g0C1 glQx g0Qx g1Qx g2Qx g3Qx;refine rL KS.out (fun i=>false) ?_;have hh:=KS.out _ HRG.out;refine tKs 0 20 hh ?_;refine tKs 1 21 hh ?_;refine tKs 2 22 hh ?_;refine tKs 3 23 hh ?_;refine tKs 4 24 hh ?_;refine tKs 5 25 hh ?_;refine tKs 6 26 hh ?_;refine tKs 7 27 hh ?_;refine tKs 8 28 hh ?_;refine tKs 9 29 hh ?_;refine tKs 10 30 hh ?_;refine tKs 11 31 hh ?_;refine tKs 12 32 hh ?_;refine tKs 13 33 hh ?_;refine tKs 14 34 hh ?_;refine tKs 15 35 hh ?_;refine tKs 16 36 hh ?_;refine tKs 17 37 hh ?_;refine tKs 18 38 hh ?_;refine tKs 19 39 hh ?_;refine tKs 20 40 hh ?_;refine tKs 21 41 hh ?_;refine tKs 22 42 hh ?_;refine rD 23 (fun K hK=> ?_);go_simp;refine(rsgn_walk _ (D.cell r k) _ (by exact Vx.out)).mono ?_;rintro e w1 ⟨rfl,hb1⟩;have hb1:Below wr.heap.size wr w1:=bD hb1;replace HT:=lH (HT.out.below hb1);replace Vx:=lH (Vx.out.below hb1);replace RT:=rW RT hb1;replace Qx:=lH (Qx.out.below hb1);replace C0:=lH (cell_below hb1 C0.out);replace C1:=lH (cell_below hb1 C1.out);replace HB:=bT HB hb1;replace HRG:=bT HRG hb1;have hsn:=HSN.out;clear hh hb1;have hh:=KS.out _ HRG.out;refine kH hK hh ?_;clear hK K;refine tKs 24 44 hh ?_;refine tKs 25 45 hh ?_;refine dN ?_ _;clear hh KS HRG;clear hge hsn;go_wp2_with fail
       refine(pivot_walk L m n r k _ D _ HT.out hrm hkn' HC.out HLD.out HKK.out hm hn).mono ?_;rintro e wq ⟨rfl,htq,hcq⟩;have HTQ:=lH htq;have HCQ:=lH ((HB0.out.thenB HB.out).trans hcq (fun b hb=> .inl hb));clear htq hcq;go_wp2_with fail
       go_roundw
       case rel=>exact⟨k+1,by omega,by simp,lH ⟨_,HTQ.out,HG.out.pivot hrm hkn' HF.out HC.out⟩,HCQ.out⟩
       case measure=>exact mZ
    ·obtain rfl:m=r:=by omega
     go_wp2_with fail
     go_roundw
     case rel=>exact⟨k+1,by omega,by simp,lH ⟨D,HT.out,HG.out.none_ HZ.out⟩,HB0.out.thenB HB.out⟩
     case measure=>exact mZ
  ·obtain rfl:n=k:=by omega
   go_wp2_with fail
   go_returns;exact⟨rfl,HS.out,HB0.out⟩
end Go.Proofs.YtdefghfjhgmpfaaGreatDoor
