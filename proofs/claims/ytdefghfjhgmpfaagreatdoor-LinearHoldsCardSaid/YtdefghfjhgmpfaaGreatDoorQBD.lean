/- Parts of this proof: Point. -/
import Derived.Test.YtdefghfjhgmpfaaGreatDoorQAR
import Derived.Test.YtdefghfjhgmpfaaGreatDoorQBC
namespace Go.Proofs.YtdefghfjhgmpfaaGreatDoor
open Go.RowKit
open Lp (RL upd Dict)
open Lp (sumTo spread)
def ptTo(D:Dict)(k c:Nat):Rat:=sumTo k (fun r=>if D.basic r=c then D.con r else 0)
theorem pt_skip{n k:Nat}{D:Dict}(h:n <= D.basic k)(c:Nat)(hc:c<n):ptTo D k c=ptTo D (k+1) c:=by
 show _=ptTo D k c+ (if D.basic k=c then D.con k else 0);rw[if_neg (by omega)];grind
theorem pt_set{m n k:Nat}{D:Dict}(hD:D.Ok m n)(hk:k<m)(c:Nat):upd (ptTo D k) (D.basic k) (D.con k) c=ptTo D (k+1) c:=by
 show _=ptTo D k c+ (if D.basic k=c then D.con k else 0);by_cases e:c=D.basic k
 ·subst e;rw[Lp.upd_same,if_pos rfl];have:ptTo D k (D.basic k)=0:=Lp.sumTo_zero fun r hr=>if_neg fun e=>by have:=hD.bi r k (by omega) hk e;omega
  rw[this];grind
 ·rw[Lp.upd_other _ _ e,if_neg (fun e'=>e e'.symm)];grind
set_option maxRecDepth 100000 in
set_option maxHeartbeats 6400000 in
theorem point_walk(L:Lay)(m n:Nat)(D:Dict)(w:World)(hT:Tabl w L m n D)(hok:D.Ok m n)(hm:m <= 4398046511104)(hn:n <= 4398046511104):
  Calls Tryz.prog 130 #[.pointer (some ⟨L.gt,0,none⟩)] w fun e w'=>∃g,e= .returned (.slice (some ⟨g,0,none⟩) n n) /\ w.heap.size <= g /\ RB w' g n (spread m D.basic D.con) /\ Below w.heap.size w w':=by
 have HOK:=lH hok;clear hok;have HT0:=lH hT;obtain⟨sv,Av,lv,cv,tv,Bv,mv,dv,hrt,hvv⟩:=hT.st;unfold Lay.cells at hrt;have RT:=lH hrt;clear hrt hvv;have k0:=aI 0 RT;have kl:=RT.out.lt;clear hT;go_enter Tryz.func130,Tryz.ntmps130
 go_wp2_with (at_make;refine wpList_mkR _ rfl (.tmp 9) (.tmp 9) rfl _ _ n rfl rfl rfl rfl hn ?_)
 intro w1 hrb hb1 hs1;have BG1:=lH hrb;have HB1:=lH hb1;have HT1:=lH (HT0.out.below hb1);clear hrb hb1 k0 kl RT;obtain⟨sv,Av,lv,cv,tv,Bv,mv,dv,hrt,hvv⟩:=HT1.out.st;unfold Lay.cells at hrt;have RT:=lH hrt;clear hrt hvv;have k1:=aI 1 RT;have kl:=RT.out.lt;go_wp2_with fail
 clear k1 kl RT;have BG0:=lH (BG1.out.congr (f':=ptTo D 0) (fun _ _=>rfl))
 go_loopw [16] (fun iv wr=>∃k:Nat,k <= m /\ iv= .int .i64 k /\ RB wr w.heap.size n (ptTo D k) /\ Below w.heap.size w wr)
  (fun iv _=>m-(intOf iv).toNat)
 case atStart=>exact⟨0,Nat.zero_le _,rfl,BG0.out,HB1.out⟩
 case round=>
  clear BG0 BG1 HB1 HT1;obtain⟨k,hk,rfl,hbg,hbw⟩:=hrel;have BG:=lH hbg;have HB:=lH hbw;have HT:=lH (HT0.out.below hbw);clear hbg hbw;by_cases hkn:((k:Nat):Int)<(m:Nat)
  ·have hkb:k<m:=by omega
   have hm0:0<m:=by omega
   rw[(HT.out.ab hm0).1];obtain⟨sv,Av,lv,cv,tv,Bv,mv,dv,hrt,hvv⟩:=HT.out.st;unfold Lay.cells at hrt;rw[(HT.out.ab hm0).1,(HT.out.ab hm0).2.1,(HT.out.ab hm0).2.2] at hrt;have RT:=lH hrt;clear hrt hvv;have C0:=lH ((HT.out.bas hm0).at_ hkb);obtain⟨sx,Ax,lx,cx,tx,Bx,mx,dx,hQx,hvQx⟩:=((HT.out.con hm0)).quad hkb;have Qx:=lH hQx;have Vx:=lH hvQx;clear hQx hvQx;clear HT;by_cases hf:¬D.basic k<n
   ·have hlt:decide (D.basic k<n)=false:=by simp;omega
    have HF:=lH hf;clear hf;have k0RT:=aI 0 RT;have k1RT:=aI 1 RT;have k3RT:=aI 3 RT;have klRT:=RT.out.lt;have k0C0:=C0.out;have klC0:=cell_lt C0.out;obtain⟨k0Qx,k1Qx,k2Qx,k3Qx⟩:=Qx.out;have klQx:=Qx.out.lt;go_wp2_with fail
    go_roundw
    case rel=>exact⟨k+1,by omega,by simp,BG.out.congr (fun c hc=>pt_skip (by have:=HF.out;omega) c hc),HB.out⟩
    case measure=>exact mZ
   ·have hbn:D.basic k<n:=by omega
    have hlt:decide (D.basic k<n)=true:=by simpa using hbn
    have hbi:((D.basic k:Nat):Int)<(n:Nat):=by omega
    clear hf;have hgl:=BG.out.lt;obtain⟨sy,Ay,ly,cy,ty,By,my,dy,hQy,hvQy⟩:=(BG.out).quad hbn;have Qy:=lH hQy;have Vy:=lH hvQy;clear hQy hvQy;clear Vy;obtain⟨kx0,kx1,kx2,kx3⟩:=Qy.out;have kxl:=Qy.out.lt;clear Qy;have kf0:=BG.out.free (D.basic k*4);have kf1:=BG.out.free (D.basic k*4+1);have kf2:=BG.out.free (D.basic k*4+2);have kf3:=BG.out.free (D.basic k*4+3);have hne1:L.gk≠w.heap.size:=by have:=(HT0.out.con hm0).lt;omega
    have hne2:L.gt≠w.heap.size:=by obtain⟨_,hr⟩:=HT0.out.rowT;have:=hr.lt;omega
    have hne3:L.gb≠w.heap.size:=by have:=(HT0.out.bas hm0).lt;omega
    have k0RT:=aI 0 RT;have k1RT:=aI 1 RT;have k3RT:=aI 3 RT;have klRT:=RT.out.lt;have k0C0:=C0.out;have klC0:=cell_lt C0.out;obtain⟨k0Qx,k1Qx,k2Qx,k3Qx⟩:=Qx.out;have klQx:=Qx.out.lt;have HZ:=HB;have hg1:World.grownBy wr ((((wr.setCell ⟨w.heap.size,(D.basic k)*4,none⟩ (.bool sx)).setCell ⟨w.heap.size,(D.basic k)*4+1,none⟩ (.slice Ax lx cx)).setCell ⟨w.heap.size,(D.basic k)*4+2,none⟩ (.bool tx)).setCell ⟨w.heap.size,(D.basic k)*4+3,none⟩ (.slice Bx mx dx)) (some w.heap.size):=grownBy_set4 _ _ _ _ _ _ _ _ _ _;obtain⟨cs1,hro1⟩:=BG.out.row;have ql1BG:=BG.out.lt;have hset1:=BG.out.set hbn Vx.out;replace Vx:=lH (Vx.out.other hg1 hro1 ne_rat);replace HB:=lH (HB.out.grown hg1 HB.out.size (by first | (simp;done) | (simp;omega)));replace BG:=lH hset1;obtain⟨w1,hw1⟩:=eX (((((wr.setCell ⟨w.heap.size,(D.basic k)*4,none⟩ (.bool sx)).setCell ⟨w.heap.size,(D.basic k)*4+1,none⟩ (.slice Ax lx cx)).setCell ⟨w.heap.size,(D.basic k)*4+2,none⟩ (.bool tx)).setCell ⟨w.heap.size,(D.basic k)*4+3,none⟩ (.slice Bx mx dx)));rw[<- hw1] at Vx BG HB;clear hg1 hro1 hset1 ql1BG;go_wp2_with fail
    rw[<- hw1];clear hw1 kx0 kx1 kx2 kx3 kxl kf0 kf1 kf2 kf3 k0RT k1RT k3RT klRT k0C0 klC0 k0Qx k1Qx k2Qx k3Qx klQx;go_roundw
    case rel=>exact⟨k+1,by omega,by simp,BG.out.congr (fun c _=>pt_set HOK.out hkb c),HB.out⟩
    case measure=>exact mZ
  ·obtain rfl:m=k:=by omega
   go_wp2_with fail
   go_returns;exact⟨_,rfl,Nat.le_refl _,BG.out,HB.out⟩
end Go.Proofs.YtdefghfjhgmpfaaGreatDoor
