/- Parts of this proof: Dot Tab Make. -/
import Derived.Test.YtdefghfjhgmpfaaGreatDoorQAE
import Derived.Test.YtdefghfjhgmpfaaGreatDoorQAQ
namespace Go.Proofs.YtdefghfjhgmpfaaGreatDoor
section
open Go.RowKit
open Lp (RL upd dotN)
set_option maxHeartbeats 3200000 in
theorem dot_walk(va vb:Value)(n nb:Nat)(a b:Nat -> Rat)(w:World)(ha:IsRats w va n a)(hb:IsRats w vb nb b)(hn:n <= nb)(hla:∀j,j<n -> RL 400000000000 (a j))(hlb:∀j,j<n -> RL 400000000000 (b j))(hs:∀k,k <= n -> RL 1000000000000 (dotN k a b)):
  Calls Tryz.prog 120 #[va,vb] w fun e w'=>∃v,e= .returned v /\ IsRat w' v (dotN n a b) /\ Below w.heap.size w w':=by
 obtain⟨A,ca,rfl,hca,hcam,hA⟩:=ha;obtain⟨B,cb,rfl,hcb,hcbm,hBB⟩:=hb;unfold maxLen at hcam hcbm;have HA:=lH hA;have HBB:=lH hBB;have HLA:=lH hla;have HLB:=lH hlb;have HS:=lH hs;clear hA hBB hla hlb hs;obtain⟨W,hW,RR,RS,HB⟩:=eN2 w [.bool false, .slice none 0 0, .bool false, .slice none 0 0] 105 [.bool false, .slice none 0 0, .bool false, .slice none 0 0] 105;go_enter Tryz.func120,Tryz.ntmps120;go_wp2_with fail
 rw[<- hW];clear hW;have HAT0:=lH (AtQ.mk (q:=dotN 0 a b) RS.out (IsRat.zero_ _));have HWS:=RS.out.lt
 go_loopw [9] (fun iv wr=>∃k:Nat,k <= n /\ iv= .int .i64 k /\ AtQ wr (w.heap.size+1) (dotN k a b) /\ Row wr w.heap.size 105 [.bool false, .slice none 0 0, .bool false, .slice none 0 0] /\ Below w.heap.size w wr)
  (fun iv _=>n-(intOf iv).toNat)
 case atStart=>exact⟨0,Nat.zero_le _,rfl,HAT0.out,RR.out,HB.out⟩
 case round=>
  clear RR RS HB HAT0 HWS;obtain⟨k,hk,rfl,hat,hrr,hbw⟩:=hrel;obtain⟨sz,Az,lz,cz,tz,Bz,mz,dz,ro,hio⟩:=hat;have RS:=lH ro;have VS:=lH hio;have RR:=lH hrr;have HB:=lH hbw;clear ro hio hrr hbw;by_cases hkn:((k:Nat):Int)<(n:Nat)
  ·obtain⟨ga,rfl,hra⟩:∃g,A=some ⟨g,0,none⟩ /\ RB w g n a:=by rcases HA.out with h0 | h0;exfalso;omega;exact h0
   obtain⟨gb,rfl,hrb⟩:∃g,B=some ⟨g,0,none⟩ /\ RB w g nb b:=by rcases HBB.out with h0 | h0;exfalso;omega;exact h0
   have hkn':k<n:=by omega
   have hkb:((k:Nat):Int)<(nb:Nat):=by omega
   obtain⟨sx,Ax,lx,cx,tx,Bx,mx,dx,hQx,hvQx⟩:=(hra.below HB.out).quad hkn';have Qx:=lH hQx;have Vx:=lH hvQx;clear hQx hvQx;obtain⟨sy,Ay,ly,cy,ty,By,my,dy,hQy,hvQy⟩:=(hrb.below HB.out).quad (show k<nb by omega);have Qy:=lH hQy;have Vy:=lH hvQy;clear hQy hvQy;have hgal:=hra.lt;have hgbl:=hrb.lt;clear hra hrb;by_cases h0:a k=0
   ·have hz:sgI (a k).num=0:=sgI_zero.2 h0;have HZ:=lH hz;have H0:=lH h0;clear hz h0;obtain⟨k0Qx,k1Qx,k2Qx,k3Qx⟩:=Qx.out;have klQx:=Qx.out.lt;go_wp2_with fail
    clear k0Qx k1Qx k2Qx k3Qx klQx;refine(rsgn_walk _ (a k) _ Vx.out).mono ?_;rintro e w1 ⟨rfl,hb1⟩;replace VS:=lH (VS.out.below hb1);replace Vx:=lH (Vx.out.below hb1);replace Vy:=lH (Vy.out.below hb1);replace RR:=rW RR hb1;replace RS:=rW RS hb1;replace Qx:=lH (Qx.out.below hb1);replace Qy:=lH (Qy.out.below hb1);replace HB:=bT HB hb1;clear hb1;rw[HZ.out];go_wp2_with fail
    go_roundw
    case rel=>exact⟨k+1,by omega,by simp,AtQ.mk RS.out (by rw[dotN_succ];rw[H0.out,Rat.zero_mul,Rat.add_zero];exact VS.out),RR.out,HB.out⟩
    case measure=>exact mZ
   ·have hsa:(sgI (a k).num !=0)=true:=by simpa using (not_congr sgI_zero).2 h0
    clear h0;have HSA:=lH hsa;clear hsa;obtain⟨k0Qx,k1Qx,k2Qx,k3Qx⟩:=Qx.out;have klQx:=Qx.out.lt;go_wp2_with fail
    clear k0Qx k1Qx k2Qx k3Qx klQx;refine(rsgn_walk _ (a k) _ Vx.out).mono ?_;rintro e w1 ⟨rfl,hb1⟩;replace VS:=lH (VS.out.below hb1);replace Vx:=lH (Vx.out.below hb1);replace Vy:=lH (Vy.out.below hb1);replace RR:=rW RR hb1;replace RS:=rW RS hb1;replace Qx:=lH (Qx.out.below hb1);replace Qy:=lH (Qy.out.below hb1);replace HB:=bT HB hb1;clear hb1;by_cases h1:b k=0
    ·have hz:sgI (b k).num=0:=sgI_zero.2 h1;have HZ:=lH hz;have H1:=lH h1;clear hz h1;have hsa:=HSA.out;obtain⟨k0Qy,k1Qy,k2Qy,k3Qy⟩:=Qy.out;have klQy:=Qy.out.lt;go_wp2_with fail
     clear k0Qy k1Qy k2Qy k3Qy klQy;refine(rsgn_walk _ (b k) _ Vy.out).mono ?_;rintro e w2 ⟨rfl,hb2⟩;replace VS:=lH (VS.out.below hb2);replace Vx:=lH (Vx.out.below hb2);replace Vy:=lH (Vy.out.below hb2);replace RR:=rW RR hb2;replace RS:=rW RS hb2;replace Qx:=lH (Qx.out.below hb2);replace Qy:=lH (Qy.out.below hb2);replace HB:=bT HB hb2;clear hb2;rw[HZ.out];go_wp2_with fail
     go_roundw
     case rel=>exact⟨k+1,by omega,by simp,AtQ.mk RS.out (by rw[dotN_succ];rw[H1.out,Rat.mul_zero,Rat.add_zero];exact VS.out),RR.out,HB.out⟩
     case measure=>exact mZ
    ·have hsb:(sgI (b k).num !=0)=true:=by simpa using (not_congr sgI_zero).2 h1
     clear h1;have hsa:=HSA.out;obtain⟨k0Qy,k1Qy,k2Qy,k3Qy⟩:=Qy.out;have klQy:=Qy.out.lt;go_wp2_with fail
     clear k0Qy k1Qy k2Qy k3Qy klQy;refine(rsgn_walk _ (b k) _ Vy.out).mono ?_;rintro e w2 ⟨rfl,hb2⟩;replace VS:=lH (VS.out.below hb2);replace Vx:=lH (Vx.out.below hb2);replace Vy:=lH (Vy.out.below hb2);replace RR:=rW RR hb2;replace RS:=rW RS hb2;replace Qx:=lH (Qx.out.below hb2);replace Qy:=lH (Qy.out.below hb2);replace HB:=bT HB hb2;clear hb2;go_wp2_with fail
     have HRG:=rG w2;have glRS:=RS.out.lt;obtain⟨g0RS,g1RS,g2RS,g3RS⟩:=aT4 RS.out;have glQx:=Qx.out.lt;obtain⟨g0Qx,g1Qx,g2Qx,g3Qx⟩:=Qx.out;have glQy:=Qy.out.lt;obtain⟨g0Qy,g1Qy,g2Qy,g3Qy⟩:=Qy.out;have KS:=lH (kC g0RS (kC g1RS (kC g2RS (kC g3RS (kC g0Qx (kC g1Qx (kC g2Qx (kC g3Qx (kC g0Qy (kC g1Qy (kC g2Qy (kN g3Qy))))))))))));clear glRS g0RS g1RS g2RS g3RS glQx g0Qx g1Qx g2Qx g3Qx glQy g0Qy g1Qy g2Qy g3Qy;refine rL KS.out (fun i=>decide (11 <= i)) ?_;have hh:=KS.out _ HRG.out;refine tKs 0 26 hh ?_;refine tKs 1 27 hh ?_;refine tKs 2 28 hh ?_;refine tKs 3 29 hh ?_;refine tKs 4 30 hh ?_;refine tKs 5 31 hh ?_;refine tKs 6 32 hh ?_;refine tKs 7 33 hh ?_;refine tKs 8 34 hh ?_;refine rD 9 (fun K hK=> ?_);go_simp;refine(rmulq_walk _ _ (a k) (b k) _ (by exact Vx.out) (by exact Vy.out) ((HLA.out k hkn').mono (by decide)) ((HLB.out k hkn').mono (by decide))).mono ?_;rintro e w3 ⟨vp,rfl,hp,hb3⟩;have hb3:Below w2.heap.size w2 w3:=bD hb3;obtain⟨sp,Ap,lp,cp,tp,Bp,mp,dp,rfl⟩:=hp.shape;have Vp:=lH hp;clear hp;replace VS:=lH (VS.out.below hb3);replace Vx:=lH (Vx.out.below hb3);replace Vy:=lH (Vy.out.below hb3);replace RR:=rW RR hb3;replace RS:=rW RS hb3;replace Qx:=lH (Qx.out.below hb3);replace Qy:=lH (Qy.out.below hb3);replace HB:=bT HB hb3;replace HRG:=bT HRG hb3;clear hh hb3;have hh:=KS.out _ HRG.out;refine kH hK hh ?_;clear hK K;refine rD 10 (fun K hK=> ?_);go_simp;refine(raddq_walk _ _ (dotN k a b) (a k*b k) _ (by exact VS.out) (by exact Vp.out) (HS.out k (by omega)) (((HLA.out k hkn').mul (HLB.out k hkn')).mono (by decide))).mono ?_;rintro e w4 ⟨vr,rfl,hr,hb4⟩;have hb4:Below w3.heap.size w3 w4:=bD hb4;obtain⟨sr,Ar,lr,cr,tr,Br,mr,dr,rfl⟩:=hr.shape;have Vr:=lH hr;clear hr;replace VS:=lH (VS.out.below hb4);replace Vx:=lH (Vx.out.below hb4);replace Vy:=lH (Vy.out.below hb4);replace Vp:=lH (Vp.out.below hb4);replace RR:=rW RR hb4;replace RS:=rW RS hb4;replace Qx:=lH (Qx.out.below hb4);replace Qy:=lH (Qy.out.below hb4);replace HB:=bT HB hb4;replace HRG:=bT HRG hb4;obtain⟨kx0RS,kx1RS,kx2RS,kx3RS⟩:=aT4 RS.out;have kxlRS:=RS.out.lt;have kf0RS:=RS.out.free 0;have kf1RS:=RS.out.free 1;have kf2RS:=RS.out.free 2;have kf3RS:=RS.out.free 3;clear hh hb4;have hh:=KS.out _ HRG.out;refine kH hK hh ?_;clear hK K;refine rD 11 (fun K hK=> ?_);go_simp;refine kL hK ?_;clear hK K;refine dN ?_ _;clear hh KS HRG;clear kx0RS kf0RS kx1RS kf1RS kx2RS kf2RS kx3RS kf3RS kxlRS;have hg5:World.grownBy w4 ((((w4.setCell ⟨(w.heap.size+1),0,none⟩ (.bool sr)).setCell ⟨(w.heap.size+1),1,none⟩ (.slice Ar lr cr)).setCell ⟨(w.heap.size+1),2,none⟩ (.bool tr)).setCell ⟨(w.heap.size+1),3,none⟩ (.slice Br mr dr)) (some ((w.heap.size+1))):=grownBy_set4 _ _ _ _ _ _ _ _ _ _;have ql5RR:=RR.out.lt;have ql5RS:=RS.out.lt;replace VS:=lH (VS.out.other hg5 RS.out (by decide));replace Vx:=lH (Vx.out.other hg5 RS.out (by decide));replace Vy:=lH (Vy.out.other hg5 RS.out (by decide));replace Vp:=lH (Vp.out.other hg5 RS.out (by decide));replace Vr:=lH (Vr.out.other hg5 RS.out (by decide));replace RR:=lH (RR.out.other hg5 (by omega));replace Qx:=lH (Qx.out.other hg5 (by omega));replace Qy:=lH (Qy.out.other hg5 (by omega));replace HB:Hid (Below w.heap.size w ((((w4.setCell ⟨(w.heap.size+1),0,none⟩ (.bool sr)).setCell ⟨(w.heap.size+1),1,none⟩ (.slice Ar lr cr)).setCell ⟨(w.heap.size+1),2,none⟩ (.bool tr)).setCell ⟨(w.heap.size+1),3,none⟩ (.slice Br mr dr))):=lH (below_store4 HB.out (by omega) _ _ _ _);replace RS:Hid (Row ((((w4.setCell ⟨(w.heap.size+1),0,none⟩ (.bool sr)).setCell ⟨(w.heap.size+1),1,none⟩ (.slice Ar lr cr)).setCell ⟨(w.heap.size+1),2,none⟩ (.bool tr)).setCell ⟨(w.heap.size+1),3,none⟩ (.slice Br mr dr)) ((w.heap.size+1)) 105 [.bool sr, .slice Ar lr cr, .bool tr, .slice Br mr dr]):=lH (RS.out.put4);obtain⟨w5,hw5⟩:=eX (((((w4.setCell ⟨(w.heap.size+1),0,none⟩ (.bool sr)).setCell ⟨(w.heap.size+1),1,none⟩ (.slice Ar lr cr)).setCell ⟨(w.heap.size+1),2,none⟩ (.bool tr)).setCell ⟨(w.heap.size+1),3,none⟩ (.slice Br mr dr)));rw[<- hw5] at VS Vx Vy Vp Vr RR RS Qx Qy HB;clear hg5 ql5RR ql5RS;rw[<- hw5];clear hw5;go_wp2_with fail
     go_roundw
     case rel=>exact⟨k+1,by omega,by simp,AtQ.mk RS.out (by rw[dotN_succ];exact Vr.out),RR.out,HB.out⟩
     case measure=>exact mZ
  ·obtain rfl:k=n:=by omega
   obtain⟨k0RS,k1RS,k2RS,k3RS⟩:=aT4 RS.out;have klRS:=RS.out.lt;obtain⟨k0RR,k1RR,k2RR,k3RR⟩:=aT4 RR.out;have klRR:=RR.out.lt;have kf0RR:=RR.out.free 0;have kf1RR:=RR.out.free 1;have kf2RR:=RR.out.free 2;have kf3RR:=RR.out.free 3;have hr:=res_store4 RR.out ne_rat (by omega) HB.out VS.out;have HRES:=lH hr;clear hr;go_wp2_with fail
   refine bodyPost_ret (v:= .agg #[.bool sz, .slice Az lz cz, .bool tz, .slice Bz mz dz]) (by simp[results,Tryz.results120,go_sem,k0RR,k1RR,k2RR,k3RR]) rfl ?_;exact⟨_,rfl,HRES.out.1,HRES.out.2⟩
end
section
open Go.RowKit
open Lp (RL upd Dict)
def IB(w:World)(g n:Nat)(f:Nat -> Nat):Prop:=∃cs:List Value,Row w g 3 cs /\ n <= cs.length /\ ∀j,j<n -> cs[j]? =some (.int .i64 (f j:Nat))
def SB(w:World)(g m n:Nat)(gr cr:Nat -> Nat):Prop:=∃cs:List Value,Row w g 95 cs /\ m <= cs.length /\ ∀j,j<m -> ∃A,cs[j]? =some (.slice A n (cr j)) /\ (0<n -> A=some ⟨gr j,0,none⟩)
section
variable {S:Nat -> Prop} {w w':World} {g n m:Nat} {f:Nat -> Nat} {gr cr:Nat -> Nat}
theorem IB.lt(h:IB w g n f):g<w.heap.size:=by obtain⟨cs,hr,_⟩:=h;exact hr.lt
theorem IB.below(h:IB w g n f)(hb:Below w.heap.size w w'):IB w' g n f:=by obtain⟨cs,hr,h⟩:=h;exact⟨cs,hr.below hb hr.lt,h⟩
theorem IB.chg(h:IB w g n f)(hc:Chg S w w')(hs:¬S g):IB w' g n f:=by obtain⟨cs,hr,h⟩:=h;exact⟨cs,hr.chg hc hs,h⟩
theorem IB.other{g':Nat}(h:IB w g n f)(hg:w.grownBy w' (some g'))(hne:g≠g'):IB w' g n f:=by obtain⟨cs,hr,h⟩:=h;exact⟨cs,hr.other hg hne,h⟩
theorem IB.at_(h:IB w g n f){j:Nat}(hj:j<n): w.cell? ⟨g,j,none⟩=some (.int .i64 (f j:Nat)):=by obtain⟨cs,hr,_,h⟩:=h;exact hr.at_ _ (h j hj)
theorem IB.free(h:IB w g n f)(j:Nat): w.frozen? ⟨g,j,none⟩=false:=by obtain⟨cs,hr,_⟩:=h;exact hr.free j
theorem IB.congr{f':Nat -> Nat}(h:IB w g n f)(hf:∀j,j<n -> f j=f' j):IB w g n f':=by
 obtain⟨cs,hr,hl,h⟩:=h;exact⟨cs,hr,hl,fun j hj=>by rw[<- hf j hj];exact h j hj⟩
theorem IB.set(h:IB w g n f){j x:Nat}(hj:j<n):IB (w.setCell ⟨g,j,none⟩ (.int .i64 (x:Nat))) g n (upd f j x):=by
 obtain⟨cs,hr,hl,h⟩:=h;refine⟨_,hr.set j _,by simpa using hl,fun k hk=> ?_⟩;by_cases e:k=j
 ·subst e;rw[Lp.upd_same];simp[List.getElem?_set];omega
 ·rw[List.getElem?_set_ne (by omega),Lp.upd_other _ _ e];exact h k hk
theorem IB.row(h:IB w g n f):∃cs,Row w g 3 cs:=by obtain⟨cs,hr,_⟩:=h;exact⟨cs,hr⟩
theorem SB.lt(h:SB w g m n gr cr):g<w.heap.size:=by obtain⟨cs,hr,_⟩:=h;exact hr.lt
theorem SB.below(h:SB w g m n gr cr)(hb:Below w.heap.size w w'):SB w' g m n gr cr:=by obtain⟨cs,hr,h⟩:=h;exact⟨cs,hr.below hb hr.lt,h⟩
theorem SB.chg(h:SB w g m n gr cr)(hc:Chg S w w')(hs:¬S g):SB w' g m n gr cr:=by obtain⟨cs,hr,h⟩:=h;exact⟨cs,hr.chg hc hs,h⟩
theorem SB.at_(h:SB w g m n gr cr)(hn:0<n){j:Nat}(hj:j<m): w.cell? ⟨g,j,none⟩=some (.slice (some ⟨gr j,0,none⟩) n (cr j)):=by
 obtain⟨cs,hr,_,h⟩:=h;obtain⟨A,h1,h2⟩:=h j hj;rw[h2 hn] at h1;exact hr.at_ _ h1
theorem SB.row(h:SB w g m n gr cr):∃cs,Row w g 95 cs:=by obtain⟨cs,hr,_⟩:=h;exact⟨cs,hr⟩
theorem Row.ty{e e':TypeId}{cs cs':List Value}(h:Row w g e cs)(h':Row w g e' cs'):e=e':=by
 unfold Row at h h';rw[h] at h'
 injection h' with h'
 injection h' with _ h' _
end
structure Lay where
 gt:Nat
 gb:Nat
 go:Nat
 gk:Nat
 gc:Nat
 gp:Nat
 gr:Nat -> Nat
 cr:Nat -> Nat
 cb:Nat
 co:Nat
 ck:Nat
 cc:Nat
 cp:Nat
 Ab:Option Addr
 Ao:Option Addr
 Ak:Option Addr
 Ac:Option Addr
 Ap:Option Addr
def Lay.blocks(L:Lay)(m:Nat)(k:Nat):Prop:=k=L.gt \/ k=L.gb \/ k=L.go \/ k=L.gk \/ k=L.gc \/ k=L.gp \/ ∃r,r<m /\ k=L.gr r
def Lay.cells(L:Lay)(m n:Nat)(x y z u:Value):List Value:=
 [.int .i64 (n:Nat), .slice L.Ab m L.cb, .slice L.Ao n L.co, .slice L.Ak m L.ck, .slice L.Ac m L.cc, .slice L.Ap n L.cp,x,y,z,u]
structure Tabl (w:World) (L:Lay) (m n:Nat) (D:Dict):Prop where
 st:∃s A l c t B d e,Row w L.gt 148 (L.cells m n (.bool s) (.slice A l c) (.bool t) (.slice B d e)) /\ IsRat w (.agg #[.bool s, .slice A l c, .bool t, .slice B d e]) D.val
 ab:0<m -> L.Ab=some ⟨L.gb,0,none⟩ /\ L.Ak=some ⟨L.gk,0,none⟩ /\ L.Ac=some ⟨L.gc,0,none⟩
 ao:0<n -> L.Ao=some ⟨L.go,0,none⟩ /\ L.Ap=some ⟨L.gp,0,none⟩
 bas:0<m -> IB w L.gb m D.basic
 off:0<n -> IB w L.go n D.off
 con:0<m -> RB w L.gk m D.con
 top:0<n -> RB w L.gp n D.top
 out:0<m -> SB w L.gc m n L.gr L.cr
 rows:0<n -> ∀r,r<m -> RB w (L.gr r) n (D.cell r)
 bo:0<m -> 0<n -> L.gb≠L.go
 kp:0<m -> 0<n -> L.gk≠L.gp
 rk:0<n -> ∀r,r<m -> L.gr r≠L.gk /\ L.gr r≠L.gp
 rr:0<n -> ∀r s,r<m -> s<m -> L.gr r=L.gr s -> r=s
theorem Tabl.below{w w':World}{L:Lay}{m n:Nat}{D:Dict}(h:Tabl w L m n D)(hb:Below w.heap.size w w'):Tabl w' L m n D:=by
 obtain⟨⟨s,A,l,c,t,B,d,e,hr,hv⟩,h2,h3,h4,h5,h6,h7,h8,h9,h10,h11,h12,h13⟩:=h;exact⟨⟨s,A,l,c,t,B,d,e,hr.below hb hr.lt,hv.below hb⟩,h2,h3,fun hm=>(h4 hm).below hb,fun hm=>(h5 hm).below hb,fun hm=>(h6 hm).below hb,fun hm=>(h7 hm).below hb,fun hm=>(h8 hm).below hb,fun hn r hr=>(h9 hn r hr).below hb,h10,h11,h12,h13⟩
theorem ne_ty{w:World}{g g':Nat}{e e':TypeId}{cs cs':List Value}(h:Row w g e cs)(h':Row w g' e' cs')(he:e≠e'):g≠g':=by
 rintro rfl;exact he (h.ty h')
theorem RB.ne{w:World}{g g' n:Nat}{f:Nat -> Rat}{e:TypeId}{cs:List Value}(h:RB w g n f)(h':Row w g' e cs)(he:e≠105):g'≠g:=by
 obtain⟨_,hr⟩:=h.row;exact ne_ty h' hr he
def Lay.full(L:Lay)(m n:Nat)(x y z u:Value):List Value:=
 [.int .i64 (n:Nat), .slice (some ⟨L.gb,0,none⟩) m L.cb, .slice (some ⟨L.go,0,none⟩) n L.co, .slice (some ⟨L.gk,0,none⟩) m L.ck, .slice (some ⟨L.gc,0,none⟩) m L.cc, .slice (some ⟨L.gp,0,none⟩) n L.cp,x,y,z,u]
section
variable {S:Nat -> Prop} {w w':World} {L:Lay} {m n i j:Nat} {D:Dict}
theorem Tabl.get(h:Tabl w L m n D)(hm:0<m)(hn:0<n):∃s A l c t B d e,Row w L.gt 148 (L.full m n (.bool s) (.slice A l c) (.bool t) (.slice B d e)) /\ IsRat w (.agg #[.bool s, .slice A l c, .bool t, .slice B d e]) D.val:=by
 obtain⟨s,A,l,c,t,B,d,e,hr,hv⟩:=h.st;obtain⟨h1,h2,h3⟩:=h.ab hm;obtain⟨h4,h5⟩:=h.ao hn;unfold Lay.cells at hr;rw[h1,h2,h3,h4,h5] at hr;exact⟨s,A,l,c,t,B,d,e,hr,hv⟩
theorem Tabl.rowT(h:Tabl w L m n D):∃cs,Row w L.gt 148 cs:=by obtain⟨s,A,l,c,t,B,d,e,hr,hv⟩:=h.st;exact⟨_,hr⟩
theorem Tabl.ne_r(h:Tabl w L m n D)(hm:0<m)(hn:0<n){g k:Nat}{f:Nat -> Rat}(hg:RB w g k f):L.gt≠g /\ L.gb≠g /\ L.go≠g /\ L.gc≠g:=by
 obtain⟨_,h1⟩:=h.rowT;obtain⟨_,h2⟩:=(h.bas hm).row;obtain⟨_,h3⟩:=(h.off hn).row;obtain⟨_,h4⟩:=(h.out hm).row;exact⟨hg.ne h1 (by decide),hg.ne h2 (by decide),hg.ne h3 (by decide),hg.ne h4 (by decide)⟩
theorem Tabl.rats(h:Tabl w L m n D)(hm:0<m)(hn:0<n)(hc:Chg S w w')(hS:∀k,S k -> k=L.gk \/ k=L.gp \/ ∃r,r<m /\ k=L.gr r){con top:Nat -> Rat}{cell:Nat -> Nat -> Rat}
  (hcon:RB w' L.gk m con) (htop:RB w' L.gp n top) (hrows:∀r,r<m -> RB w' (L.gr r) n (cell r)):Tabl w' L m n ⟨D.basic,D.off,con,cell,top,D.val⟩:=by
 have key:∀k,S k -> ∃j f,RB w k j f:=by
  intro k hk
  rcases hS k hk with rfl | rfl | ⟨r,hr,rfl⟩
  ·exact⟨_,_,h.con hm⟩
  ·exact⟨_,_,h.top hn⟩
  ·exact⟨_,_,h.rows hn r hr⟩
 have hN:NonU S w:=fun k hk=>by
  obtain⟨j,f,hf⟩:=key k hk;obtain⟨cs,hr⟩:=hf.row;exact⟨_,_,hr,ne_rat⟩
 have no:∀k,S k -> L.gt≠k /\ L.gb≠k /\ L.go≠k /\ L.gc≠k:=fun k hk=>by
  obtain⟨j,f,hf⟩:=key k hk;exact h.ne_r hm hn hf
 obtain⟨s,A,l,c,t,B,d,e,hr,hv⟩:=h.st
 exact⟨⟨s,A,l,c,t,B,d,e,hr.chg hc (fun hs=>(no _ hs).1 rfl),hv.chg hc hN⟩,h.ab,h.ao,fun hm=>(h.bas hm).chg hc (fun hs=>(no _ hs).2.1 rfl),fun hn=>(h.off hn).chg hc (fun hs=>(no _ hs).2.2.1 rfl),fun _=>hcon,fun _=>htop,
  fun hm=>(h.out hm).chg hc (fun hs=>(no _ hs).2.2.2 rfl),fun _=>hrows,h.bo,h.kp,h.rk,h.rr⟩
theorem Tabl.congr{D':Dict}(h:Tabl w L m n D)(h1:∀r,r<m -> D.basic r=D'.basic r)(h2:∀c,c<n -> D.off c=D'.off c)(h3:∀r,r<m -> D.con r=D'.con r)(h4:∀r c,r<m -> c<n -> D.cell r c=D'.cell r c)(h5:∀c,c<n -> D.top c=D'.top c)(h6:D.val=D'.val):Tabl w L m n D':=by
 obtain⟨⟨s,A,l,c,t,B,d,e,hr,hv⟩,a2,a3,a4,a5,a6,a7,a8,a9,a10,a11,a12,a13⟩:=h;exact⟨⟨s,A,l,c,t,B,d,e,hr,by rw[<- h6];exact hv⟩,a2,a3,fun hm=>(a4 hm).congr h1,fun hn=>(a5 hn).congr h2,fun hm=>(a6 hm).congr h3,fun hn=>(a7 hn).congr h5,a8,fun hn r hr=>(a9 hn r hr).congr (fun c hc=>h4 r c hr hc),a10,a11,a12,a13⟩
theorem Tabl.setRow(h:Tabl w L m n D)(hm:0<m)(hn:0<n)(hi:i<m)(hc:Chg (fun b=>b=L.gr i) w w'){f:Nat -> Rat}(hr:RB w' (L.gr i) n f):Tabl w' L m n ⟨D.basic,D.off,D.con,upd D.cell i f,D.top,D.val⟩:=by
 have hN:NonU (fun b=>b=L.gr i) w:=NonU.rb (h.rows hn i hi);refine h.rats hm hn hc (fun k hk=> .inr (.inr ⟨i,hi,hk⟩)) ((h.con hm).chg hc hN (fun e=>(h.rk hn i hi).1 e.symm)) ((h.top hn).chg hc hN (fun e=>(h.rk hn i hi).2 e.symm)) (fun r hr'=> ?_);by_cases e:r=i
 ·subst e;rw[Lp.upd_same];exact hr
 ·rw[Lp.upd_other _ _ e];exact(h.rows hn r hr').chg hc hN (fun e'=>e (h.rr hn r i hr' hi e'))
theorem Tabl.setCon(h:Tabl w L m n D)(hm:0<m)(hn:0<n)(hc:Chg (fun b=>b=L.gk) w w'){f:Nat -> Rat}(hr:RB w' L.gk m f):Tabl w' L m n ⟨D.basic,D.off,f,D.cell,D.top,D.val⟩:=by
 have hN:NonU (fun b=>b=L.gk) w:=NonU.rb (h.con hm);exact h.rats hm hn hc (fun k hk=> .inl hk) hr ((h.top hn).chg hc hN (fun e=>h.kp hm hn e.symm)) (fun r hr'=>(h.rows hn r hr').chg hc hN (h.rk hn r hr').1)
theorem Tabl.setTop(h:Tabl w L m n D)(hm:0<m)(hn:0<n)(hc:Chg (fun b=>b=L.gp) w w'){f:Nat -> Rat}(hr:RB w' L.gp n f):Tabl w' L m n ⟨D.basic,D.off,D.con,D.cell,f,D.val⟩:=by
 have hN:NonU (fun b=>b=L.gp) w:=NonU.rb (h.top hn);exact h.rats hm hn hc (fun k hk=> .inr (.inl hk)) ((h.con hm).chg hc hN (h.kp hm hn)) hr (fun r hr'=>(h.rows hn r hr').chg hc hN (h.rk hn r hr').2)
theorem Tabl.setVal(h:Tabl w L m n D)(hm:0<m)(hn:0<n){x y z u:Value}{q:Rat}(hr:Row w' L.gt 148 (L.full m n x y z u))(hq:IsRat w' (.agg #[x,y,z,u]) q)(hc:Chg (fun b=>b=L.gt) w w'):Tabl w' L m n ⟨D.basic,D.off,D.con,D.cell,D.top,q⟩:=by
 have hN:NonU (fun b=>b=L.gt) w:=fun k hk=>by
  subst hk;obtain⟨cs,hr⟩:=h.rowT;exact⟨_,_,hr,by decide⟩
 obtain⟨_,h0⟩:=h.rowT;obtain⟨_,h2⟩:=(h.bas hm).row;obtain⟨_,h3⟩:=(h.off hn).row;obtain⟨_,h4⟩:=(h.out hm).row;obtain⟨s,A,l,c,t,B,d,e,hv⟩:=hq.shape;simp only[Value.agg.injEq] at hv;obtain⟨rfl,rfl,rfl,rfl⟩:x= .bool s /\ y= .slice A l c /\ z= .bool t /\ u= .slice B d e:=by simpa using hv
 refine⟨⟨s,A,l,c,t,B,d,e,?_,hq⟩,h.ab,h.ao,fun hm=>(h.bas hm).chg hc (ne_ty h2 h0 (by decide)),fun hn=>(h.off hn).chg hc (ne_ty h3 h0 (by decide)),fun hm=>(h.con hm).chg hc hN (fun e=>(h.ne_r ‹0<m› hn (h.con hm)).1 e.symm),fun hn=>(h.top hn).chg hc hN (fun e=>(h.ne_r hm ‹0<n› (h.top hn)).1 e.symm),
  fun hm=>(h.out hm).chg hc (ne_ty h4 h0 (by decide)),fun hn r hr=>(h.rows hn r hr).chg hc hN (fun e=>(h.ne_r hm hn (h.rows hn r hr)).1 e.symm),h.bo,h.kp,h.rk,h.rr⟩
 have hr':=hr;unfold Lay.cells;unfold Lay.full at hr';obtain⟨g1,g2,g3⟩:=h.ab hm;obtain⟨g4,g5⟩:=h.ao hn;rw[g1,g2,g3,g4,g5];exact hr'
theorem Row.put4at6{g:Nat}{e:TypeId}{a0 a1 a2 a3 a4 a5 p q r s x y z u:Value}(h:Row w g e [a0,a1,a2,a3,a4,a5,p,q,r,s]):
  Row ((((w.setCell ⟨g,6,none⟩ x).setCell ⟨g,7,none⟩ y).setCell ⟨g,8,none⟩ z).setCell ⟨g,9,none⟩ u) g e [a0,a1,a2,a3,a4,a5,x,y,z,u]:=(((h.set 6 x).set 7 y).set 8 z).set 9 u
theorem Tabl.setBO(h:Tabl w L m n D)(hm:0<m)(hn:0<n){b o:Nat -> Nat}(hc:Chg (fun k=>k=L.gb \/ k=L.go) w w')(hb:IB w' L.gb m b)(ho:IB w' L.go n o):Tabl w' L m n ⟨b,o,D.con,D.cell,D.top,D.val⟩:=by
 obtain⟨_,h0⟩:=h.rowT;obtain⟨_,h2⟩:=(h.bas hm).row;obtain⟨_,h3⟩:=(h.off hn).row;obtain⟨_,h4⟩:=(h.out hm).row
 have hN:NonU (fun k=>k=L.gb \/ k=L.go) w:=fun k hk=>by
  rcases hk with rfl | rfl
  ·exact⟨_,_,h2,by decide⟩
  ·exact⟨_,_,h3,by decide⟩
 have no:∀ {g k:Nat} {f:Nat -> Rat},RB w g k f -> ¬(g=L.gb \/ g=L.go):=fun hf e=>by
  have:=h.ne_r hm hn hf
  rcases e with e | e
  ·exact this.2.1 e.symm
  ·exact this.2.2.1 e.symm
 obtain⟨s,A,l,c,t,B,d,e,hr,hv⟩:=h.st;refine⟨⟨s,A,l,c,t,B,d,e,hr.chg hc (fun e=> ?_),hv.chg hc hN⟩,h.ab,h.ao,fun _=>hb,fun _=>ho,fun hm=>(h.con hm).chg hc hN (no (h.con hm)),fun hn=>(h.top hn).chg hc hN (no (h.top hn)),fun hm=>(h.out hm).chg hc (fun e=> ?_),fun hn r hr=>(h.rows hn r hr).chg hc hN (no (h.rows hn r hr)),h.bo,h.kp,h.rk,h.rr⟩
 ·rcases e with e | e
  ·exact ne_ty h0 h2 (by decide) e
  ·exact ne_ty h0 h3 (by decide) e
 ·rcases e with e | e
  ·exact ne_ty h4 h2 (by decide) e
  ·exact ne_ty h4 h3 (by decide) e
def part(D:Dict)(i j k:Nat):Dict:=
 ⟨D.basic,D.off,fun r=>if r<k \/ r=i then(D.pivot i j).con r else D.con r,fun r c=>if r<k \/ r=i then(D.pivot i j).cell r c else D.cell r c,D.top,D.val⟩
theorem pivot_con(D:Dict)(i j r:Nat):(D.pivot i j).con r=if r=i then D.con i / D.cell i j else D.con r-D.cell r j* (D.con i / D.cell i j):=rfl
theorem pivot_cell(D:Dict)(i j r c:Nat):(D.pivot i j).cell r c=if r=i then upd (D.cell i) j 1 c / D.cell i j else upd (D.cell r) j 0 c-D.cell r j* (upd (D.cell i) j 1 c / D.cell i j):=rfl
theorem part_start(h:Tabl w L m n ⟨D.basic,D.off,upd D.con i (D.con i / D.cell i j),upd D.cell i (fun c=>upd (D.cell i) j 1 c / D.cell i j),D.top,D.val⟩):Tabl w L m n (part D i j 0):=by
 refine h.congr (fun _ _=>rfl) (fun _ _=>rfl) (fun r _=> ?_) (fun r c _ _=> ?_) (fun _ _=>rfl) rfl
 ·simp only[part,pivot_con];by_cases e:r=i
  ·subst e;simp[Lp.upd_same]
  ·simp[Lp.upd_other _ _ e,e]
 ·simp only[part,pivot_cell];by_cases e:r=i
  ·subst e;simp[Lp.upd_same]
  ·simp[Lp.upd_other _ _ e,e]
theorem part_skip(h:Tabl w L m n (part D i j i)):Tabl w L m n (part D i j (i+1)):=by
 refine h.congr (fun _ _=>rfl) (fun _ _=>rfl) (fun r _=> ?_) (fun r c _ _=> ?_) (fun _ _=>rfl) rfl
 ·simp only[part];by_cases e:r<i \/ r=i
  ·rw[if_pos e,if_pos (by omega)]
  ·rw[if_neg e,if_neg (by omega)]
 ·simp only[part];by_cases e:r<i \/ r=i
  ·rw[if_pos e,if_pos (by omega)]
  ·rw[if_neg e,if_neg (by omega)]
theorem part_zero{k:Nat}(hk:k≠i)(hz:D.cell k j=0)(h:Tabl w L m n (part D i j k)):Tabl w L m n (part D i j (k+1)):=by
 refine h.congr (fun _ _=>rfl) (fun _ _=>rfl) (fun r _=> ?_) (fun r c _ _=> ?_) (fun _ _=>rfl) rfl
 ·simp only[part];by_cases e:r=k
  ·subst e;rw[if_neg (by omega),if_pos (by omega),pivot_con,if_neg hk,hz];grind
  ·by_cases e2:r<k \/ r=i
   ·rw[if_pos e2,if_pos (by omega)]
   ·rw[if_neg e2,if_neg (by omega)]
 ·simp only[part];by_cases e:r=k
  ·subst e;rw[if_neg (by omega),if_pos (by omega),pivot_cell,if_neg hk,hz];by_cases e3:c=j
   ·subst e3;rw[Lp.upd_same,hz];grind
   ·rw[Lp.upd_other _ _ e3];grind
  ·by_cases e2:r<k \/ r=i
   ·rw[if_pos e2,if_pos (by omega)]
   ·rw[if_neg e2,if_neg (by omega)]
theorem part_con{k:Nat}(hk:k≠i):(part D i j k).con k=D.con k:=by simp only[part];rw[if_neg (by omega)]
theorem part_coni(k:Nat):(part D i j k).con i=D.con i / D.cell i j:=by simp only[part];rw[if_pos (Or.inr trivial),pivot_con,if_pos rfl]
theorem part_cell{k:Nat}(hk:k≠i)(c:Nat):(part D i j k).cell k c=D.cell k c:=by simp only[part];rw[if_neg (by omega)]
theorem part_celli(k c:Nat):(part D i j k).cell i c=upd (D.cell i) j 1 c / D.cell i j:=by simp only[part];rw[if_pos (Or.inr trivial),pivot_cell,if_pos rfl]
theorem part_step{k:Nat}(hk:k≠i)(h:Tabl w L m n ⟨D.basic,D.off,upd (part D i j k).con k (D.con k-D.cell k j* (D.pivot i j).con i),upd (part D i j k).cell k (fun c=>upd ((part D i j k).cell k) j 0 c-D.cell k j* (part D i j k).cell i c),D.top,D.val⟩):Tabl w L m n (part D i j (k+1)):=by
 refine h.congr (fun _ _=>rfl) (fun _ _=>rfl) (fun r _=> ?_) (fun r c _ _=> ?_) (fun _ _=>rfl) rfl
 ·show upd (part D i j k).con k (D.con k-D.cell k j* (D.pivot i j).con i) r=_;by_cases e:r=k
  ·subst e;rw[Lp.upd_same];simp only[part];rw[if_pos (by omega),pivot_con,pivot_con,if_neg hk,if_pos rfl]
  ·rw[Lp.upd_other _ _ e];simp only[part];by_cases e2:r<k \/ r=i
   ·rw[if_pos e2,if_pos (by omega)]
   ·rw[if_neg e2,if_neg (by omega)]
 ·show upd (part D i j k).cell k (fun c=>upd ((part D i j k).cell k) j 0 c-D.cell k j* (part D i j k).cell i c) r c=_;by_cases e:r=k
  ·subst e;rw[Lp.upd_same];rw[part_celli];show _=(if r<r+1 \/ r=i then(D.pivot i j).cell r c else D.cell r c);rw[if_pos (Or.inl (Nat.lt_succ_self r)),pivot_cell,if_neg hk];congr 1;by_cases e3:c=j
   ·subst e3;rw[Lp.upd_same,Lp.upd_same]
   ·rw[Lp.upd_other _ _ e3,Lp.upd_other _ _ e3,part_cell hk]
  ·rw[Lp.upd_other _ _ e];simp only[part];by_cases e2:r<k \/ r=i
   ·rw[if_pos e2,if_pos (by omega)]
   ·rw[if_neg e2,if_neg (by omega)]
theorem part_end(h:Tabl w L m n (part D i j m)):Tabl w L m n ⟨D.basic,D.off,(D.pivot i j).con,(D.pivot i j).cell,D.top,D.val⟩:=by
 refine h.congr (fun _ _=>rfl) (fun _ _=>rfl) (fun r hr=> ?_) (fun r c hr _=> ?_) (fun _ _=>rfl) rfl
 ·simp only[part];rw[if_pos (Or.inl hr)]
 ·simp only[part];rw[if_pos (Or.inl hr)]
end
end
section
open Go.RowKit
open Lp (RL upd Dict)
theorem infoR:(Tryz.prog.info? 105).map (fun i=>(i.zero,i.size,i.bytes))=some (some (.agg #[.bool false, .slice none 0 0, .bool false, .slice none 0 0]),4,64):=by kernel_rfl
theorem made_at(z:Array Value)(n i:Nat)(hi:i<n):(madeCells z n).toList[i]? =some (z[i%z.size]!):=by
 unfold madeCells;rw[Array.getElem?_toList,Array.getElem?_map];simp[hi]
theorem RB.made{w:World}{base g n:Nat}(h:w.ownsRow base 105 4 (.slice (some ⟨g,0,none⟩) n n) n (madeCells (Value.agg #[.bool false, .slice none 0 0, .bool false, .slice none 0 0]).cells (n*4)).toList):RB w g n (fun _=>0):=by
 rcases h.2 with ⟨h',_⟩ | ⟨g',cap,cur,h',_,hg,_,_,hs,htake⟩
 ·simp at h'
 ·simp only[Value.slice.injEq,Option.some.injEq,Addr.mk.injEq,and_true,true_and] at h';obtain⟨rfl,rfl⟩:=h'
  have e1:cur.toList=(madeCells (Value.agg #[.bool false, .slice none 0 0, .bool false, .slice none 0 0]).cells (n*4)).toList:=by
   rw[<- htake,List.take_of_length_le];rw[Array.length_toList,hs];exact Nat.le_refl _
  refine⟨cur.toList,?_,?_,fun j hj=> ?_⟩
  ·unfold Row;rw[hg]
  ·rw[Array.length_toList,hs];exact Nat.le_refl _
  ·rw[e1];refine⟨false,none,0,0,false,none,0,0,?_,?_,?_,?_,IsRat.zero_ w⟩
   ·rw[made_at _ _ _ (by omega)];simp[Value.cells,show j*4%4=0 by omega]
   ·rw[made_at _ _ _ (by omega)];simp[Value.cells,show(j*4+1)%4=1 by omega]
   ·rw[made_at _ _ _ (by omega)];simp[Value.cells,show(j*4+2)%4=2 by omega]
   ·rw[made_at _ _ _ (by omega)];simp[Value.cells,show(j*4+3)%4=3 by omega]
theorem wpList_mkR(w:World){ops:Array Oper}{rest:List Oper}{o:Oper}{a:Act}{Q:Exit -> Act -> World -> Prop}
  (hg:o.guard=none) (l c:Operand) (hop:o.op=Op.makeSlice 95 l c) (L C:Int) (n:Nat) (hl:a.eval l= .int .i64 L) (hc:a.eval c= .int .i64 C) (hL:L=(n:Int)) (hC:C=(n:Int)) (b2:n <= 4398046511104)
  (hK:∀w',RB w' w.heap.size n (fun _=>0) -> Below w.heap.size w w' -> w.heap.size<w'.heap.size -> wpList Tryz.prog ops Q rest (a.put o.dst (.slice (some ⟨w.heap.size,0,none⟩) n n)) w'):
  wpList Tryz.prog ops Q (o::rest) a w:=by
 obtain⟨i,hi,hz0,hz1,hz2⟩:=info_parts infoR;refine wpList_make_full w hg l c _ hop w.heap.size _ i _ 4 Tryz.underlying95 hi hz0 hz1 .i64 .i64 L C n hl hc hL hC (by rw[hz2];omega) (by unfold maxLen;omega) (Nat.le_refl _) ?_;intro w' hown hgr;have hr:=RB.made hown;exact hK w' hr ((Below.refl _ _).grown hgr (Nat.le_refl _) (by simp)) hr.lt
end
end Go.Proofs.YtdefghfjhgmpfaaGreatDoor
