/- Parts of this proof: Release RayM Ray Any RunM SolveM TextsM KnownLM. -/
import Derived.Test.YtdefghfjhgmpfaaGreatDoorMAE
import Derived.Test.YtdefghfjhgmpfaaGreatDoorMAX
import Derived.Test.YtdefghfjhgmpfaaGreatDoorMAP
import Derived.Test.YtdefghfjhgmpfaaGreatDoorMAW
import Derived.Test.YtdefghfjhgmpfaaGreatDoorMAV
import Derived.Test.YtdefghfjhgmpfaaGreatDoorMAU
namespace Go.Proofs.YtdefghfjhgmpfaaGreatDoor
open Go.Proofs.Tryz
section
open Go.RowKit
open Lp (RL upd eu)
structure Good (m n:Nat) (D0 D:eu) (k:Nat):Prop where
 ok:D.Ok m n
 sol:∀x g f,D.Sol m n x g f↔D0.Sol m n x g f
 rel:D.Rel m n k
theorem Good.lim{m n k K:Nat}{t D:eu}(h:Good m n t D k)(h0:t.Ok m n)(E:t.Lim m n K):D.Lim m n (Lp.wide m n K):=
 Lp.yZ h0 h.ok (fun x g f=>(h.sol x g f).symm) E
theorem Good.pivot{m n i j:Nat}{F D:eu}(h:Good m n F D j)(t:i<m)(E:j<n)(G:n <= D.basic i)(M:D.cell i j≠0):Good m n F (D.pivot i j) (j+1):=
 ⟨h.ok.pivot t E,fun x g f=>(eu.uW t E M).trans (h.sol x g f),h.rel.pivot E t G⟩
theorem Good.none_{m n j:Nat}{t D:eu}(h:Good m n t D j)(E:∀r,r<m -> n <= D.basic r -> D.cell r j=0):Good m n t D (j+1):=⟨h.ok,h.sol,h.rel.none_ E⟩
set_option maxRecDepth 100000 in
set_option maxHeartbeats 6400000 in
theorem BD(L:Lay)(m n K:Nat)(T:eu)(w:World)(U:fq w L m n T)(am:T.Ok m n)(hrel:T.Rel m n 0)(av:T.Lim m n K)(hK:Lp.wide m n K <= 100000000000)(hm:m <= 4611686018427387904)(hn:n <= 4611686018427387904):
  Calls prog 101 #[.pointer (some ⟨L.gt,0,none⟩)] w fun e w'=>e= .returned (.tuple #[]) /\ (∃D,fq w' L m n D /\ Good m n T D n) /\ Chg (L.blocks m) w w':=by
 have aC:=lH am;have aB:=lH av;have az:=lH hK;have an:Hid (Good m n T T 0):=lH ⟨am,fun _ _ _=>Iff.rfl,hrel⟩;have ap:=lH U;clear am av hK hrel;obtain⟨sv,Av,lv,cv,tv,Bv,mv,dv,G,ah⟩:=U.st;unfold Lay.cells at G;have t:=lH G;clear G ah;have k2:=aI 2 t;have kl:=t.o.lt;clear U;go_enter func101,ntmps101;go_wp2_with fail
 clear k2 kl t
 go_loopw [9] (fun iv wr=>∃k:Nat,k <= n /\ iv= .int .i64 k /\ Hid (∃D,fq wr L m n D /\ Good m n T D k) /\ Chg (L.blocks m) w wr)
  (fun iv _=>n-(intOf iv).toNat)
 case atStart=>exact⟨0,Nat.zero_le _,rfl,lH ⟨T,ap.o,an.o⟩,Chg.refl _ _⟩
 case round=>
  clear ap an;obtain⟨k,hk,rfl,HS,a9⟩:=hrel;have aj:=lH a9;clear a9;obtain⟨wa,rfl⟩:=eX (wr);by_cases aE:((k:Nat):Int)<(n:Nat)
  ·have al:k<n:=oM
   obtain⟨D,U,hG⟩:=HS.o;have aq:=lH U;have HG:=lH hG;have aA:=lH (hG.lim aC.o aB.o);clear hG HS;have a8:0<n:=oM
   rw[(aq.o.ao a8).1];obtain⟨sv,Av,lv,cv,tv,Bv,mv,dv,G,ah⟩:=U.st;unfold Lay.cells at G;rw[(U.ao a8).1,(U.ao a8).2] at G;have t:=lH G;clear G ah;have k1:=aI 1 t;have kl:=t.o.lt;clear U;go_wp2_with fail
   clear k1 kl t
   go_loopw [17] (fun iv wr=>∃r:Nat,r <= m /\ iv= .int .i64 r /\ Hid (∀c,c<r -> n <= D.basic c -> D.cell c k=0) /\ Below wa.heap.size wa wr)
    (fun iv _=>m-(intOf iv).toNat)
   case atStart=>exact⟨0,Nat.zero_le _,rfl,lH (fun c R=>absurd R oM),Below.refl _ _⟩
   case round=>
    obtain⟨r,hr,rfl,HZ,a9⟩:=hrel;have Y:=lH a9;have F:=lH (aq.o.below a9);clear a9;by_cases ac:((r:Nat):Int)<(m:Nat)
    ·have ac:r<m:=oM
     have aa:0<m:=oM
     rw[(F.o.ab aa).1];obtain⟨sv,Av,lv,cv,tv,Bv,mv,dv,G,ah⟩:=F.o.st;unfold Lay.cells at G;rw[(F.o.ab aa).1,(F.o.ab aa).2.1,(F.o.ab aa).2.2] at G;rw[(F.o.ao a8).1,(F.o.ao a8).2] at G;have t:=lH G;clear G ah;have C0:=lH ((F.o.bas aa).at_ ac);have C1:=lH ((F.o.out aa).at_ a8 ac);obtain⟨sx,Ax,lx,cx,tx,Bx,mx,dx,ar,ax⟩:=((F.o.rows a8 r ac)).fO al;have Qx:=lH ar;have Vx:=lH ax;clear ar ax;by_cases hf:¬n <= D.basic r
     ·have ai:decide (n <= D.basic r)=false:=by simp;omega
      have HF:=lH hf;clear hf;go_wp2_with fail
      have E:=rG wr;have ag:=t.o.lt;have a2:=aI 0 t;have a4:=aI 1 t;have a6:=aI 4 t;have ad:=eG C0.o;have Z:=C0.o;have ae:=eG C1.o;have a0:=C1.o;have af:=Qx.o.lt;obtain⟨a1,a3,a5,a7⟩:=Qx.o;have M:=lH (kC a2 (kC a4 (kC a6 (kC Z (kC a0 (kC a1 (kC a3 (kC a5 (kN a7)))))))));clear ag a2 a4 a6 ad Z ae a0 af a1 a3 a5 a7;refine rL M.o (fun i=>false) ?_;have h:=M.o _ E.o;refine tKs 0 20 h ?_;refine tKs 1 21 h ?_;refine tKs 2 22 h ?_;refine tKs 3 23 h ?_;refine tKs 4 24 h ?_;refine tKs 5 25 h ?_;refine tKs 6 26 h ?_;refine tKs 7 27 h ?_;refine tKs 8 28 h ?_;refine tKs 9 29 h ?_;refine tKs 10 30 h ?_;refine tKs 11 31 h ?_;refine tKs 12 32 h ?_;refine tUs 13 33 h ?_;refine tUs 14 34 h ?_;refine tUs 15 35 h ?_;refine tUs 16 36 h ?_;refine tUs 17 37 h ?_;refine tUs 18 38 h ?_;refine tUs 19 39 h ?_;refine tUs 20 40 h ?_;refine tUs 21 41 h ?_;refine tUs 22 42 h ?_;refine tUs 23 43 h ?_;refine tUs 24 44 h ?_;refine tKs 25 45 h ?_;refine dN ?_ _;clear h M E;clear ai;go_wp2_with fail
      go_roundw
      case rel=>exact⟨r+1,by omega,by simp,lH (fun c R hn=>by by_cases e:c=r;subst e;exact absurd hn HF.o;exact HZ.o c oM hn),Y.o.drew⟩
      case measure=>exact mZ
     ·have ai:decide (n <= D.basic r)=true:=by simp;omega
      have HF:Hid (n <= D.basic r):=lH oM;clear hf;by_cases R:D.cell r k=0
      ·have X:(sgI (D.cell r k).num !=0)=false:=by simpa using iZ.2 R
       have HC:=lH R;have ak:=lH X;clear R X;go_wp2_with fail
       have E:=rG wr;have ag:=t.o.lt;have a2:=aI 0 t;have a4:=aI 1 t;have a6:=aI 4 t;have ad:=eG C0.o;have Z:=C0.o;have ae:=eG C1.o;have a0:=C1.o;have af:=Qx.o.lt;obtain⟨a1,a3,a5,a7⟩:=Qx.o;have M:=lH (kC a2 (kC a4 (kC a6 (kC Z (kC a0 (kC a1 (kC a3 (kC a5 (kN a7)))))))));clear ag a2 a4 a6 ad Z ae a0 af a1 a3 a5 a7;refine rL M.o (fun i=>false) ?_;have h:=M.o _ E.o;refine tKs 0 20 h ?_;refine tKs 1 21 h ?_;refine tKs 2 22 h ?_;refine tKs 3 23 h ?_;refine tKs 4 24 h ?_;refine tKs 5 25 h ?_;refine tKs 6 26 h ?_;refine tKs 7 27 h ?_;refine tKs 8 28 h ?_;refine tKs 9 29 h ?_;refine tKs 10 30 h ?_;refine tKs 11 31 h ?_;refine tKs 12 32 h ?_;refine tKs 13 33 h ?_;refine tKs 14 34 h ?_;refine tKs 15 35 h ?_;refine tKs 16 36 h ?_;refine tKs 17 37 h ?_;refine tKs 18 38 h ?_;refine tKs 19 39 h ?_;refine tKs 20 40 h ?_;refine tKs 21 41 h ?_;refine tKs 22 42 h ?_;refine rD 23 (fun K hK=> ?_);go_simp;refine(fU _ (D.cell r k) _ (by exact Vx.o)).mono ?_;rintro e w1 ⟨rfl,O⟩;have O:Below wr.heap.size wr w1:=bD O;replace Y:=bT Y O;replace E:=bT E O;have X:=ak.o;clear h O;have h:=M.o _ E.o;refine kH hK h ?_;clear hK K;refine tKs 24 44 h ?_;refine tKs 25 45 h ?_;refine dN ?_ _;clear h M E;clear ai X;go_wp2_with fail
       go_roundw
       case rel=>exact⟨r+1,by omega,by simp,lH (fun c R hn=>by by_cases e:c=r;subst e;exact HC.o;exact HZ.o c oM hn),Y.o⟩
       case measure=>exact mZ
      ·have X:(sgI (D.cell r k).num !=0)=true:=by simpa using (not_congr iZ).2 R
       have HC:=lH R;have ak:=lH X;clear R X;go_wp2_with fail
       have E:=rG wr;have ag:=t.o.lt;have a2:=aI 0 t;have a4:=aI 1 t;have a6:=aI 4 t;have ad:=eG C0.o;have Z:=C0.o;have ae:=eG C1.o;have a0:=C1.o;have af:=Qx.o.lt;obtain⟨a1,a3,a5,a7⟩:=Qx.o;have M:=lH (kC a2 (kC a4 (kC a6 (kC Z (kC a0 (kC a1 (kC a3 (kC a5 (kN a7)))))))));clear ag a2 a4 a6 ad Z ae a0 af a1 a3 a5 a7;refine rL M.o (fun i=>false) ?_;have h:=M.o _ E.o;refine tKs 0 20 h ?_;refine tKs 1 21 h ?_;refine tKs 2 22 h ?_;refine tKs 3 23 h ?_;refine tKs 4 24 h ?_;refine tKs 5 25 h ?_;refine tKs 6 26 h ?_;refine tKs 7 27 h ?_;refine tKs 8 28 h ?_;refine tKs 9 29 h ?_;refine tKs 10 30 h ?_;refine tKs 11 31 h ?_;refine tKs 12 32 h ?_;refine tKs 13 33 h ?_;refine tKs 14 34 h ?_;refine tKs 15 35 h ?_;refine tKs 16 36 h ?_;refine tKs 17 37 h ?_;refine tKs 18 38 h ?_;refine tKs 19 39 h ?_;refine tKs 20 40 h ?_;refine tKs 21 41 h ?_;refine tKs 22 42 h ?_;refine rD 23 (fun K hK=> ?_);go_simp;refine(fU _ (D.cell r k) _ (by exact Vx.o)).mono ?_;rintro e w1 ⟨rfl,O⟩;have O:Below wr.heap.size wr w1:=bD O;replace F:=lH (F.o.below O);replace Y:=bT Y O;replace E:=bT E O;have X:=ak.o;clear h O;have h:=M.o _ E.o;refine kH hK h ?_;clear hK K;refine tKs 24 44 h ?_;refine tKs 25 45 h ?_;refine dN ?_ _;clear h M E;clear ai X;go_wp2_with fail
       refine(vV L m n r k _ D _ F.o ac al HC.o aA.o az.out hm hn).mono ?_;rintro e wq ⟨rfl,aw,au⟩;have aD:=lH aw;have ay:=lH ((aj.o.ig Y.o).trans au (fun b hb=> .inl hb));clear aw au;go_wp2_with fail
       go_roundw
       case rel=>exact⟨k+1,by omega,by simp,lH ⟨_,aD.o,HG.o.pivot ac al HF.o HC.o⟩,ay.o⟩
       case measure=>exact mZ
    ·obtain rfl:m=r:=oM
     go_wp2_with fail
     go_roundw
     case rel=>exact⟨k+1,by omega,by simp,lH ⟨D,F.o,HG.o.none_ HZ.o⟩,aj.o.ig Y.o⟩
     case measure=>exact mZ
  ·obtain rfl:n=k:=oM
   go_wp2_with fail
   go_returns;exact⟨rfl,HS.o,aj.o⟩
end
section
open Go.RowKit
open Lp (RL upd eu)
open Lp (sumTo spread)
def jX(D:eu)(j:Nat)(s:Rat)(k c:Nat):Rat:=(if D.off j=c then s else 0)+sumTo k (fun r=>if D.basic r=c then -(s*D.cell r j) else 0)
theorem BF{j:Nat}{D:eu}{s:Rat}(c:Nat):jX D j s 0 c=if D.off j=c then s else 0:=by
 show(if D.off j=c then s else 0)+0=_;grind
theorem I8{j:Nat}{D:eu}{s:Rat}(c:Nat):upd (fun _=>0) (D.off j) s c=jX D j s 0 c:=by
 rw[BF];by_cases e:c=D.off j
 ·subst e;rw[Lp.upd_same,if_pos rfl]
 ·rw[Lp.eT _ _ e,if_neg (fun e'=>e e'.symm)]
theorem I9{n j:Nat}{D:eu}{s:Rat}(h:n <= D.off j)(c:Nat)(t:c<n):(0:Rat)=jX D j s 0 c:=by
 rw[BF,if_neg oM]
theorem BG{n j k:Nat}{D:eu}{s:Rat}(h:n <= D.basic k)(c:Nat)(t:c<n):jX D j s k c=jX D j s (k+1) c:=by
 show _=(if D.off j=c then s else 0)+ (sumTo k (fun r=>if D.basic r=c then -(s*D.cell r j) else 0)+ (if D.basic k=c then -(s*D.cell k j) else 0));rw[if_neg (by omega:¬D.basic k=c)];show(if D.off j=c then s else 0)+sumTo k (fun r=>if D.basic r=c then -(s*D.cell r j) else 0)=_;grind
theorem BH{m n j k:Nat}{D:eu}{s:Rat}(h:D.Ok m n)(F:j<n)(t:k<m)(c:Nat):upd (jX D j s k) (D.basic k) (-(s*D.cell k j)) c=jX D j s (k+1) c:=by
 show _=(if D.off j=c then s else 0)+ (sumTo k (fun r=>if D.basic r=c then -(s*D.cell r j) else 0)+ (if D.basic k=c then -(s*D.cell k j) else 0));by_cases e:c=D.basic k
 ·subst e;rw[Lp.upd_same,if_pos rfl];have h1:sumTo k (fun r=>if D.basic r=D.basic k then -(s*D.cell r j) else 0)=0:=Lp.iX fun r G=>if_neg fun e=>by have:=h.bi r k oM t e;omega
  have E:¬D.off j=D.basic k:=fun e=>h.ne k j t F e.symm
  rw[h1,if_neg E];grind
 ·rw[Lp.eT _ _ e,if_neg (show ¬D.basic k=c from fun e'=>e e'.symm)];show(if D.off j=c then s else 0)+sumTo k (fun r=>if D.basic r=c then -(s*D.cell r j) else 0)=_;grind
end
section
open Go.RowKit
open Lp (RL upd eu)
set_option maxRecDepth 100000 in
set_option maxHeartbeats 6400000 in
theorem BJ(L:Lay)(m n j K:Nat)(D:eu)(s:Rat)(vs:Value)(w:World)(hT:fq w L m n D)(ba:D.Ok m n)(hj:j<n)(hs:eO w vs s)(b9:RL 1000000000000 s)(b8:D.Lim m n K)(Y:K <= 100000000000)(hm:m <= 4398046511104)(hn:n <= 4398046511104):
  Calls prog 103 #[.pointer (some ⟨L.gt,0,none⟩), .int .i64 j,vs] w fun e w'=>∃g,e= .returned (.slice (some ⟨g,0,none⟩) n n) /\ w.heap.size <= g /\ RB w' g n (jX D j s m) /\ Below w.heap.size w w':=by
 have a1:0<n:=oM
 have b7:=lH ba;have b6:=lH b9;have b5:=lH b8;clear ba b9 b8;obtain⟨ss,As,ls,cs,ts,Bs,ms,ds,rfl⟩:=hs.shape;have M:=lH hs;have t:=lH hT;have a3:=t;clear hs hT;have G:Hid (Below w.heap.size w w):=lH (Below.refl _ _);go_enter func103,ntmps103;have aU:=eD w (.cells #[.bool ss, .slice As ls cs, .bool ts, .slice Bs ms ds] 105);have F:=hN w [.bool ss, .slice As ls cs, .bool ts, .slice Bs ms ds] 105;replace M:=lH (M.o.below aU);replace G:=bT G aU;replace t:=lH (t.o.below aU);obtain⟨w1,aF⟩:=eX (w.alloc (.cells #[.bool ss, .slice As ls cs, .bool ts, .slice Bs ms ds] 105));rw[<- aF] at M F G t;clear aU;obtain⟨sv,Av,lv,cv,tv,Bv,mv,dv,R,a6⟩:=t.o.st;unfold Lay.cells at R;rw[(t.o.ao a1).1,(t.o.ao a1).2] at R;have O:=lH R;clear R a6;have k0:=aI 0 O;have kl:=O.o.lt;have bp:w1.heap.size=w.heap.size+1:=by rw[aF];simp
 have bJ:L.gt<w.heap.size:=by obtain⟨_,hr⟩:=a3.o.nV;exact hr.lt
 have bI:=(a3.o.off a1).lt;rw[aF] at k0 kl
 go_wp2_with (at_make;refine pu _ rfl (.tmp 14) (.tmp 14) rfl _ _ n rfl rfl rfl rfl hn ?_)
 intro w2 bb ae bo;rw[<- aF] at ae;replace ae:Below w1.heap.size w1 w2:=by rw[bp];simpa using ae
 have h:Hid (RB w2 (w.heap.size+1) n fun _=>0):=lH (by simpa using bb);clear bb k0 kl O bo aF;replace M:=lH (M.o.below ae);replace F:=rW F ae;replace G:=bT G ae;replace t:=lH (t.o.below ae);clear ae;obtain⟨sv,Av,lv,cv,tv,Bv,mv,dv,R,a6⟩:=t.o.st;unfold Lay.cells at R;rw[(t.o.ao a1).1,(t.o.ao a1).2] at R;have O:=lH R;clear R a6;have X:=lH ((t.o.off a1).at_ hj);have bK:((j:Nat):Int)<(n:Nat):=oM
 by_cases hf:D.off j<n
 ·have bn:((D.off j:Nat):Int)<(n:Nat):=oM
  have aj:decide (D.off j<n)=true:=by simpa using hf
  obtain⟨sy,Ay,ly,cy,ty,By,my,dy,ad,af⟩:=(h.o).fO hf;have T:=lH ad;have Vy:=lH af;clear ad af;clear Vy;obtain⟨aL,aM,aN,aO⟩:=T.o;have aP:=T.o.lt;clear T;have aG:=h.o.free (D.off j*4);have aH:=h.o.free (D.off j*4+1);have aJ:=h.o.free (D.off j*4+2);have aK:=h.o.free (D.off j*4+3);obtain⟨a8,a9,b4⟩:=aT3 O.o;have ac:=O.o.lt;have a7:=X.o;have aa:=eG X.o;obtain⟨br,bs,bu,bv⟩:=aT4 F.o;have bw:=F.o.lt;have bm:w.heap.size≠w.heap.size+1:=oM
  clear O X;clear t;have aR:World.grownBy w2 ((((w2.setCell ⟨(w.heap.size+1),(D.off j)*4,none⟩ (.bool ss)).setCell ⟨(w.heap.size+1),(D.off j)*4+1,none⟩ (.slice As ls cs)).setCell ⟨(w.heap.size+1),(D.off j)*4+2,none⟩ (.bool ts)).setCell ⟨(w.heap.size+1),(D.off j)*4+3,none⟩ (.slice Bs ms ds)) (some (w.heap.size+1)):=il _ _ _ _ _ _ _ _ _ _;obtain⟨bF,bc⟩:=h.o.row;have bz:=F.o.lt;have bx:=h.o.lt;have bf:=h.o.set hf M.o;replace M:=lH (M.o.other aR bc ic);replace F:=lH (F.o.other aR oM);replace G:=lH (G.o.grown aR G.o.size (by first | (simp;done) | (simp;omega)));replace h:=lH bf;obtain⟨aV,b1⟩:=eX (((((w2.setCell ⟨(w.heap.size+1),(D.off j)*4,none⟩ (.bool ss)).setCell ⟨(w.heap.size+1),(D.off j)*4+1,none⟩ (.slice As ls cs)).setCell ⟨(w.heap.size+1),(D.off j)*4+2,none⟩ (.bool ts)).setCell ⟨(w.heap.size+1),(D.off j)*4+3,none⟩ (.slice Bs ms ds)));rw[<- b1] at M F h G;clear aR bc bf bz bx;go_wp2_with fail
  rw[<- b1];clear b1 aL aM aN aO aP aG aH aJ aK bm a8 a9 b4 ac a7 aa br bs bu bv bw;replace h:=lH (h.o.congr (fun c _=>I8 c));clear aj bn hf;have t:=lH (a3.o.below G.o);obtain⟨sv,Av,lv,cv,tv,Bv,mv,dv,R,a6⟩:=t.o.st;unfold Lay.cells at R;rw[(t.o.ao a1).1,(t.o.ao a1).2] at R;have O:=lH R;clear R a6;have k1:=aI 1 O;have kl:=O.o.lt;go_wp2_with fail
  clear k1 kl;have aW:=t;have ak:=G;have al:=F;have am:=M;clear t G F M O
  go_loopw [38] (fun iv wr=>∃k:Nat,k <= m /\ iv= .int .i64 k /\ RB wr (w.heap.size+1) n (jX D j s k) /\ Below w.heap.size w wr /\ Row wr w.heap.size 105 [.bool ss, .slice As ls cs, .bool ts, .slice Bs ms ds] /\ eO wr (.agg #[.bool ss, .slice As ls cs, .bool ts, .slice Bs ms ds]) s)
   (fun iv _=>m-(intOf iv).toNat)
  case atStart=>exact⟨0,Nat.zero_le _,rfl,h.o,ak.o,al.o,am.o⟩
  case round=>
   clear h aW ak al am;obtain⟨k,hk,rfl,aB,ai,aC,aE⟩:=hrel;have h:=lH aB;have G:=lH ai;have F:=lH aC;have M:=lH aE;have t:=lH (a3.o.below ai);clear aB ai aC aE;by_cases bl:((k:Nat):Int)<(m:Nat)
   ·have a2:k<m:=oM
    have a0:0<m:=oM
    have bj:=(a3.o.bas a0).lt;have bk:=(a3.o.con a0).lt;rw[(t.o.ab a0).1];obtain⟨sv,Av,lv,cv,tv,Bv,mv,dv,R,a6⟩:=t.o.st;unfold Lay.cells at R;rw[(t.o.ab a0).1,(t.o.ab a0).2.1,(t.o.ab a0).2.2] at R;rw[(t.o.ao a1).1,(t.o.ao a1).2] at R;have O:=lH R;clear R a6;have X:=lH ((t.o.bas a0).at_ a2);have C1:=lH ((t.o.out a0).at_ a1 a2);obtain⟨sx,Ax,lx,cx,tx,Bx,mx,dx,aA,aD⟩:=((t.o.rows a1 k a2)).fO hj;have Qx:=lH aA;have Vx:=lH aD;clear aA aD;clear t;by_cases hf:¬D.basic k<n
    ·have aj:decide (D.basic k<n)=false:=by simp;omega
     have HF:=lH hf;clear hf;obtain⟨a8,a9⟩:=aT2 O.o;have ac:=O.o.lt;have a7:=X.o;have aa:=eG X.o;go_wp2_with fail
     go_roundw
     case rel=>exact⟨k+1,by omega,by simp,h.o.congr (fun c hc=>BG (by have:=HF.o;omega) c hc),G.o,F.o,M.o⟩
     case measure=>exact mZ
    ·have ah:D.basic k<n:=oM
     have aj:decide (D.basic k<n)=true:=by simpa using ah
     have bi:((D.basic k:Nat):Int)<(n:Nat):=oM
     clear hf;obtain⟨sy,Ay,ly,cy,ty,By,my,dy,ad,af⟩:=(h.o).fO ah;have T:=lH ad;have Vy:=lH af;clear ad af;clear Vy;obtain⟨a8,a9⟩:=aT2 O.o;have ac:=O.o.lt;have a7:=X.o;have aa:=eG X.o;go_wp2_with fail
     clear a8 a9 ac a7 aa;go_wp2_with fail
     have Z:=rG wr;have b0:=O.o.lt;have ar:=aI 4 O;have aX:=eG C1.o;have an:=C1.o;have aY:=Qx.o.lt;obtain⟨ap,au,aw,ay⟩:=Qx.o;have aZ:=F.o.lt;obtain⟨aq,av,ax,az⟩:=aT4 F.o;have KS:=lH (kC ar (kC an (kC ap (kC au (kC aw (kC ay (kC aq (kC av (kC ax (kN az))))))))));clear b0 ar aX an aY ap au aw ay aZ aq av ax az;refine rL KS.o (fun i=>decide (16 <= i)) ?_;have E:=KS.o _ Z.o;refine tKs 0 49 E ?_;refine tKs 1 50 E ?_;refine tKs 2 51 E ?_;refine tKs 3 52 E ?_;refine tKs 4 53 E ?_;refine tKs 5 54 E ?_;refine tKs 6 55 E ?_;refine tKs 7 56 E ?_;refine tKs 8 57 E ?_;refine tKs 9 58 E ?_;refine tKs 10 59 E ?_;refine tKs 11 60 E ?_;refine tKs 12 61 E ?_;refine rD 13 (fun K Y=> ?_);go_simp;refine(pq _ _ s (D.cell k j) _ (by exact M.o) (by exact Vx.o) b6.o ((b5.o.cell k j a2 hj).mono oM)).mono ?_;rintro e ag ⟨vr,rfl,hr,U⟩;have U:Below wr.heap.size wr ag:=bD U;obtain⟨sr,Ar,lr,cr,tr,Br,mr,dr,rfl⟩:=hr.shape;have Vr:=lH hr;clear hr;replace M:=lH (M.o.below U);replace F:=rW F U;replace T:=lH (T.o.below U);replace h:=lH (h.o.below U);replace G:=bT G U;replace Z:=bT Z U;clear E U;have E:=KS.o _ Z.o;refine kH Y E ?_;clear Y K;refine rD 14 (fun K Y=> ?_);go_simp;refine(nU _ (s*D.cell k j) _ (by exact Vr.o)).mono ?_;rintro e aQ ⟨vq,rfl,hq,a5⟩;have a5:Below ag.heap.size ag aQ:=bD a5;obtain⟨sq,Aq,lq,cq,tq,Bq,mq,dq,rfl⟩:=hq.shape;have Vq:=lH hq;clear hq;replace M:=lH (M.o.below a5);replace F:=rW F a5;replace T:=lH (T.o.below a5);replace h:=lH (h.o.below a5);replace G:=bT G a5;replace Z:=bT Z a5;have aL:=T.o.1;have aM:=T.o.2.1;have aN:=T.o.2.2.1;have aO:=T.o.2.2.2;have aP:=T.o.lt;have aG:=h.o.free (D.basic k*4);have aH:=h.o.free (D.basic k*4+1);have aJ:=h.o.free (D.basic k*4+2);have aK:=h.o.free (D.basic k*4+3);clear E a5;have E:=KS.o _ Z.o;refine kH Y E ?_;clear Y K;refine tKs 15 64 E ?_;refine rD 16 (fun K Y=> ?_);go_simp;refine kL Y ?_;clear Y K;refine dN ?_ _;clear E KS Z;clear aL aM aN aO aP aG aH aJ aK O X C1 Qx Vx Vr;clear T;have aT:World.grownBy aQ ((((aQ.setCell ⟨(w.heap.size+1),(D.basic k)*4,none⟩ (.bool sq)).setCell ⟨(w.heap.size+1),(D.basic k)*4+1,none⟩ (.slice Aq lq cq)).setCell ⟨(w.heap.size+1),(D.basic k)*4+2,none⟩ (.bool tq)).setCell ⟨(w.heap.size+1),(D.basic k)*4+3,none⟩ (.slice Bq mq dq)) (some (w.heap.size+1)):=il _ _ _ _ _ _ _ _ _ _;obtain⟨bH,be⟩:=h.o.row;have bE:=F.o.lt;have bC:=h.o.lt;have bh:=h.o.set ah Vq.o;replace M:=lH (M.o.other aT be ic);replace F:=lH (F.o.other aT oM);replace G:=lH (G.o.grown aT G.o.size (by first | (simp;done) | (simp;omega)));replace h:=lH bh;obtain⟨bL,b3⟩:=eX (((((aQ.setCell ⟨(w.heap.size+1),(D.basic k)*4,none⟩ (.bool sq)).setCell ⟨(w.heap.size+1),(D.basic k)*4+1,none⟩ (.slice Aq lq cq)).setCell ⟨(w.heap.size+1),(D.basic k)*4+2,none⟩ (.bool tq)).setCell ⟨(w.heap.size+1),(D.basic k)*4+3,none⟩ (.slice Bq mq dq)));rw[<- b3] at M F h G;clear aT be bh bE bC;rw[<- b3];clear b3;go_wp2_with fail
     go_roundw
     case rel=>exact⟨k+1,by omega,by simp,h.o.congr (fun c _=>BH b7.o hj a2 c),G.o,F.o,M.o⟩
     case measure=>exact mZ
   ·obtain rfl:m=k:=oM
    go_wp2_with fail
    go_returns;exact⟨_,rfl,Nat.le_succ _,h.o,G.o⟩
 ·have aj:decide (D.off j<n)=false:=by simp;omega
  obtain⟨a8,a9,b4⟩:=aT3 O.o;have ac:=O.o.lt;have a7:=X.o;have aa:=eG X.o;go_wp2_with fail
  clear a8 a9 b4 ac a7 aa;clear aj X;replace h:=lH (h.o.congr (fun c hc=>I9 (j:=j) (s:=s) (by omega:n <= D.off j) c hc));clear hf;have aW:=t;have ak:=G;have al:=F;have am:=M;clear t G F M O
  go_loopw [38] (fun iv wr=>∃k:Nat,k <= m /\ iv= .int .i64 k /\ RB wr (w.heap.size+1) n (jX D j s k) /\ Below w.heap.size w wr /\ Row wr w.heap.size 105 [.bool ss, .slice As ls cs, .bool ts, .slice Bs ms ds] /\ eO wr (.agg #[.bool ss, .slice As ls cs, .bool ts, .slice Bs ms ds]) s)
   (fun iv _=>m-(intOf iv).toNat)
  case atStart=>exact⟨0,Nat.zero_le _,rfl,h.o,ak.o,al.o,am.o⟩
  case round=>
   clear h aW ak al am;obtain⟨k,hk,rfl,aB,ai,aC,aE⟩:=hrel;have h:=lH aB;have G:=lH ai;have F:=lH aC;have M:=lH aE;have t:=lH (a3.o.below ai);clear aB ai aC aE;by_cases bl:((k:Nat):Int)<(m:Nat)
   ·have a2:k<m:=oM
    have a0:0<m:=oM
    have bj:=(a3.o.bas a0).lt;have bk:=(a3.o.con a0).lt;rw[(t.o.ab a0).1];obtain⟨sv,Av,lv,cv,tv,Bv,mv,dv,R,a6⟩:=t.o.st;unfold Lay.cells at R;rw[(t.o.ab a0).1,(t.o.ab a0).2.1,(t.o.ab a0).2.2] at R;rw[(t.o.ao a1).1,(t.o.ao a1).2] at R;have O:=lH R;clear R a6;have X:=lH ((t.o.bas a0).at_ a2);have C1:=lH ((t.o.out a0).at_ a1 a2);obtain⟨sx,Ax,lx,cx,tx,Bx,mx,dx,aA,aD⟩:=((t.o.rows a1 k a2)).fO hj;have Qx:=lH aA;have Vx:=lH aD;clear aA aD;clear t;by_cases hf:¬D.basic k<n
    ·have aj:decide (D.basic k<n)=false:=by simp;omega
     have HF:=lH hf;clear hf;obtain⟨a8,a9⟩:=aT2 O.o;have ac:=O.o.lt;have a7:=X.o;have aa:=eG X.o;go_wp2_with fail
     go_roundw
     case rel=>exact⟨k+1,by omega,by simp,h.o.congr (fun c hc=>BG (by have:=HF.o;omega) c hc),G.o,F.o,M.o⟩
     case measure=>exact mZ
    ·have ah:D.basic k<n:=oM
     have aj:decide (D.basic k<n)=true:=by simpa using ah
     have bi:((D.basic k:Nat):Int)<(n:Nat):=oM
     clear hf;obtain⟨sy,Ay,ly,cy,ty,By,my,dy,ad,af⟩:=(h.o).fO ah;have T:=lH ad;have Vy:=lH af;clear ad af;clear Vy;obtain⟨a8,a9⟩:=aT2 O.o;have ac:=O.o.lt;have a7:=X.o;have aa:=eG X.o;go_wp2_with fail
     clear a8 a9 ac a7 aa;go_wp2_with fail
     have Z:=rG wr;have b0:=O.o.lt;have ar:=aI 4 O;have aX:=eG C1.o;have an:=C1.o;have aY:=Qx.o.lt;obtain⟨ap,au,aw,ay⟩:=Qx.o;have aZ:=F.o.lt;obtain⟨aq,av,ax,az⟩:=aT4 F.o;have KS:=lH (kC ar (kC an (kC ap (kC au (kC aw (kC ay (kC aq (kC av (kC ax (kN az))))))))));clear b0 ar aX an aY ap au aw ay aZ aq av ax az;refine rL KS.o (fun i=>decide (16 <= i)) ?_;have E:=KS.o _ Z.o;refine tKs 0 49 E ?_;refine tKs 1 50 E ?_;refine tKs 2 51 E ?_;refine tKs 3 52 E ?_;refine tKs 4 53 E ?_;refine tKs 5 54 E ?_;refine tKs 6 55 E ?_;refine tKs 7 56 E ?_;refine tKs 8 57 E ?_;refine tKs 9 58 E ?_;refine tKs 10 59 E ?_;refine tKs 11 60 E ?_;refine tKs 12 61 E ?_;refine rD 13 (fun K Y=> ?_);go_simp;refine(pq _ _ s (D.cell k j) _ (by exact M.o) (by exact Vx.o) b6.o ((b5.o.cell k j a2 hj).mono oM)).mono ?_;rintro e aV ⟨vr,rfl,hr,a4⟩;have a4:Below wr.heap.size wr aV:=bD a4;obtain⟨sr,Ar,lr,cr,tr,Br,mr,dr,rfl⟩:=hr.shape;have Vr:=lH hr;clear hr;replace M:=lH (M.o.below a4);replace F:=rW F a4;replace T:=lH (T.o.below a4);replace h:=lH (h.o.below a4);replace G:=bT G a4;replace Z:=bT Z a4;clear E a4;have E:=KS.o _ Z.o;refine kH Y E ?_;clear Y K;refine rD 14 (fun K Y=> ?_);go_simp;refine(nU _ (s*D.cell k j) _ (by exact Vr.o)).mono ?_;rintro e ag ⟨vq,rfl,hq,U⟩;have U:Below aV.heap.size aV ag:=bD U;obtain⟨sq,Aq,lq,cq,tq,Bq,mq,dq,rfl⟩:=hq.shape;have Vq:=lH hq;clear hq;replace M:=lH (M.o.below U);replace F:=rW F U;replace T:=lH (T.o.below U);replace h:=lH (h.o.below U);replace G:=bT G U;replace Z:=bT Z U;have aL:=T.o.1;have aM:=T.o.2.1;have aN:=T.o.2.2.1;have aO:=T.o.2.2.2;have aP:=T.o.lt;have aG:=h.o.free (D.basic k*4);have aH:=h.o.free (D.basic k*4+1);have aJ:=h.o.free (D.basic k*4+2);have aK:=h.o.free (D.basic k*4+3);clear E U;have E:=KS.o _ Z.o;refine kH Y E ?_;clear Y K;refine tKs 15 64 E ?_;refine rD 16 (fun K Y=> ?_);go_simp;refine kL Y ?_;clear Y K;refine dN ?_ _;clear E KS Z;clear aL aM aN aO aP aG aH aJ aK O X C1 Qx Vx Vr;clear T;have aS:World.grownBy ag ((((ag.setCell ⟨(w.heap.size+1),(D.basic k)*4,none⟩ (.bool sq)).setCell ⟨(w.heap.size+1),(D.basic k)*4+1,none⟩ (.slice Aq lq cq)).setCell ⟨(w.heap.size+1),(D.basic k)*4+2,none⟩ (.bool tq)).setCell ⟨(w.heap.size+1),(D.basic k)*4+3,none⟩ (.slice Bq mq dq)) (some (w.heap.size+1)):=il _ _ _ _ _ _ _ _ _ _;obtain⟨bG,bd⟩:=h.o.row;have bB:=F.o.lt;have bA:=h.o.lt;have bg:=h.o.set ah Vq.o;replace M:=lH (M.o.other aS bd ic);replace F:=lH (F.o.other aS oM);replace G:=lH (G.o.grown aS G.o.size (by first | (simp;done) | (simp;omega)));replace h:=lH bg;obtain⟨aQ,b2⟩:=eX (((((ag.setCell ⟨(w.heap.size+1),(D.basic k)*4,none⟩ (.bool sq)).setCell ⟨(w.heap.size+1),(D.basic k)*4+1,none⟩ (.slice Aq lq cq)).setCell ⟨(w.heap.size+1),(D.basic k)*4+2,none⟩ (.bool tq)).setCell ⟨(w.heap.size+1),(D.basic k)*4+3,none⟩ (.slice Bq mq dq)));rw[<- b2] at M F h G;clear aS bd bg bB bA;rw[<- b2];clear b2;go_wp2_with fail
     go_roundw
     case rel=>exact⟨k+1,by omega,by simp,h.o.congr (fun c _=>BH b7.o hj a2 c),G.o,F.o,M.o⟩
     case measure=>exact mZ
   ·obtain rfl:m=k:=oM
    go_wp2_with fail
    go_returns;exact⟨_,rfl,Nat.le_succ _,h.o,G.o⟩
end
section
open Go.RowKit
open Lp (RL upd eu sumTo spread)
section
variable {m n:Nat} {D:eu} {row col out:Int}
theorem Ia(h:tX n m D row col)(T:row<0)(_hc:col<0):D.kV m n (n+m):=by
 obtain⟨U,h⟩:=h
 rcases h with ⟨h1,t,E,G⟩ | ⟨y,h1,t,_⟩
 ·rcases t with ⟨_,t⟩ | ⟨x,t,_⟩
  ·refine⟨fun r O F _=>t r O F,fun c M F _=>G c M F fun l R=> ?_⟩
   rcases E with ⟨_,E⟩ | ⟨x,E,_⟩ <;> omega
  ·omega
 ·omega
theorem Ib(h:tX n m D row col)(hr:0 <= row):∃x:Nat,row=(x:Nat) /\ x<m /\ n <= D.basic x /\ D.con x<0 /\ D.kV m n (D.basic x):=by
 obtain⟨a1,h⟩:=h
 rcases h with ⟨h1,t,E,M⟩ | ⟨y,h1,_⟩
 ·rcases t with ⟨t,_⟩ | ⟨x,t,Y,O,U,T⟩
  ·omega
  ·refine⟨x,t,Y,O,U,fun r X F G=>T r X F G,fun c R F G=>M c R F fun l a0=> ?_⟩
   rcases E with ⟨E,_⟩ | ⟨x',E,Z⟩
   ·omega
   ·obtain rfl:x=x':=oM
    omega
 ·omega
theorem Ic(h:tX n m D row col)(_:row<0)(Y:0 <= col):∃y:Nat,col=(y:Nat) /\ y<n /\ n <= D.off y /\ D.top y<0 /\ D.kV m n (D.off y):=by
 obtain⟨Z,h⟩:=h
 rcases h with ⟨h1,_⟩ | ⟨y,h1,F,_,G,M,O,R,T⟩
 ·omega
 ·exact⟨y,F,G,M,O,fun r X E t=>T r X E t,fun c U E t=>R c U E t⟩
theorem Ie(h:jw n n D.off (D.cell m) out)(t:out<0):∀c,c<n -> n <= D.off c -> 0 <= D.cell m c:=by
 rcases h with ⟨_,h⟩ | ⟨x,h,_⟩
 ·exact h
 ·omega
theorem Ig{i:Nat}(h:jw n n D.off (D.cell i) out)(T:0 <= out)(O:i<m)(F:n <= D.basic i)(G:D.con i<0)(M:D.kV m n (D.basic i)):∃j:Nat,out=(j:Nat) /\ D.kr m n i j:=by
 rcases h with ⟨h,_⟩ | ⟨x,h,R,h1,t,E⟩
 ·omega
 ·exact⟨x,h, .row O R F G M h1 t E⟩
theorem Ih{j:Nat}(h:jW n m D.basic (fun r=>D.cell r j) out)(t:out<0):∀r,r<m -> n <= D.basic r -> D.cell r j <= 0:=by
 rcases h with ⟨_,h⟩ | ⟨x,h,_⟩
 ·exact h
 ·omega
theorem Ii{j:Nat}(h:jW n m D.basic (fun r=>D.cell r j) out)(T:0 <= out)(O:j<n)(F:n <= D.off j)(G:D.top j<0)(M:D.kV m n (D.off j)):∃i:Nat,out=(i:Nat) /\ D.kr m n i j:=by
 rcases h with ⟨h,_⟩ | ⟨x,h,R,h1,t,E⟩
 ·omega
 ·exact⟨x,h, .col R O F G M h1 t E⟩
end
def mf(n:Nat)(o:Nat -> Nat)(f b:Nat -> Rat)(k i:Nat):Rat:=b i+sumTo k (fun c=>if o c=n+i then f c else 0)
theorem BK(n:Nat)(o:Nat -> Nat)(f b:Nat -> Rat)(i:Nat):b i=mf n o f b 0 i:=by
 show _=b i+0;grind
theorem BL{n k:Nat}{o:Nat -> Nat}(f b:Nat -> Rat)(h:o k<n)(i:Nat):mf n o f b k i=mf n o f b (k+1) i:=by
 show b i+sumTo k _=b i+ (sumTo k _+ (if o k=n+i then f k else 0));rw[if_neg oM];grind
theorem BM{m n k:Nat}{D:eu}(t:D.Ok m n)(f b:Nat -> Rat)(F:k<n)(h:n <= D.off k)(E:b (D.off k-n)=0)(i:Nat):upd (mf n D.off f b k) (D.off k-n) (f k) i=mf n D.off f b (k+1) i:=by
 show _=b i+ (sumTo k _+ (if D.off k=n+i then f k else 0));by_cases e:i=D.off k-n
 ·subst e;rw[Lp.upd_same,if_pos oM,E,Lp.iX fun c G=>if_neg fun e=>by have:=t.oi c k oM F oM;omega];grind
 ·rw[Lp.eT _ _ e,if_neg oM];show b i+sumTo k _=_;grind
inductive tY (w':World) (L:Lay) (m n:Nat) (D:eu) (e:Ending):Prop
 | opt (s A l c t B d f P cp Y cy):e= .returned (.tuple #[.agg #[.int .i64 1, .bool s, .slice A l c, .bool t, .slice B d f, .slice P n cp, .slice Y m cy, .slice none 0 0], .int .i64 (-1)]) ->
   eO w' (.agg #[.bool s, .slice A l c, .bool t, .slice B d f]) D.val -> eZ w' (.slice P n cp) n (spread m D.basic D.con) -> eZ w' (.slice Y m cy) m (fun i=>spread n D.off D.top (n+i)) -> D.kV m n (n+m) -> tY w' L m n D e
 | inf (i:Nat) (Y cy):e= .returned (.tuple #[.agg #[.int .i64 2, .bool false, .slice none 0 0, .bool false, .slice none 0 0, .slice none 0 0, .slice Y m cy, .slice none 0 0], .int .i64 (-1)]) ->
   eZ w' (.slice Y m cy) m (fun k=>(if D.basic i=n+k then 1 else 0)+spread n D.off (D.cell i) (n+k)) -> i<m -> n <= D.basic i -> D.con i<0 -> (∀c,c<n -> n <= D.off c -> 0 <= D.cell i c) -> tY w' L m n D e
 | unb (j:Nat):e= .returned (.tuple #[.agg #[.int .i64 3, .bool false, .slice none 0 0, .bool false, .slice none 0 0, .slice none 0 0, .slice none 0 0, .slice none 0 0], .int .i64 (j:Nat)]) ->
   j<n -> n <= D.off j -> D.top j<0 -> (∀r,r<m -> n <= D.basic r -> D.cell r j <= 0) -> tY w' L m n D e
end
section
open Go.RowKit
open Lp (RL upd eu sumTo spread eB)
def RLs(K n:Nat)(f:Nat -> Rat):Prop:=∀j,j<n -> RL K (f j)
theorem RLs.mono{K t n:Nat}{f:Nat -> Rat}(h:RLs K n f)(E:K <= t):RLs t n f:=fun j F=>(h j F).mono E
theorem tZ{K n:Nat}{o:Nat -> Nat}{a:Nat -> Rat}(F:∀c d,c<n -> d<n -> o c=o d -> c=d)(h:∀c,c<n -> RL K (a c))(E:0<K)(k:Nat):RL K (spread n o a k):=by
 by_cases e:∃c,c<n /\ o c=k
 ·obtain⟨c,t,rfl⟩:=e;rw[Lp.qF F a t];exact h c t
 ·rw[Lp.nR a fun c t e'=>e ⟨c,t,e'⟩];exact RL.zero.mono E
inductive nz (w:World) (m n K:Nat) (A:Nat -> Nat -> Rat) (b c:Nat -> Rat) (v:Value):Prop
 | opt (s A' l c' t B d f P cp Y cy q x y):v= .agg #[.int .i64 1, .bool s, .slice A' l c', .bool t, .slice B d f, .slice P n cp, .slice Y m cy, .slice none 0 0] ->
   eO w (.agg #[.bool s, .slice A' l c', .bool t, .slice B d f]) q -> eZ w (.slice P n cp) n x -> eZ w (.slice Y m cy) m y -> RL K q -> RLs K n x -> RLs K m y -> Lp.Opt m n A b c q x y -> nz w m n K A b c v
 | inf (Y cy y):v= .agg #[.int .i64 2, .bool false, .slice none 0 0, .bool false, .slice none 0 0, .slice none 0 0, .slice Y m cy, .slice none 0 0] ->
   eZ w (.slice Y m cy) m y -> RLs K m y -> Lp.Inf m n A b y -> nz w m n K A b c v
 | unb (P cp R cr x d):v= .agg #[.int .i64 3, .bool false, .slice none 0 0, .bool false, .slice none 0 0, .slice P n cp, .slice none 0 0, .slice R n cr] ->
   eZ w (.slice P n cp) n x -> eZ w (.slice R n cr) n d -> RLs K n x -> RLs K n d -> Lp.Unb m n A b c x d -> nz w m n K A b c v
theorem nz.below{w w':World}{m n K:Nat}{A:Nat -> Nat -> Rat}{b c:Nat -> Rat}{v:Value}(h:nz w m n K A b c v)(E:Below w.heap.size w w'):nz w' m n K A b c v:=by
 cases h with
 | opt s A' l c' t B d f P O Y T q x y h1 F G M U X Z h8=>exact .opt s A' l c' t B d f P O Y T q x y h1 (F.below E) (G.below E) (M.below E) U X Z h8
 | inf Y T y h1 F G M=>exact .inf Y T y h1 (F.below E) G M
 | unb P O R cr x d h1 F G M U X=>exact .unb P O R cr x d h1 (F.below E) (G.below E) M U X
section
variable {w:World} {m n K j i:Nat} {A:Nat -> Nat -> Rat} {b c x:Nat -> Rat} {D:eu}
theorem Ij(h:D.Lim m n K):RL (K+1) D.val:=h.val.mono oM
theorem BP(h:D.Ok m n)(t:D.Lim m n K):RLs (K+1) n (spread m D.basic D.con):=fun k _=>tZ h.bi (fun r E=>(t.con r E).mono oM) oM k
theorem Ik(h:D.Ok m n)(t:D.Lim m n K):RLs (K+1) m (fun i=>spread n D.off D.top (n+i)):=fun k _=>tZ h.oi (fun r E=>(t.top r E).mono oM) oM (n+k)
theorem BR(h:D.Ok m n)(F:D.Lim m n K)(t:i<m):RLs (K+1) m (fun k=>(if D.basic i=n+k then 1 else 0)+spread n D.off (D.cell i) (n+k)):=fun k _=>by
 show RL (K+1) ((if D.basic i=n+k then 1 else 0)+spread n D.off (D.cell i) (n+k));by_cases e:D.basic i=n+k
 ·rw[if_pos e,Lp.nR _ fun c E e'=>h.ne i c t E (e.trans e'.symm)];rw[show(1:Rat)+0=1 by grind];exact RL.one.mono oM
 ·rw[if_neg e,show(0:Rat)+spread n D.off (D.cell i) (n+k)=spread n D.off (D.cell i) (n+k) by grind];exact tZ h.oi (fun r G=>(F.cell i r t G).mono oM) oM _
theorem BS{s:Rat}(t:D.Ok m n)(G:D.Lim m n K)(E:j<n)(F:RL 1 s):RLs (K+1) n (jX D j s m):=fun k _=>by
 show RL (K+1) ((if D.off j=k then s else 0)+spread m D.basic (fun r=> -(s*D.cell r j)) k);by_cases e:D.off j=k
 ·rw[if_pos e,Lp.nR _ fun r h e'=>t.ne r j h E (e'.trans e.symm)];rw[show s+0=s by grind];exact F.mono oM
 ·rw[if_neg e,show(0:Rat)+spread m D.basic (fun r=> -(s*D.cell r j)) k=spread m D.basic (fun r=> -(s*D.cell r j)) k by grind];exact tZ t.bi (fun r h=>((F.mul (G.cell r j h E)).neg).mono oM) oM _
theorem BU(t:D.Ok m n)(G:∀x g f,D.Sol m n x g f↔(eu.init n A b (fun _=>0)).Sol m n x g f)(F:j<n):D.top j=0:=by
 obtain⟨y,M,_,_⟩:=D.lS t (fun c=>if c=j then 1 else 0) 0;have h1:=(eu.sw.1 ((G _ _ _).1 M)).2;have h:eB n (fun _=>0) y=0:=Lp.iX fun k _=>by grind
 rw[h,Lp.kU F (fun c _ E=>by rw[if_neg E];grind),if_pos rfl] at h1;grind
theorem Il{q:Rat}(E:q≠0):0< -((((-(sgI q.num):Int)):Rat)*q):=by
 by_cases h:q<0
 ·have e:sgI q.num= -1:=by unfold sgI;rw[if_pos (AV.2 h)]
  rw[e];simp;grind
 ·have t:0<q:=by grind
  have e:sgI q.num=1:=by
   have:=vR.2 t;unfold sgI;rw[if_neg oM,if_neg oM]
  rw[e];simp;grind
theorem Im{q:Rat}(t:q≠0):RL 1 (((-(sgI q.num):Int)):Rat):=by
 have h:sgI q.num= -1 \/ sgI q.num=1:=by
  have h0:q.num≠0:=fun e=>t (Rat.num_eq_zero.1 e)
  unfold sgI;by_cases h1:q.num<0
  ·rw[if_pos h1];exact .inl rfl
  ·rw[if_neg h1,if_neg h0];exact .inr rfl
 rcases h with e | e <;> rw[e] <;> (unfold RL;decide)
theorem Io(E:D.Ok m n)(O:∀x g f,D.Sol m n x g f↔(eu.init n A b c).Sol m n x g f)(U:D.Zed m n)(t:j<n)(G:D.off j<n)(R:D.top j≠0)(T:Lp.jC m n A b x):
  Lp.Unb m n A b c x (jX D j (((-(sgI (D.top j).num):Int)):Rat) m):=by
 have h:=Lp.yN E O t (((-(sgI (D.top j).num):Int)):Rat) (fun h=>absurd h oM) (fun r M F=>by rw[U r j M t F G];grind) (Il R);exact⟨T,h.1,h.2⟩
theorem Ip(t:D.Ok m n)(O:∀x g f,D.Sol m n x g f↔(eu.init n A b c).Sol m n x g f)(F:j<n)(T:D.top j<0)(G:∀r,r<m -> n <= D.basic r -> D.cell r j <= 0)(R:Lp.jC m n A b x):
  Lp.Unb m n A b c x (jX D j 1 m):=by
 have h:=Lp.yN t O F 1 (fun _=>by decide) (fun r M E=>by have:=G r M E;grind) (by grind);exact⟨R,h.1,h.2⟩
end
end
section
open Go.RowKit
open Lp (RL upd eu)
inductive iA (w:World) (m n K:Nat) (A:Nat -> Nat -> Rat) (b c:Nat -> Rat) (v:Value):Prop
 | opt (P cp Y cy q x y):v= .agg #[.int .i64 1, .string (eF q), .slice P n cp, .slice Y m cy, .slice none 0 0] -> TSA w (.slice P n cp) n (fun j=>eF (x j)) -> TSA w (.slice Y m cy) m (fun j=>eF (y j)) -> RL K q /\ RLs K n x /\ RLs K m y -> Lp.Opt m n A b c q x y -> iA w m n K A b c v
 | inf (Y cy y):v= .agg #[.int .i64 2, .string ⟨#[]⟩, .slice none 0 0, .slice Y m cy, .slice none 0 0] -> TSA w (.slice Y m cy) m (fun j=>eF (y j)) -> RLs K m y -> Lp.Inf m n A b y -> iA w m n K A b c v
 | unb (P cp R cr x d):v= .agg #[.int .i64 3, .string ⟨#[]⟩, .slice P n cp, .slice none 0 0, .slice R n cr] -> TSA w (.slice P n cp) n (fun j=>eF (x j)) -> TSA w (.slice R n cr) n (fun j=>eF (d j)) -> RLs K n x /\ RLs K n d -> Lp.Unb m n A b c x d -> iA w m n K A b c v
theorem iA.below{w w':World}{m n K:Nat}{A:Nat -> Nat -> Rat}{b c:Nat -> Rat}{v:Value}(h:iA w m n K A b c v)(F:Below w.heap.size w w'):iA w' m n K A b c v:=by
 cases h with
 | opt P M Y O q x y h1 t E G T=>exact .opt P M Y O q x y h1 (t.below F) (E.below F) G T
 | inf Y O y h1 t G E=>exact .inf Y O y h1 (t.below F) G E
 | unb P M R cr x d h1 t E G T=>exact .unb P M R cr x d h1 (t.below F) (E.below F) G T
theorem Row.nA{w:World}{g:Nat}{e:TypeId}{t E F G M v0 v1 v2 v3 v4:Value}(h:Row w g e [t,E,F,G,M]):
  Row (((((w.setCell ⟨g,0,none⟩ v0).setCell ⟨g,1,none⟩ v1).setCell ⟨g,2,none⟩ v2).setCell ⟨g,3,none⟩ v3).setCell ⟨g,4,none⟩ v4) g e [v0,v1,v2,v3,v4]:=((((h.set 0 v0).set 1 v1).set 2 v2).set 3 v3).set 4 v4
theorem iJ(w:World)(g:Nat)(v0 v1 v2 v3 v4:Value):
  w.grownBy (((((w.setCell ⟨g,0,none⟩ v0).setCell ⟨g,1,none⟩ v1).setCell ⟨g,2,none⟩ v2).setCell ⟨g,3,none⟩ v3).setCell ⟨g,4,none⟩ v4) (some g):=
 grownBy_trans (grownBy_trans (grownBy_trans (grownBy_trans (grownBy_set _ _ _ _) (grownBy_set _ _ _ _)) (grownBy_set _ _ _ _)) (grownBy_set _ _ _ _)) (grownBy_set _ _ _ _)
theorem SK.jN{w w':World}{g g' n:Nat}{e:TypeId}{cs:List Value}{s:Nat -> ByteArray}(h:SK w g n s)(E:w.grownBy w' (some g'))(F:Row w g' e cs)(t:e≠30):SK w' g n s:=by
 obtain⟨_,G⟩:=h.row;exact h.other E (fV G F (fun e'=>t e'.symm))
end
section
open Go.RowKit
open Lp (RL upd eu eB sumTo)
theorem Iq(a:Int):(Lib.decDigits a.natAbs).length <= (Lib.itoa a).length:=by
 by_cases h:a<0
 ·rw[itoa_neg h];simp
 ·rw[iW h];exact Nat.le_refl _
theorem Ir(n:Nat):n<10^ (Lib.decDigits n).length:=by have h:=qi (mO n);rw[jH] at h;exact h
theorem Iu{q:Rat}{K:Nat}(h:(fA q).length <= K):RL K q:=by
 have h1:=Iq q.num;have t:∀n k,(Lib.decDigits n).length <= k -> n<10^k:=fun n k F=>Nat.lt_of_lt_of_le (Ir n) (Nat.pow_le_pow_right dC F)
 by_cases e:q.den=1
 ·have E:fA q=Lib.itoa q.num:=by unfold fA;rw[if_pos e]
  rw[E] at h;refine⟨t _ _ oM,?_⟩;rw[e];have:=rF q.num.natAbs;exact Nat.lt_of_lt_of_le (show 1<10^1 by decide) (Nat.pow_le_pow_right dC oM)
 ·rw[qp e,List.length_append,List.length_cons] at h;exact⟨t _ _ oM,t _ _ oM⟩
theorem Iw(s:ByteArray):s.size=s.data.toList.length:=by rw[Array.length_toList];rfl
theorem iU{q:Rat}{K:Nat}{s:ByteArray}(h:s.data.toList=fA q)(t:s.size <= K):RL K q:=Iu (by rw[<- h, <- Iw];exact t)
theorem BV(q:Rat):eF q≠⟨#[]⟩:=fun h=>by
 have h1:=mP q;rw[<- jI,h] at h1
 revert h1
 decide+kernel
theorem mo{n m:Nat}{k:Nat -> Nat}{o:Nat -> ByteArray}{t:Nat -> Nat -> ByteArray}{b:Nat -> ByteArray}(h:fD n m k o t b=0):
  n <= 96 /\ m <= 256 /\ (∀i,i<m -> k i=n) /\ (∀j,j<n -> sE (o j)=0) /\ ∀i,i<m -> iw n (t i) (b i)=0:=by
 unfold fD at h;split at h
 ·cases h
 ·split at h
  ·cases h
  ·rename_i h1 F;split at h
   ·rename_i E;exact absurd h E
   ·rename_i E;exact⟨by omega,by omega,by simpa using F,kF.1 (by simpa using E),kF.1 h⟩
theorem BX{n:Nat}{t:Nat -> ByteArray}{b:ByteArray}(h:iw n t b=0):(∀j,j<n -> sE (t j)=0) /\ sE b=0:=by
 unfold iw at h;split at h
 ·rename_i h1;exact absurd h h1
 ·rename_i h1;exact⟨kF.1 (by simpa using h1),h⟩
theorem pO{n m K:Nat}{k:Nat -> Nat}{o:Nat -> ByteArray}{t:Nat -> Nat -> ByteArray}{b:Nat -> ByteArray}{A:Nat -> Nat -> Rat}{bq c:Nat -> Rat}(h0:fD n m k o t b=0)(h:jk n m o t b A bq c)
  (O:∀j,j<n -> (o j).size <= K) (R:∀i,i<m -> ∀j,j<k i -> (t i j).size <= K) (G:∀i,i<m -> (b i).size <= K):
  (∀j,j<n -> RL K (c j)) /\ (∀i,i<m -> ∀j,j<n -> RL K (A i j)) /\ ∀i,i<m -> RL K (bq i):=by
 obtain⟨_,_,M,_,_⟩:=mo h0;exact⟨fun j F=>iU (h.obj j F) (O j F),fun i E j F=>iU (h.rows i E j F) (R i E j (by rw[M i E];exact F)),fun i E=>iU (h.bounds i E) (G i E)⟩
theorem TS.other{w w':World}{v:Value}{n:Nat}{s:Nat -> ByteArray}{g:Nat}{e:TypeId}{cs:List Value}(h:TS w v n s)(R:w.grownBy w' (some g))(U:Row w g e cs)(T:∀j,j<n -> Value.string (s j) ∉ cs):TS w' v n s:=by
 obtain⟨A,c,X,h1,M,t⟩:=h;refine⟨A,c,X,h1,M,?_⟩
 rcases t with t | ⟨b,o,O,G⟩
 ·exact .inl t
 ·refine .inr ⟨b,o,O,fun j E=>fP R ?_ (G j E)⟩;rintro rfl;have F:=G j E;rw[U.cell] at F;exact T j E (List.mem_of_getElem? F)
theorem TSA.other{w w':World}{v:Value}{n:Nat}{s:Nat -> ByteArray}{g:Nat}{e:TypeId}{cs:List Value}(h:TSA w v n s)(t:w.grownBy w' (some g))(F:Row w g e cs)(E:∀j,j<n -> Value.string (s j) ∉ cs):TSA w' v n s:=⟨h.1.other t F E,h.2⟩
theorem iA.other{w w':World}{m n K:Nat}{A:Nat -> Nat -> Rat}{b c:Nat -> Rat}{v:Value}{g:Nat}{e:TypeId}{cs:List Value}(h:iA w m n K A b c v)(F:w.grownBy w' (some g))(M:Row w g e cs)(Z:∀z,Value.string z ∈ cs -> z=⟨#[]⟩):iA w' m n K A b c v:=by
 have k:∀ (n':Nat) (x:Nat -> Rat),∀j,j<n' -> Value.string (eF (x j)) ∉ cs:=fun _ x j _ X=>BV (x j) (Z _ X)
 cases h with
 | opt P O Y T q x y h1 t E G U=>exact .opt P O Y T q x y h1 (t.other F M (k n x)) (E.other F M (k m y)) G U
 | inf Y T y h1 t G E=>exact .inf Y T y h1 (t.other F M (k m y)) G E
 | unb P O R cr x d h1 t E G U=>exact .unb P O R cr x d h1 (t.other F M (k n x)) (E.other F M (k n d)) G U
theorem iA.shape{w:World}{m n K:Nat}{A:Nat -> Nat -> Rat}{b c:Nat -> Rat}{v:Value}(h:iA w m n K A b c v):∃ (kk:Int) (s:ByteArray) (t:Option Addr) (U F:Nat) (E:Option Addr) (X G:Nat) (A2:Option Addr) (Z M:Nat),v= .agg #[.int .i64 kk, .string s, .slice t U F, .slice E X G, .slice A2 Z M]:=by
 cases h with
 | opt P O Y T q x y h1=>exact⟨_,_,_,_,_,_,_,_,_,_,_,h1⟩
 | inf Y T y h1=>exact⟨_,_,_,_,_,_,_,_,_,_,_,h1⟩
 | unb P O R cr x d h1=>exact⟨_,_,_,_,_,_,_,_,_,_,_,h1⟩
def Iy(w':World)(n m Kq:Nat)(k:Nat -> Nat)(o:Nat -> ByteArray)(t:Nat -> Nat -> ByteArray)(b:Nat -> ByteArray)(e:Ending):Prop:=
 (fD n m k o t b≠0 /\ e= .returned (.tuple #[.agg #[.int .i64 0, .string ⟨#[]⟩, .slice none 0 0, .slice none 0 0, .slice none 0 0], .int .i64 (fD n m k o t b:Nat)])) \/
 (fD n m k o t b=0 /\ ∃A bq c v,jk n m o t b A bq c /\ iA w' m n Kq A bq c v /\ e= .returned (.tuple #[v, .int .i64 0]))
def lst(l:List ByteArray)(j:Nat):ByteArray:=l.getD j ⟨#[]⟩
abbrev oo:=List (List ByteArray × ByteArray)
def rwK(R:oo)(i:Nat):Nat:=(R.getD i ([],⟨#[]⟩)).1.length
def rwT(R:oo)(i j:Nat):ByteArray:=lst (R.getD i ([],⟨#[]⟩)).1 j
def rwB(R:oo)(i:Nat):ByteArray:=(R.getD i ([],⟨#[]⟩)).2
theorem mD{w:World}{g:Nat}{e:TypeId}(l:List ByteArray)(h:Row w g e (l.map Value.string))(E:l.length <= maxLen):TS w (.slice (some ⟨g,0,none⟩) l.length l.length) l.length (lst l):=by
 refine⟨_,_,rfl,Nat.le_refl _,E, .inr ⟨g,0,rfl,fun j t=> ?_⟩⟩;rw[Nat.zero_add];exact h.at_ j (by simp[lst,List.getD,t])
theorem vW{w:World}{g m c:Nat}{e:TypeId}{cs:List Value}{k:Nat -> Nat}{t:Nat -> Nat -> ByteArray}{b:Nat -> ByteArray}(h:Row w g e cs)(O:m <= c)(G:c <= maxLen)
  (R:∀i,i<m -> ∃u,cs[i*2]? =some u /\ cs[i*2+1]? =some (.string (b i)) /\ TS w u (k i) (t i)):fZ w (.slice (some ⟨g,0,none⟩) m c) m k t b:=by
 refine⟨_,_,rfl,O,G, .inr ⟨g,0,rfl,fun i M=> ?_⟩⟩;obtain⟨u,h1,E,F⟩:=R i M;rw[Nat.zero_add];exact⟨u,h.at_ _ h1,h.at_ _ E,F⟩
theorem Iz:eF 4=⟨#[52]⟩:=by kernel_rfl
theorem IA:eF 5=⟨#[53]⟩:=by kernel_rfl
theorem byt{l:List UInt8}{q v:Rat}(h:l=fA q)(t:fA v=l):q=v:=rQ (h.symm.trans t.symm)
section
variable {w:World} {K:Nat} {A:Nat -> Nat -> Rat} {b c:Nat -> Rat} {v:Value}
theorem ex1(hA:A 0 0=1 /\ A 0 1=0 /\ A 1 0=0 /\ A 1 1=1 /\ A 2 0=1 /\ A 2 1=1)(hb:b 0=2 /\ b 1=3 /\ b 2=4)(hc:c 0=1 /\ c 1=1)(h:iA w 3 2 K A b c v):
  ∃P t Y E,v= .agg #[.int .i64 1, .string ⟨#[52]⟩, .slice P 2 t, .slice Y 3 E, .slice none 0 0]:=by
 obtain⟨O,T,U,X,Z,a6⟩:=hA;obtain⟨b1,b2,b3⟩:=hb;obtain⟨c1,c2⟩:=hc
 have M:Lp.Opt 3 2 A b c 4 (fun _=>2) (fun i=>if i=2 then 1 else 0):=by
  refine⟨⟨fun i _=> ?_,fun k hk=> ?_⟩,?_,fun i hi=> ?_,?_⟩
  ·show(0:Rat) <= if i=2 then 1 else 0
   split <;> decide
  ·rcases k with _ | _ | k
   ·simp only[eB,sumTo,O,U,Z,c1];grind
   ·simp only[eB,sumTo,T,X,a6,c2];grind
   ·omega
  ·simp only[eB,sumTo,b1,b2,b3];grind
  ·rcases i with _ | _ | _ | i
   ·simp only[eB,sumTo,O,T,b1];grind
   ·simp only[eB,sumTo,U,X,b2];grind
   ·simp only[eB,sumTo,Z,a6,b3];grind
   ·omega
  ·simp only[eB,sumTo,c1,c2];grind
 cases h with
 | opt P t Y E q x y h1 h2 F hl G=>
  rw[G.eq M,Iz] at h1;exact⟨P,t,Y,E,h1⟩
 | inf Y E y h1 h2 hl F=>exact(F.no M.holds).elim
 | unb P t R cr x d h1 h2 F hl G=>exact(G.no M).elim
theorem ex2(hA:A 0 0=1 /\ A 0 1=0 /\ A 1 0=0 /\ A 1 1=1)(hb:b 0=2 /\ b 1=3)(hc:c 0=1 /\ c 1=1)(h:iA w 2 2 K A b c v):
  ∃P t Y E,v= .agg #[.int .i64 1, .string ⟨#[53]⟩, .slice P 2 t, .slice Y 2 E, .slice none 0 0]:=by
 obtain⟨O,T,U,X⟩:=hA;obtain⟨Z,b2⟩:=hb;obtain⟨c1,c2⟩:=hc
 have M:Lp.Opt 2 2 A b c 5 (fun k=>if k=0 then 2 else 3) (fun _=>1):=by
  refine⟨⟨fun i _=>by decide,fun k hk=> ?_⟩,?_,fun i hi=> ?_,?_⟩
  ·rcases k with _ | _ | k
   ·simp only[eB,sumTo,O,U,c1];grind
   ·simp only[eB,sumTo,T,X,c2];grind
   ·omega
  ·simp only[eB,sumTo,Z,b2];grind
  ·rcases i with _ | _ | i
   ·simp only[eB,sumTo,O,T,Z];grind
   ·simp only[eB,sumTo,U,X,b2];grind
   ·omega
  ·simp only[eB,sumTo,c1,c2];grind
 cases h with
 | opt P t Y E q x y h1 h2 F hl G=>
  rw[G.eq M,IA] at h1;exact⟨P,t,Y,E,h1⟩
 | inf Y E y h1 h2 hl F=>exact(F.no M.holds).elim
 | unb P t R cr x d h1 h2 F hl G=>exact(G.no M).elim
theorem ex3(hA:A 0 0=1 /\ A 1 0= -1)(hb:b 0=1 /\ b 1= -2)(h:iA w 2 1 K A b c v):
  ∃Y t,v= .agg #[.int .i64 2, .string ⟨#[]⟩, .slice none 0 0, .slice Y 2 t, .slice none 0 0]:=by
 obtain⟨T,U⟩:=hA;obtain⟨X,b2⟩:=hb
 have O:Lp.Inf 2 1 A b (fun _=>1):=by
  refine⟨⟨fun i _=>by decide,fun k hk=> ?_⟩,?_⟩
  ·obtain rfl:k=0:=oM
   simp only[eB,sumTo,T,U];grind
  ·simp only[eB,sumTo,X,b2];grind
 cases h with
 | opt P Z Y t q x y h1 F G M E=>exact(O.no E.holds).elim
 | inf Y t y h1 F M G=>exact⟨Y,t,h1⟩
 | unb P Z R cr x d h1 F G M E=>exact(O.no E.holds).elim
theorem ex4(U:A 0 0= -1)(X:b 0=0)(Z:c 0=1)(h:iA w 1 1 K A b c v):
  ∃P t R cr,v= .agg #[.int .i64 3, .string ⟨#[]⟩, .slice P 1 t, .slice none 0 0, .slice R 1 cr]:=by
 have O:Lp.Unb 1 1 A b c (fun _=>0) (fun _=>1):=by
  refine⟨fun i hi=> ?_,fun i hi=> ?_,?_⟩
  ·obtain rfl:i=0:=oM
   simp only[eB,sumTo,X];grind
  ·obtain rfl:i=0:=oM
   simp only[eB,sumTo,U];grind
  ·simp only[eB,sumTo,Z];grind
 cases h with
 | opt P t Y T q x y h1 F E M G=>exact(O.no G).elim
 | inf Y T y h1 F M E=>exact(E.no O.holds).elim
 | unb P t R cr x d h1 F E M G=>exact⟨P,t,R,cr,h1⟩
end
end
end Go.Proofs.YtdefghfjhgmpfaaGreatDoor
