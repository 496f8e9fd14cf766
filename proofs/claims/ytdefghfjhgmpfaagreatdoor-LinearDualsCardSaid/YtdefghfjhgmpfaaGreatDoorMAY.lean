/- Parts of this proof: Release RayM Ray Any RunM SolveM TextsM KnownLM. -/
import Derived.Test.YtdefghfjhgmpfaaGreatDoorMAE
import Derived.Test.YtdefghfjhgmpfaaGreatDoorMAX
import Derived.Test.YtdefghfjhgmpfaaGreatDoorMAP
import Derived.Test.YtdefghfjhgmpfaaGreatDoorMAW
import Derived.Test.YtdefghfjhgmpfaaGreatDoorMAV
import Derived.Test.YtdefghfjhgmpfaaGreatDoorMAU
namespace Go.Proofs.YtdefghfjhgmpfaaGreatDoor
open Go.Proofs.Tryz
section
open Go.RowKit
open Lp (RL upd eu)
structure Good (m n:Nat) (D0 D:eu) (k:Nat):Prop where
 ok:D.Ok m n
 sol:∀x g f,D.Sol m n x g f↔D0.Sol m n x g f
 rel:D.Rel m n k
theorem Good.lim{m n k K:Nat}{r D:eu}(h:Good m n r D k)(h0:r.Ok m n)(t:r.Lim m n K):D.Lim m n (Lp.wide m n K):=
 Lp.yZ h0 h.ok (fun x g f=>(h.sol x g f).symm) t
theorem Good.pivot{m n i j:Nat}{C D:eu}(h:Good m n C D j)(r:i<m)(t:j<n)(E:n <= D.basic i)(F:D.cell i j≠0):Good m n C (D.pivot i j) (j+1):=
 ⟨h.ok.pivot r t,fun x g f=>(eu.uW r t F).trans (h.sol x g f),h.rel.pivot t r E⟩
theorem Good.none_{m n j:Nat}{t D:eu}(h:Good m n t D j)(C:∀r,r<m -> n <= D.basic r -> D.cell r j=0):Good m n t D (j+1):=⟨h.ok,h.sol,h.rel.none_ C⟩
set_option maxRecDepth 100000 in
set_option maxHeartbeats 6400000 in
theorem BD(L:Lay)(m n K:Nat)(R:eu)(w:World)(T:fq w L m n R)(aj:R.Ok m n)(hrel:R.Rel m n 0)(aq:R.Lim m n K)(hK:Lp.wide m n K <= 100000000000)(hm:m <= 4611686018427387904)(hn:n <= 4611686018427387904):
  Calls prog 101 #[.pointer (some ⟨L.gt,0,none⟩)] w fun e w'=>e= .returned (.tuple #[]) /\ (∃D,fq w' L m n D /\ Good m n R D n) /\ Chg (L.blocks m) w w':=by
 have az:=lH aj;have ay:=lH aq;have aw:=lH hK;have ak:Hid (Good m n R R 0):=lH ⟨aj,fun _ _ _=>Iff.rfl,hrel⟩;have al:=lH T;clear aj aq hK hrel;obtain⟨sv,Av,lv,cv,tv,Bv,mv,dv,F,ae⟩:=T.st;unfold Lay.cells at F;have t:=lH F;clear F ae;have k2:=aI 2 t;have kl:=t.o.lt;clear T;go_enter func101,ntmps101;go_wp2_with fail
 clear k2 kl t
 go_loopw [9] (fun iv wr=>∃k:Nat,k <= n /\ iv= .int .i64 k /\ Hid (∃D,fq wr L m n D /\ Good m n R D k) /\ Chg (L.blocks m) w wr)
  (fun iv _=>n-(intOf iv).toNat)
 case atStart=>exact⟨0,Nat.zero_le _,rfl,lH ⟨R,al.o,ak.o⟩,Chg.refl _ _⟩
 case round=>
  clear al ak;obtain⟨k,hk,rfl,HS,a6⟩:=hrel;have ag:=lH a6;clear a6;obtain⟨wa,rfl⟩:=eX (wr);by_cases aB:((k:Nat):Int)<(n:Nat)
  ·have ai:k<n:=oM
   obtain⟨D,T,hG⟩:=HS.o;have am:=lH T;have HG:=lH hG;have ax:=lH (hG.lim az.o ay.o);clear hG HS;have a5:0<n:=oM
   rw[(am.o.ao a5).1];obtain⟨sv,Av,lv,cv,tv,Bv,mv,dv,F,ae⟩:=T.st;unfold Lay.cells at F;rw[(T.ao a5).1,(T.ao a5).2] at F;have t:=lH F;clear F ae;have k1:=aI 1 t;have kl:=t.o.lt;clear T;go_wp2_with fail
   clear k1 kl t
   go_loopw [17] (fun iv wr=>∃r:Nat,r <= m /\ iv= .int .i64 r /\ Hid (∀c,c<r -> n <= D.basic c -> D.cell c k=0) /\ Below wa.heap.size wa wr)
    (fun iv _=>m-(intOf iv).toNat)
   case atStart=>exact⟨0,Nat.zero_le _,rfl,lH (fun c O=>absurd O oM),Below.refl _ _⟩
   case round=>
    obtain⟨r,hr,rfl,HZ,a6⟩:=hrel;have V:=lH a6;have E:=lH (am.o.below a6);clear a6;by_cases a8:((r:Nat):Int)<(m:Nat)
    ·have a8:r<m:=oM
     have a7:0<m:=oM
     rw[(E.o.ab a7).1];obtain⟨sv,Av,lv,cv,tv,Bv,mv,dv,F,ae⟩:=E.o.st;unfold Lay.cells at F;rw[(E.o.ab a7).1,(E.o.ab a7).2.1,(E.o.ab a7).2.2] at F;rw[(E.o.ao a5).1,(E.o.ao a5).2] at F;have t:=lH F;clear F ae;have C0:=lH ((E.o.bas a7).at_ a8);have C1:=lH ((E.o.out a7).at_ a5 a8);obtain⟨sx,Ax,lx,cx,tx,Bx,mx,dx,an,au⟩:=((E.o.rows a5 r a8)).fO ai;have Qx:=lH an;have Vx:=lH au;clear an au;by_cases hf:¬n <= D.basic r
     ·have af:decide (n <= D.basic r)=false:=by simp;omega
      have HF:=lH hf;clear hf;go_wp2_with fail
      have C:=rG wr;have ad:=t.o.lt;have Z:=aI 0 t;have a1:=aI 1 t;have a3:=aI 4 t;have a9:=eG C0.o;have W:=C0.o;have aa:=eG C1.o;have X:=C1.o;have ac:=Qx.o.lt;obtain⟨Y,a0,a2,a4⟩:=Qx.o;have G:=lH (kC Z (kC a1 (kC a3 (kC W (kC X (kC Y (kC a0 (kC a2 (kN a4)))))))));clear ad Z a1 a3 a9 W aa X ac Y a0 a2 a4;refine rL G.o (fun i=>false) ?_;have h:=G.o _ C.o;refine tKs 0 20 h ?_;refine tKs 1 21 h ?_;refine tKs 2 22 h ?_;refine tKs 3 23 h ?_;refine tKs 4 24 h ?_;refine tKs 5 25 h ?_;refine tKs 6 26 h ?_;refine tKs 7 27 h ?_;refine tKs 8 28 h ?_;refine tKs 9 29 h ?_;refine tKs 10 30 h ?_;refine tKs 11 31 h ?_;refine tKs 12 32 h ?_;refine tUs 13 33 h ?_;refine tUs 14 34 h ?_;refine tUs 15 35 h ?_;refine tUs 16 36 h ?_;refine tUs 17 37 h ?_;refine tUs 18 38 h ?_;refine tUs 19 39 h ?_;refine tUs 20 40 h ?_;refine tUs 21 41 h ?_;refine tUs 22 42 h ?_;refine tUs 23 43 h ?_;refine tUs 24 44 h ?_;refine tKs 25 45 h ?_;refine dN ?_ _;clear h G C;clear af;go_wp2_with fail
      go_roundw
      case rel=>exact⟨r+1,by omega,by simp,lH (fun c O hn=>by by_cases e:c=r;subst e;exact absurd hn HF.o;exact HZ.o c oM hn),V.o.drew⟩
      case measure=>exact mZ
     ·have af:decide (n <= D.basic r)=true:=by simp;omega
      have HF:Hid (n <= D.basic r):=lH oM;clear hf;by_cases O:D.cell r k=0
      ·have U:(sgI (D.cell r k).num !=0)=false:=by simpa using iZ.2 O
       have HC:=lH O;have ah:=lH U;clear O U;go_wp2_with fail
       have C:=rG wr;have ad:=t.o.lt;have Z:=aI 0 t;have a1:=aI 1 t;have a3:=aI 4 t;have a9:=eG C0.o;have W:=C0.o;have aa:=eG C1.o;have X:=C1.o;have ac:=Qx.o.lt;obtain⟨Y,a0,a2,a4⟩:=Qx.o;have G:=lH (kC Z (kC a1 (kC a3 (kC W (kC X (kC Y (kC a0 (kC a2 (kN a4)))))))));clear ad Z a1 a3 a9 W aa X ac Y a0 a2 a4;refine rL G.o (fun i=>false) ?_;have h:=G.o _ C.o;refine tKs 0 20 h ?_;refine tKs 1 21 h ?_;refine tKs 2 22 h ?_;refine tKs 3 23 h ?_;refine tKs 4 24 h ?_;refine tKs 5 25 h ?_;refine tKs 6 26 h ?_;refine tKs 7 27 h ?_;refine tKs 8 28 h ?_;refine tKs 9 29 h ?_;refine tKs 10 30 h ?_;refine tKs 11 31 h ?_;refine tKs 12 32 h ?_;refine tKs 13 33 h ?_;refine tKs 14 34 h ?_;refine tKs 15 35 h ?_;refine tKs 16 36 h ?_;refine tKs 17 37 h ?_;refine tKs 18 38 h ?_;refine tKs 19 39 h ?_;refine tKs 20 40 h ?_;refine tKs 21 41 h ?_;refine tKs 22 42 h ?_;refine rD 23 (fun K hK=> ?_);go_simp;refine(fU _ (D.cell r k) _ (by exact Vx.o)).mono ?_;rintro e w1 ⟨rfl,M⟩;have M:Below wr.heap.size wr w1:=bD M;replace V:=bT V M;replace C:=bT C M;have U:=ah.o;clear h M;have h:=G.o _ C.o;refine kH hK h ?_;clear hK K;refine tKs 24 44 h ?_;refine tKs 25 45 h ?_;refine dN ?_ _;clear h G C;clear af U;go_wp2_with fail
       go_roundw
       case rel=>exact⟨r+1,by omega,by simp,lH (fun c O hn=>by by_cases e:c=r;subst e;exact HC.o;exact HZ.o c oM hn),V.o⟩
       case measure=>exact mZ
      ·have U:(sgI (D.cell r k).num !=0)=true:=by simpa using (not_congr iZ).2 O
       have HC:=lH O;have ah:=lH U;clear O U;go_wp2_with fail
       have C:=rG wr;have ad:=t.o.lt;have Z:=aI 0 t;have a1:=aI 1 t;have a3:=aI 4 t;have a9:=eG C0.o;have W:=C0.o;have aa:=eG C1.o;have X:=C1.o;have ac:=Qx.o.lt;obtain⟨Y,a0,a2,a4⟩:=Qx.o;have G:=lH (kC Z (kC a1 (kC a3 (kC W (kC X (kC Y (kC a0 (kC a2 (kN a4)))))))));clear ad Z a1 a3 a9 W aa X ac Y a0 a2 a4;refine rL G.o (fun i=>false) ?_;have h:=G.o _ C.o;refine tKs 0 20 h ?_;refine tKs 1 21 h ?_;refine tKs 2 22 h ?_;refine tKs 3 23 h ?_;refine tKs 4 24 h ?_;refine tKs 5 25 h ?_;refine tKs 6 26 h ?_;refine tKs 7 27 h ?_;refine tKs 8 28 h ?_;refine tKs 9 29 h ?_;refine tKs 10 30 h ?_;refine tKs 11 31 h ?_;refine tKs 12 32 h ?_;refine tKs 13 33 h ?_;refine tKs 14 34 h ?_;refine tKs 15 35 h ?_;refine tKs 16 36 h ?_;refine tKs 17 37 h ?_;refine tKs 18 38 h ?_;refine tKs 19 39 h ?_;refine tKs 20 40 h ?_;refine tKs 21 41 h ?_;refine tKs 22 42 h ?_;refine rD 23 (fun K hK=> ?_);go_simp;refine(fU _ (D.cell r k) _ (by exact Vx.o)).mono ?_;rintro e w1 ⟨rfl,M⟩;have M:Below wr.heap.size wr w1:=bD M;replace E:=lH (E.o.below M);replace V:=bT V M;replace C:=bT C M;have U:=ah.o;clear h M;have h:=G.o _ C.o;refine kH hK h ?_;clear hK K;refine tKs 24 44 h ?_;refine tKs 25 45 h ?_;refine dN ?_ _;clear h G C;clear af U;go_wp2_with fail
       refine(vV L m n r k _ D _ E.o a8 ai HC.o ax.o aw.out hm hn).mono ?_;rintro e wq ⟨rfl,ar,ap⟩;have aA:=lH ar;have av:=lH ((ag.o.ig V.o).trans ap (fun b hb=> .inl hb));clear ar ap;go_wp2_with fail
       go_roundw
       case rel=>exact⟨k+1,by omega,by simp,lH ⟨_,aA.o,HG.o.pivot a8 ai HF.o HC.o⟩,av.o⟩
       case measure=>exact mZ
    ·obtain rfl:m=r:=oM
     go_wp2_with fail
     go_roundw
     case rel=>exact⟨k+1,by omega,by simp,lH ⟨D,E.o,HG.o.none_ HZ.o⟩,ag.o.ig V.o⟩
     case measure=>exact mZ
  ·obtain rfl:n=k:=oM
   go_wp2_with fail
   go_returns;exact⟨rfl,HS.o,ag.o⟩
end
section
open Go.RowKit
open Lp (RL upd eu)
open Lp (sumTo spread)
def jX(D:eu)(j:Nat)(s:Rat)(k c:Nat):Rat:=(if D.off j=c then s else 0)+sumTo k (fun r=>if D.basic r=c then -(s*D.cell r j) else 0)
theorem BF{j:Nat}{D:eu}{s:Rat}(c:Nat):jX D j s 0 c=if D.off j=c then s else 0:=by
 show(if D.off j=c then s else 0)+0=_;grind
theorem I8{j:Nat}{D:eu}{s:Rat}(c:Nat):upd (fun _=>0) (D.off j) s c=jX D j s 0 c:=by
 rw[BF];by_cases e:c=D.off j
 ·subst e;rw[Lp.upd_same,if_pos rfl]
 ·rw[Lp.eT _ _ e,if_neg (fun e'=>e e'.symm)]
theorem I9{n j:Nat}{D:eu}{s:Rat}(h:n <= D.off j)(c:Nat)(r:c<n):(0:Rat)=jX D j s 0 c:=by
 rw[BF,if_neg oM]
theorem BG{n j k:Nat}{D:eu}{s:Rat}(h:n <= D.basic k)(c:Nat)(t:c<n):jX D j s k c=jX D j s (k+1) c:=by
 show _=(if D.off j=c then s else 0)+ (sumTo k (fun r=>if D.basic r=c then -(s*D.cell r j) else 0)+ (if D.basic k=c then -(s*D.cell k j) else 0));rw[if_neg (by omega:¬D.basic k=c)];show(if D.off j=c then s else 0)+sumTo k (fun r=>if D.basic r=c then -(s*D.cell r j) else 0)=_;grind
theorem BH{m n j k:Nat}{D:eu}{s:Rat}(h:D.Ok m n)(E:j<n)(t:k<m)(c:Nat):upd (jX D j s k) (D.basic k) (-(s*D.cell k j)) c=jX D j s (k+1) c:=by
 show _=(if D.off j=c then s else 0)+ (sumTo k (fun r=>if D.basic r=c then -(s*D.cell r j) else 0)+ (if D.basic k=c then -(s*D.cell k j) else 0));by_cases e:c=D.basic k
 ·subst e;rw[Lp.upd_same,if_pos rfl];have h1:sumTo k (fun r=>if D.basic r=D.basic k then -(s*D.cell r j) else 0)=0:=Lp.iX fun r F=>if_neg fun e=>by have:=h.bi r k oM t e;omega
  have C:¬D.off j=D.basic k:=fun e=>h.ne k j t E e.symm
  rw[h1,if_neg C];grind
 ·rw[Lp.eT _ _ e,if_neg (show ¬D.basic k=c from fun e'=>e e'.symm)];show(if D.off j=c then s else 0)+sumTo k (fun r=>if D.basic r=c then -(s*D.cell r j) else 0)=_;grind
end
section
open Go.RowKit
open Lp (RL upd eu)
set_option maxRecDepth 100000 in
set_option maxHeartbeats 6400000 in
theorem BJ(L:Lay)(m n j K:Nat)(D:eu)(s:Rat)(vs:Value)(w:World)(hT:fq w L m n D)(b8:D.Ok m n)(hj:j<n)(hs:eO w vs s)(b7:RL 1000000000000 s)(b6:D.Lim m n K)(U:K <= 100000000000)(hm:m <= 4398046511104)(hn:n <= 4398046511104):
  Calls prog 103 #[.pointer (some ⟨L.gt,0,none⟩), .int .i64 j,vs] w fun e w'=>∃g,e= .returned (.slice (some ⟨g,0,none⟩) n n) /\ w.heap.size <= g /\ RB w' g n (jX D j s m) /\ Below w.heap.size w w':=by
 have X:0<n:=oM
 have b5:=lH b8;have b4:=lH b7;have b3:=lH b6;clear b8 b7 b6;obtain⟨ss,As,ls,cs,ts,Bs,ms,ds,rfl⟩:=hs.shape;have F:=lH hs;have r:=lH hT;have a1:=r;clear hs hT;have E:Hid (Below w.heap.size w w):=lH (Below.refl _ _);go_enter func103,ntmps103;have aS:=eD w (.cells #[.bool ss, .slice As ls cs, .bool ts, .slice Bs ms ds] 105);have C:=hN w [.bool ss, .slice As ls cs, .bool ts, .slice Bs ms ds] 105;replace F:=lH (F.o.below aS);replace E:=bT E aS;replace r:=lH (r.o.below aS);obtain⟨w1,aD⟩:=eX (w.alloc (.cells #[.bool ss, .slice As ls cs, .bool ts, .slice Bs ms ds] 105));rw[<- aD] at F C E r;clear aS;obtain⟨sv,Av,lv,cv,tv,Bv,mv,dv,M,a4⟩:=r.o.st;unfold Lay.cells at M;rw[(r.o.ao X).1,(r.o.ao X).2] at M;have G:=lH M;clear M a4;have k0:=aI 0 G;have kl:=G.o.lt;have bn:w1.heap.size=w.heap.size+1:=by rw[aD];simp
 have bG:L.gt<w.heap.size:=by obtain⟨_,hr⟩:=a1.o.nV;exact hr.lt
 have bF:=(a1.o.off X).lt;rw[aD] at k0 kl
 go_wp2_with (at_make;refine pu _ rfl (.tmp 14) (.tmp 14) rfl _ _ n rfl rfl rfl rfl hn ?_)
 intro w2 b9 ac bm;rw[<- aD] at ac;replace ac:Below w1.heap.size w1 w2:=by rw[bn];simpa using ac
 have h:Hid (RB w2 (w.heap.size+1) n fun _=>0):=lH (by simpa using b9);clear b9 k0 kl G bm aD;replace F:=lH (F.o.below ac);replace C:=rW C ac;replace E:=bT E ac;replace r:=lH (r.o.below ac);clear ac;obtain⟨sv,Av,lv,cv,tv,Bv,mv,dv,M,a4⟩:=r.o.st;unfold Lay.cells at M;rw[(r.o.ao X).1,(r.o.ao X).2] at M;have G:=lH M;clear M a4;have T:=lH ((r.o.off X).at_ hj);have bH:((j:Nat):Int)<(n:Nat):=oM
 by_cases Y:D.off j<n
 ·have bl:((D.off j:Nat):Int)<(n:Nat):=oM
  have ah:decide (D.off j<n)=true:=by simpa using Y
  obtain⟨sy,Ay,ly,cy,ty,By,my,dy,aa,ad⟩:=(h.o).fO Y;have O:=lH aa;have Vy:=lH ad;clear aa ad;clear Vy;obtain⟨aJ,aK,aL,aM⟩:=O.o;have aN:=O.o.lt;clear O;have aE:=h.o.free (D.off j*4);have aF:=h.o.free (D.off j*4+1);have aG:=h.o.free (D.off j*4+2);have aH:=h.o.free (D.off j*4+3);obtain⟨a6,a7,b2⟩:=aT3 G.o;have a9:=G.o.lt;have a5:=T.o;have a8:=eG T.o;obtain⟨bo,bp,bq,br⟩:=aT4 C.o;have bs:=C.o.lt;have bk:w.heap.size≠w.heap.size+1:=oM
  clear G T;clear r;have aP:World.grownBy w2 ((((w2.setCell ⟨(w.heap.size+1),(D.off j)*4,none⟩ (.bool ss)).setCell ⟨(w.heap.size+1),(D.off j)*4+1,none⟩ (.slice As ls cs)).setCell ⟨(w.heap.size+1),(D.off j)*4+2,none⟩ (.bool ts)).setCell ⟨(w.heap.size+1),(D.off j)*4+3,none⟩ (.slice Bs ms ds)) (some (w.heap.size+1)):=il _ _ _ _ _ _ _ _ _ _;obtain⟨bB,ba⟩:=h.o.row;have bv:=C.o.lt;have bu:=h.o.lt;have bd:=h.o.set Y F.o;replace F:=lH (F.o.other aP ba ic);replace C:=lH (C.o.other aP oM);replace E:=lH (E.o.grown aP E.o.size (by first | (simp;done) | (simp;omega)));replace h:=lH bd;obtain⟨aT,aZ⟩:=eX (((((w2.setCell ⟨(w.heap.size+1),(D.off j)*4,none⟩ (.bool ss)).setCell ⟨(w.heap.size+1),(D.off j)*4+1,none⟩ (.slice As ls cs)).setCell ⟨(w.heap.size+1),(D.off j)*4+2,none⟩ (.bool ts)).setCell ⟨(w.heap.size+1),(D.off j)*4+3,none⟩ (.slice Bs ms ds)));rw[<- aZ] at F C h E;clear aP ba bd bv bu;go_wp2_with fail
  rw[<- aZ];clear aZ aJ aK aL aM aN aE aF aG aH bk a6 a7 b2 a9 a5 a8 bo bp bq br bs;replace h:=lH (h.o.congr (fun c _=>I8 c));clear ah bl Y;have r:=lH (a1.o.below E.o);obtain⟨sv,Av,lv,cv,tv,Bv,mv,dv,M,a4⟩:=r.o.st;unfold Lay.cells at M;rw[(r.o.ao X).1,(r.o.ao X).2] at M;have G:=lH M;clear M a4;have k1:=aI 1 G;have kl:=G.o.lt;go_wp2_with fail
  clear k1 kl;have aU:=r;have ai:=E;have aj:=C;have ak:=F;clear r E C F G
  go_loopw [38] (fun iv wr=>∃k:Nat,k <= m /\ iv= .int .i64 k /\ RB wr (w.heap.size+1) n (jX D j s k) /\ Below w.heap.size w wr /\ Row wr w.heap.size 105 [.bool ss, .slice As ls cs, .bool ts, .slice Bs ms ds] /\ eO wr (.agg #[.bool ss, .slice As ls cs, .bool ts, .slice Bs ms ds]) s)
   (fun iv _=>m-(intOf iv).toNat)
  case atStart=>exact⟨0,Nat.zero_le _,rfl,h.o,ai.o,aj.o,ak.o⟩
  case round=>
   clear h aU ai aj ak;obtain⟨k,hk,rfl,az,ag,aA,aC⟩:=hrel;have h:=lH az;have E:=lH ag;have C:=lH aA;have F:=lH aC;have r:=lH (a1.o.below ag);clear az ag aA aC;by_cases bj:((k:Nat):Int)<(m:Nat)
   ·have a0:k<m:=oM
    have W:0<m:=oM
    have bh:=(a1.o.bas W).lt;have bi:=(a1.o.con W).lt;rw[(r.o.ab W).1];obtain⟨sv,Av,lv,cv,tv,Bv,mv,dv,M,a4⟩:=r.o.st;unfold Lay.cells at M;rw[(r.o.ab W).1,(r.o.ab W).2.1,(r.o.ab W).2.2] at M;rw[(r.o.ao X).1,(r.o.ao X).2] at M;have G:=lH M;clear M a4;have T:=lH ((r.o.bas W).at_ a0);have C1:=lH ((r.o.out W).at_ X a0);obtain⟨sx,Ax,lx,cx,tx,Bx,mx,dx,ay,aB⟩:=((r.o.rows X k a0)).fO hj;have Qx:=lH ay;have Vx:=lH aB;clear ay aB;clear r;by_cases Y:¬D.basic k<n
    ·have ah:decide (D.basic k<n)=false:=by simp;omega
     have HF:=lH Y;clear Y;obtain⟨a6,a7⟩:=aT2 G.o;have a9:=G.o.lt;have a5:=T.o;have a8:=eG T.o;go_wp2_with fail
     go_roundw
     case rel=>exact⟨k+1,by omega,by simp,h.o.congr (fun c hc=>BG (by have:=HF.o;omega) c hc),E.o,C.o,F.o⟩
     case measure=>exact mZ
    ·have af:D.basic k<n:=oM
     have ah:decide (D.basic k<n)=true:=by simpa using af
     have bg:((D.basic k:Nat):Int)<(n:Nat):=oM
     clear Y;obtain⟨sy,Ay,ly,cy,ty,By,my,dy,aa,ad⟩:=(h.o).fO af;have O:=lH aa;have Vy:=lH ad;clear aa ad;clear Vy;obtain⟨a6,a7⟩:=aT2 G.o;have a9:=G.o.lt;have a5:=T.o;have a8:=eG T.o;go_wp2_with fail
     clear a6 a7 a9 a5 a8;go_wp2_with fail
     have V:=rG wr;have aY:=G.o.lt;have ap:=aI 4 G;have aV:=eG C1.o;have al:=C1.o;have aW:=Qx.o.lt;obtain⟨am,aq,au,aw⟩:=Qx.o;have aX:=C.o.lt;obtain⟨an,ar,av,ax⟩:=aT4 C.o;have Z:=lH (kC ap (kC al (kC am (kC aq (kC au (kC aw (kC an (kC ar (kC av (kN ax))))))))));clear aY ap aV al aW am aq au aw aX an ar av ax;refine rL Z.o (fun i=>decide (16 <= i)) ?_;have t:=Z.o _ V.o;refine tKs 0 49 t ?_;refine tKs 1 50 t ?_;refine tKs 2 51 t ?_;refine tKs 3 52 t ?_;refine tKs 4 53 t ?_;refine tKs 5 54 t ?_;refine tKs 6 55 t ?_;refine tKs 7 56 t ?_;refine tKs 8 57 t ?_;refine tKs 9 58 t ?_;refine tKs 10 59 t ?_;refine tKs 11 60 t ?_;refine tKs 12 61 t ?_;refine rD 13 (fun K U=> ?_);go_simp;refine(pq _ _ s (D.cell k j) _ (by exact F.o) (by exact Vx.o) b4.o ((b3.o.cell k j a0 hj).mono oM)).mono ?_;rintro e ae ⟨vr,rfl,hr,R⟩;have R:Below wr.heap.size wr ae:=bD R;obtain⟨sr,Ar,lr,cr,tr,Br,mr,dr,rfl⟩:=hr.shape;have Vr:=lH hr;clear hr;replace F:=lH (F.o.below R);replace C:=rW C R;replace O:=lH (O.o.below R);replace h:=lH (h.o.below R);replace E:=bT E R;replace V:=bT V R;clear t R;have t:=Z.o _ V.o;refine kH U t ?_;clear U K;refine rD 14 (fun K U=> ?_);go_simp;refine(nU _ (s*D.cell k j) _ (by exact Vr.o)).mono ?_;rintro e aO ⟨vq,rfl,hq,a3⟩;have a3:Below ae.heap.size ae aO:=bD a3;obtain⟨sq,Aq,lq,cq,tq,Bq,mq,dq,rfl⟩:=hq.shape;have Vq:=lH hq;clear hq;replace F:=lH (F.o.below a3);replace C:=rW C a3;replace O:=lH (O.o.below a3);replace h:=lH (h.o.below a3);replace E:=bT E a3;replace V:=bT V a3;have aJ:=O.o.1;have aK:=O.o.2.1;have aL:=O.o.2.2.1;have aM:=O.o.2.2.2;have aN:=O.o.lt;have aE:=h.o.free (D.basic k*4);have aF:=h.o.free (D.basic k*4+1);have aG:=h.o.free (D.basic k*4+2);have aH:=h.o.free (D.basic k*4+3);clear t a3;have t:=Z.o _ V.o;refine kH U t ?_;clear U K;refine tKs 15 64 t ?_;refine rD 16 (fun K U=> ?_);go_simp;refine kL U ?_;clear U K;refine dN ?_ _;clear t Z V;clear aJ aK aL aM aN aE aF aG aH G T C1 Qx Vx Vr;clear O;have aR:World.grownBy aO ((((aO.setCell ⟨(w.heap.size+1),(D.basic k)*4,none⟩ (.bool sq)).setCell ⟨(w.heap.size+1),(D.basic k)*4+1,none⟩ (.slice Aq lq cq)).setCell ⟨(w.heap.size+1),(D.basic k)*4+2,none⟩ (.bool tq)).setCell ⟨(w.heap.size+1),(D.basic k)*4+3,none⟩ (.slice Bq mq dq)) (some (w.heap.size+1)):=il _ _ _ _ _ _ _ _ _ _;obtain⟨bE,bc⟩:=h.o.row;have bA:=C.o.lt;have bz:=h.o.lt;have bf:=h.o.set af Vq.o;replace F:=lH (F.o.other aR bc ic);replace C:=lH (C.o.other aR oM);replace E:=lH (E.o.grown aR E.o.size (by first | (simp;done) | (simp;omega)));replace h:=lH bf;obtain⟨bI,b1⟩:=eX (((((aO.setCell ⟨(w.heap.size+1),(D.basic k)*4,none⟩ (.bool sq)).setCell ⟨(w.heap.size+1),(D.basic k)*4+1,none⟩ (.slice Aq lq cq)).setCell ⟨(w.heap.size+1),(D.basic k)*4+2,none⟩ (.bool tq)).setCell ⟨(w.heap.size+1),(D.basic k)*4+3,none⟩ (.slice Bq mq dq)));rw[<- b1] at F C h E;clear aR bc bf bA bz;rw[<- b1];clear b1;go_wp2_with fail
     go_roundw
     case rel=>exact⟨k+1,by omega,by simp,h.o.congr (fun c _=>BH b5.o hj a0 c),E.o,C.o,F.o⟩
     case measure=>exact mZ
   ·obtain rfl:m=k:=oM
    go_wp2_with fail
    go_returns;exact⟨_,rfl,Nat.le_succ _,h.o,E.o⟩
 ·have ah:decide (D.off j<n)=false:=by simp;omega
  obtain⟨a6,a7,b2⟩:=aT3 G.o;have a9:=G.o.lt;have a5:=T.o;have a8:=eG T.o;go_wp2_with fail
  clear a6 a7 b2 a9 a5 a8;clear ah T;replace h:=lH (h.o.congr (fun c hc=>I9 (j:=j) (s:=s) (by omega:n <= D.off j) c hc));clear Y;have aU:=r;have ai:=E;have aj:=C;have ak:=F;clear r E C F G
  go_loopw [38] (fun iv wr=>∃k:Nat,k <= m /\ iv= .int .i64 k /\ RB wr (w.heap.size+1) n (jX D j s k) /\ Below w.heap.size w wr /\ Row wr w.heap.size 105 [.bool ss, .slice As ls cs, .bool ts, .slice Bs ms ds] /\ eO wr (.agg #[.bool ss, .slice As ls cs, .bool ts, .slice Bs ms ds]) s)
   (fun iv _=>m-(intOf iv).toNat)
  case atStart=>exact⟨0,Nat.zero_le _,rfl,h.o,ai.o,aj.o,ak.o⟩
  case round=>
   clear h aU ai aj ak;obtain⟨k,hk,rfl,az,ag,aA,aC⟩:=hrel;have h:=lH az;have E:=lH ag;have C:=lH aA;have F:=lH aC;have r:=lH (a1.o.below ag);clear az ag aA aC;by_cases bj:((k:Nat):Int)<(m:Nat)
   ·have a0:k<m:=oM
    have W:0<m:=oM
    have bh:=(a1.o.bas W).lt;have bi:=(a1.o.con W).lt;rw[(r.o.ab W).1];obtain⟨sv,Av,lv,cv,tv,Bv,mv,dv,M,a4⟩:=r.o.st;unfold Lay.cells at M;rw[(r.o.ab W).1,(r.o.ab W).2.1,(r.o.ab W).2.2] at M;rw[(r.o.ao X).1,(r.o.ao X).2] at M;have G:=lH M;clear M a4;have T:=lH ((r.o.bas W).at_ a0);have C1:=lH ((r.o.out W).at_ X a0);obtain⟨sx,Ax,lx,cx,tx,Bx,mx,dx,ay,aB⟩:=((r.o.rows X k a0)).fO hj;have Qx:=lH ay;have Vx:=lH aB;clear ay aB;clear r;by_cases Y:¬D.basic k<n
    ·have ah:decide (D.basic k<n)=false:=by simp;omega
     have HF:=lH Y;clear Y;obtain⟨a6,a7⟩:=aT2 G.o;have a9:=G.o.lt;have a5:=T.o;have a8:=eG T.o;go_wp2_with fail
     go_roundw
     case rel=>exact⟨k+1,by omega,by simp,h.o.congr (fun c hc=>BG (by have:=HF.o;omega) c hc),E.o,C.o,F.o⟩
     case measure=>exact mZ
    ·have af:D.basic k<n:=oM
     have ah:decide (D.basic k<n)=true:=by simpa using af
     have bg:((D.basic k:Nat):Int)<(n:Nat):=oM
     clear Y;obtain⟨sy,Ay,ly,cy,ty,By,my,dy,aa,ad⟩:=(h.o).fO af;have O:=lH aa;have Vy:=lH ad;clear aa ad;clear Vy;obtain⟨a6,a7⟩:=aT2 G.o;have a9:=G.o.lt;have a5:=T.o;have a8:=eG T.o;go_wp2_with fail
     clear a6 a7 a9 a5 a8;go_wp2_with fail
     have V:=rG wr;have aY:=G.o.lt;have ap:=aI 4 G;have aV:=eG C1.o;have al:=C1.o;have aW:=Qx.o.lt;obtain⟨am,aq,au,aw⟩:=Qx.o;have aX:=C.o.lt;obtain⟨an,ar,av,ax⟩:=aT4 C.o;have Z:=lH (kC ap (kC al (kC am (kC aq (kC au (kC aw (kC an (kC ar (kC av (kN ax))))))))));clear aY ap aV al aW am aq au aw aX an ar av ax;refine rL Z.o (fun i=>decide (16 <= i)) ?_;have t:=Z.o _ V.o;refine tKs 0 49 t ?_;refine tKs 1 50 t ?_;refine tKs 2 51 t ?_;refine tKs 3 52 t ?_;refine tKs 4 53 t ?_;refine tKs 5 54 t ?_;refine tKs 6 55 t ?_;refine tKs 7 56 t ?_;refine tKs 8 57 t ?_;refine tKs 9 58 t ?_;refine tKs 10 59 t ?_;refine tKs 11 60 t ?_;refine tKs 12 61 t ?_;refine rD 13 (fun K U=> ?_);go_simp;refine(pq _ _ s (D.cell k j) _ (by exact F.o) (by exact Vx.o) b4.o ((b3.o.cell k j a0 hj).mono oM)).mono ?_;rintro e aT ⟨vr,rfl,hr,a2⟩;have a2:Below wr.heap.size wr aT:=bD a2;obtain⟨sr,Ar,lr,cr,tr,Br,mr,dr,rfl⟩:=hr.shape;have Vr:=lH hr;clear hr;replace F:=lH (F.o.below a2);replace C:=rW C a2;replace O:=lH (O.o.below a2);replace h:=lH (h.o.below a2);replace E:=bT E a2;replace V:=bT V a2;clear t a2;have t:=Z.o _ V.o;refine kH U t ?_;clear U K;refine rD 14 (fun K U=> ?_);go_simp;refine(nU _ (s*D.cell k j) _ (by exact Vr.o)).mono ?_;rintro e ae ⟨vq,rfl,hq,R⟩;have R:Below aT.heap.size aT ae:=bD R;obtain⟨sq,Aq,lq,cq,tq,Bq,mq,dq,rfl⟩:=hq.shape;have Vq:=lH hq;clear hq;replace F:=lH (F.o.below R);replace C:=rW C R;replace O:=lH (O.o.below R);replace h:=lH (h.o.below R);replace E:=bT E R;replace V:=bT V R;have aJ:=O.o.1;have aK:=O.o.2.1;have aL:=O.o.2.2.1;have aM:=O.o.2.2.2;have aN:=O.o.lt;have aE:=h.o.free (D.basic k*4);have aF:=h.o.free (D.basic k*4+1);have aG:=h.o.free (D.basic k*4+2);have aH:=h.o.free (D.basic k*4+3);clear t R;have t:=Z.o _ V.o;refine kH U t ?_;clear U K;refine tKs 15 64 t ?_;refine rD 16 (fun K U=> ?_);go_simp;refine kL U ?_;clear U K;refine dN ?_ _;clear t Z V;clear aJ aK aL aM aN aE aF aG aH G T C1 Qx Vx Vr;clear O;have aQ:World.grownBy ae ((((ae.setCell ⟨(w.heap.size+1),(D.basic k)*4,none⟩ (.bool sq)).setCell ⟨(w.heap.size+1),(D.basic k)*4+1,none⟩ (.slice Aq lq cq)).setCell ⟨(w.heap.size+1),(D.basic k)*4+2,none⟩ (.bool tq)).setCell ⟨(w.heap.size+1),(D.basic k)*4+3,none⟩ (.slice Bq mq dq)) (some (w.heap.size+1)):=il _ _ _ _ _ _ _ _ _ _;obtain⟨bC,bb⟩:=h.o.row;have bx:=C.o.lt;have bw:=h.o.lt;have be:=h.o.set af Vq.o;replace F:=lH (F.o.other aQ bb ic);replace C:=lH (C.o.other aQ oM);replace E:=lH (E.o.grown aQ E.o.size (by first | (simp;done) | (simp;omega)));replace h:=lH be;obtain⟨aO,b0⟩:=eX (((((ae.setCell ⟨(w.heap.size+1),(D.basic k)*4,none⟩ (.bool sq)).setCell ⟨(w.heap.size+1),(D.basic k)*4+1,none⟩ (.slice Aq lq cq)).setCell ⟨(w.heap.size+1),(D.basic k)*4+2,none⟩ (.bool tq)).setCell ⟨(w.heap.size+1),(D.basic k)*4+3,none⟩ (.slice Bq mq dq)));rw[<- b0] at F C h E;clear aQ bb be bx bw;rw[<- b0];clear b0;go_wp2_with fail
     go_roundw
     case rel=>exact⟨k+1,by omega,by simp,h.o.congr (fun c _=>BH b5.o hj a0 c),E.o,C.o,F.o⟩
     case measure=>exact mZ
   ·obtain rfl:m=k:=oM
    go_wp2_with fail
    go_returns;exact⟨_,rfl,Nat.le_succ _,h.o,E.o⟩
end
section
open Go.RowKit
open Lp (RL upd eu sumTo spread)
section
variable {m n:Nat} {D:eu} {row col out:Int}
theorem Ia(h:tX n m D row col)(R:row<0)(_hc:col<0):D.kV m n (n+m):=by
 obtain⟨T,h⟩:=h
 rcases h with ⟨h1,t,C,F⟩ | ⟨y,h1,t,_⟩
 ·rcases t with ⟨_,t⟩ | ⟨x,t,_⟩
  ·refine⟨fun r M E _=>t r M E,fun c G E _=>F c G E fun l O=> ?_⟩
   rcases C with ⟨_,C⟩ | ⟨x,C,_⟩ <;> omega
  ·omega
 ·omega
theorem Ib(h:tX n m D row col)(Y:0 <= row):∃x:Nat,row=(x:Nat) /\ x<m /\ n <= D.basic x /\ D.con x<0 /\ D.kV m n (D.basic x):=by
 obtain⟨Z,h⟩:=h
 rcases h with ⟨h1,t,C,G⟩ | ⟨y,h1,_⟩
 ·rcases t with ⟨t,_⟩ | ⟨x,t,V,M,T,R⟩
  ·omega
  ·refine⟨x,t,V,M,T,fun r U E F=>R r U E F,fun c O E F=>G c O E fun l X=> ?_⟩
   rcases C with ⟨C,_⟩ | ⟨x',C,W⟩
   ·omega
   ·obtain rfl:x=x':=oM
    omega
 ·omega
theorem Ic(h:tX n m D row col)(_:row<0)(V:0 <= col):∃y:Nat,col=(y:Nat) /\ y<n /\ n <= D.off y /\ D.top y<0 /\ D.kV m n (D.off y):=by
 obtain⟨W,h⟩:=h
 rcases h with ⟨h1,_⟩ | ⟨y,h1,E,_,F,G,M,O,R⟩
 ·omega
 ·exact⟨y,E,F,G,M,fun r U C t=>R r U C t,fun c T C t=>O c T C t⟩
theorem Ie(h:jw n n D.off (D.cell m) out)(r:out<0):∀c,c<n -> n <= D.off c -> 0 <= D.cell m c:=by
 rcases h with ⟨_,h⟩ | ⟨x,h,_⟩
 ·exact h
 ·omega
theorem Ig{i:Nat}(h:jw n n D.off (D.cell i) out)(O:0 <= out)(G:i<m)(C:n <= D.basic i)(E:D.con i<0)(F:D.kV m n (D.basic i)):∃j:Nat,out=(j:Nat) /\ D.kr m n i j:=by
 rcases h with ⟨h,_⟩ | ⟨x,h,M,h1,r,t⟩
 ·omega
 ·exact⟨x,h, .row G M C E F h1 r t⟩
theorem Ih{j:Nat}(h:jW n m D.basic (fun r=>D.cell r j) out)(t:out<0):∀r,r<m -> n <= D.basic r -> D.cell r j <= 0:=by
 rcases h with ⟨_,h⟩ | ⟨x,h,_⟩
 ·exact h
 ·omega
theorem Ii{j:Nat}(h:jW n m D.basic (fun r=>D.cell r j) out)(R:0 <= out)(M:j<n)(E:n <= D.off j)(F:D.top j<0)(G:D.kV m n (D.off j)):∃i:Nat,out=(i:Nat) /\ D.kr m n i j:=by
 rcases h with ⟨h,_⟩ | ⟨x,h,O,h1,t,C⟩
 ·omega
 ·exact⟨x,h, .col O M E F G h1 t C⟩
end
def mf(n:Nat)(o:Nat -> Nat)(f b:Nat -> Rat)(k i:Nat):Rat:=b i+sumTo k (fun c=>if o c=n+i then f c else 0)
theorem BK(n:Nat)(o:Nat -> Nat)(f b:Nat -> Rat)(i:Nat):b i=mf n o f b 0 i:=by
 show _=b i+0;grind
theorem BL{n k:Nat}{o:Nat -> Nat}(f b:Nat -> Rat)(h:o k<n)(i:Nat):mf n o f b k i=mf n o f b (k+1) i:=by
 show b i+sumTo k _=b i+ (sumTo k _+ (if o k=n+i then f k else 0));rw[if_neg oM];grind
theorem BM{m n k:Nat}{D:eu}(r:D.Ok m n)(f b:Nat -> Rat)(C:k<n)(h:n <= D.off k)(t:b (D.off k-n)=0)(i:Nat):upd (mf n D.off f b k) (D.off k-n) (f k) i=mf n D.off f b (k+1) i:=by
 show _=b i+ (sumTo k _+ (if D.off k=n+i then f k else 0));by_cases e:i=D.off k-n
 ·subst e;rw[Lp.upd_same,if_pos oM,t,Lp.iX fun c E=>if_neg fun e=>by have:=r.oi c k oM C oM;omega];grind
 ·rw[Lp.eT _ _ e,if_neg oM];show b i+sumTo k _=_;grind
inductive tY (w':World) (L:Lay) (m n:Nat) (D:eu) (e:Ending):Prop
 | opt (s A l c t B d f P cp Y cy):e= .returned (.tuple #[.agg #[.int .i64 1, .bool s, .slice A l c, .bool t, .slice B d f, .slice P n cp, .slice Y m cy, .slice none 0 0], .int .i64 (-1)]) ->
   eO w' (.agg #[.bool s, .slice A l c, .bool t, .slice B d f]) D.val -> eZ w' (.slice P n cp) n (spread m D.basic D.con) -> eZ w' (.slice Y m cy) m (fun i=>spread n D.off D.top (n+i)) -> D.kV m n (n+m) -> tY w' L m n D e
 | inf (i:Nat) (Y cy):e= .returned (.tuple #[.agg #[.int .i64 2, .bool false, .slice none 0 0, .bool false, .slice none 0 0, .slice none 0 0, .slice Y m cy, .slice none 0 0], .int .i64 (-1)]) ->
   eZ w' (.slice Y m cy) m (fun k=>(if D.basic i=n+k then 1 else 0)+spread n D.off (D.cell i) (n+k)) -> i<m -> n <= D.basic i -> D.con i<0 -> (∀c,c<n -> n <= D.off c -> 0 <= D.cell i c) -> tY w' L m n D e
 | unb (j:Nat):e= .returned (.tuple #[.agg #[.int .i64 3, .bool false, .slice none 0 0, .bool false, .slice none 0 0, .slice none 0 0, .slice none 0 0, .slice none 0 0], .int .i64 (j:Nat)]) ->
   j<n -> n <= D.off j -> D.top j<0 -> (∀r,r<m -> n <= D.basic r -> D.cell r j <= 0) -> tY w' L m n D e
end
section
open Go.RowKit
open Lp (RL upd eu sumTo spread eB)
def RLs(K n:Nat)(f:Nat -> Rat):Prop:=∀j,j<n -> RL K (f j)
theorem RLs.mono{K r n:Nat}{f:Nat -> Rat}(h:RLs K n f)(t:K <= r):RLs r n f:=fun j C=>(h j C).mono t
theorem tZ{K n:Nat}{o:Nat -> Nat}{a:Nat -> Rat}(C:∀c d,c<n -> d<n -> o c=o d -> c=d)(h:∀c,c<n -> RL K (a c))(t:0<K)(k:Nat):RL K (spread n o a k):=by
 by_cases e:∃c,c<n /\ o c=k
 ·obtain⟨c,r,rfl⟩:=e;rw[Lp.qF C a r];exact h c r
 ·rw[Lp.nR a fun c r e'=>e ⟨c,r,e'⟩];exact RL.zero.mono t
inductive nz (w:World) (m n K:Nat) (A:Nat -> Nat -> Rat) (b c:Nat -> Rat) (v:Value):Prop
 | opt (s A' l c' t B d f P cp Y cy q x y):v= .agg #[.int .i64 1, .bool s, .slice A' l c', .bool t, .slice B d f, .slice P n cp, .slice Y m cy, .slice none 0 0] ->
   eO w (.agg #[.bool s, .slice A' l c', .bool t, .slice B d f]) q -> eZ w (.slice P n cp) n x -> eZ w (.slice Y m cy) m y -> RL K q -> RLs K n x -> RLs K m y -> Lp.Opt m n A b c q x y -> nz w m n K A b c v
 | inf (Y cy y):v= .agg #[.int .i64 2, .bool false, .slice none 0 0, .bool false, .slice none 0 0, .slice none 0 0, .slice Y m cy, .slice none 0 0] ->
   eZ w (.slice Y m cy) m y -> RLs K m y -> Lp.Inf m n A b y -> nz w m n K A b c v
 | unb (P cp R cr x d):v= .agg #[.int .i64 3, .bool false, .slice none 0 0, .bool false, .slice none 0 0, .slice P n cp, .slice none 0 0, .slice R n cr] ->
   eZ w (.slice P n cp) n x -> eZ w (.slice R n cr) n d -> RLs K n x -> RLs K n d -> Lp.Unb m n A b c x d -> nz w m n K A b c v
theorem nz.below{w w':World}{m n K:Nat}{A:Nat -> Nat -> Rat}{b c:Nat -> Rat}{v:Value}(h:nz w m n K A b c v)(r:Below w.heap.size w w'):nz w' m n K A b c v:=by
 cases h with
 | opt s A' l c' t B d f P G Y M q x y h1 C E F O T U V=>exact .opt s A' l c' t B d f P G Y M q x y h1 (C.below r) (E.below r) (F.below r) O T U V
 | inf Y M y h1 C E F=>exact .inf Y M y h1 (C.below r) E F
 | unb P G R cr x d h1 C E F O T=>exact .unb P G R cr x d h1 (C.below r) (E.below r) F O T
section
variable {w:World} {m n K j i:Nat} {A:Nat -> Nat -> Rat} {b c x:Nat -> Rat} {D:eu}
theorem Ij(h:D.Lim m n K):RL (K+1) D.val:=h.val.mono oM
theorem BP(h:D.Ok m n)(t:D.Lim m n K):RLs (K+1) n (spread m D.basic D.con):=fun k _=>tZ h.bi (fun r C=>(t.con r C).mono oM) oM k
theorem Ik(h:D.Ok m n)(t:D.Lim m n K):RLs (K+1) m (fun i=>spread n D.off D.top (n+i)):=fun k _=>tZ h.oi (fun r C=>(t.top r C).mono oM) oM (n+k)
theorem BR(h:D.Ok m n)(E:D.Lim m n K)(t:i<m):RLs (K+1) m (fun k=>(if D.basic i=n+k then 1 else 0)+spread n D.off (D.cell i) (n+k)):=fun k _=>by
 show RL (K+1) ((if D.basic i=n+k then 1 else 0)+spread n D.off (D.cell i) (n+k));by_cases e:D.basic i=n+k
 ·rw[if_pos e,Lp.nR _ fun c C e'=>h.ne i c t C (e.trans e'.symm)];rw[show(1:Rat)+0=1 by grind];exact RL.one.mono oM
 ·rw[if_neg e,show(0:Rat)+spread n D.off (D.cell i) (n+k)=spread n D.off (D.cell i) (n+k) by grind];exact tZ h.oi (fun r F=>(E.cell i r t F).mono oM) oM _
theorem BS{s:Rat}(t:D.Ok m n)(F:D.Lim m n K)(C:j<n)(E:RL 1 s):RLs (K+1) n (jX D j s m):=fun k _=>by
 show RL (K+1) ((if D.off j=k then s else 0)+spread m D.basic (fun r=> -(s*D.cell r j)) k);by_cases e:D.off j=k
 ·rw[if_pos e,Lp.nR _ fun r h e'=>t.ne r j h C (e'.trans e.symm)];rw[show s+0=s by grind];exact E.mono oM
 ·rw[if_neg e,show(0:Rat)+spread m D.basic (fun r=> -(s*D.cell r j)) k=spread m D.basic (fun r=> -(s*D.cell r j)) k by grind];exact tZ t.bi (fun r h=>((E.mul (F.cell r j h C)).neg).mono oM) oM _
theorem BU(r:D.Ok m n)(E:∀x g f,D.Sol m n x g f↔(eu.init n A b (fun _=>0)).Sol m n x g f)(C:j<n):D.top j=0:=by
 obtain⟨y,F,_,_⟩:=D.lS r (fun c=>if c=j then 1 else 0) 0;have h1:=(eu.sw.1 ((E _ _ _).1 F)).2;have h:eB n (fun _=>0) y=0:=Lp.iX fun k _=>by grind
 rw[h,Lp.kU C (fun c _ t=>by rw[if_neg t];grind),if_pos rfl] at h1;grind
theorem Il{q:Rat}(t:q≠0):0< -((((-(sgI q.num):Int)):Rat)*q):=by
 by_cases h:q<0
 ·have e:sgI q.num= -1:=by unfold sgI;rw[if_pos (AV.2 h)]
  rw[e];simp;grind
 ·have r:0<q:=by grind
  have e:sgI q.num=1:=by
   have:=vR.2 r;unfold sgI;rw[if_neg oM,if_neg oM]
  rw[e];simp;grind
theorem Im{q:Rat}(r:q≠0):RL 1 (((-(sgI q.num):Int)):Rat):=by
 have h:sgI q.num= -1 \/ sgI q.num=1:=by
  have h0:q.num≠0:=fun e=>r (Rat.num_eq_zero.1 e)
  unfold sgI;by_cases h1:q.num<0
  ·rw[if_pos h1];exact .inl rfl
  ·rw[if_neg h1,if_neg h0];exact .inr rfl
 rcases h with e | e <;> rw[e] <;> (unfold RL;decide)
theorem Io(C:D.Ok m n)(M:∀x g f,D.Sol m n x g f↔(eu.init n A b c).Sol m n x g f)(T:D.Zed m n)(t:j<n)(F:D.off j<n)(O:D.top j≠0)(R:Lp.jC m n A b x):
  Lp.Unb m n A b c x (jX D j (((-(sgI (D.top j).num):Int)):Rat) m):=by
 have h:=Lp.yN C M t (((-(sgI (D.top j).num):Int)):Rat) (fun h=>absurd h oM) (fun r G E=>by rw[T r j G t E F];grind) (Il O);exact⟨R,h.1,h.2⟩
theorem Ip(t:D.Ok m n)(M:∀x g f,D.Sol m n x g f↔(eu.init n A b c).Sol m n x g f)(E:j<n)(R:D.top j<0)(F:∀r,r<m -> n <= D.basic r -> D.cell r j <= 0)(O:Lp.jC m n A b x):
  Lp.Unb m n A b c x (jX D j 1 m):=by
 have h:=Lp.yN t M E 1 (fun _=>by decide) (fun r G C=>by have:=F r G C;grind) (by grind);exact⟨O,h.1,h.2⟩
end
end
section
open Go.RowKit
open Lp (RL upd eu)
inductive iA (w:World) (m n K:Nat) (A:Nat -> Nat -> Rat) (b c:Nat -> Rat) (v:Value):Prop
 | opt (P cp Y cy q x y):v= .agg #[.int .i64 1, .string (eF q), .slice P n cp, .slice Y m cy, .slice none 0 0] -> TSA w (.slice P n cp) n (fun j=>eF (x j)) -> TSA w (.slice Y m cy) m (fun j=>eF (y j)) -> RL K q /\ RLs K n x /\ RLs K m y -> Lp.Opt m n A b c q x y -> iA w m n K A b c v
 | inf (Y cy y):v= .agg #[.int .i64 2, .string ⟨#[]⟩, .slice none 0 0, .slice Y m cy, .slice none 0 0] -> TSA w (.slice Y m cy) m (fun j=>eF (y j)) -> RLs K m y -> Lp.Inf m n A b y -> iA w m n K A b c v
 | unb (P cp R cr x d):v= .agg #[.int .i64 3, .string ⟨#[]⟩, .slice P n cp, .slice none 0 0, .slice R n cr] -> TSA w (.slice P n cp) n (fun j=>eF (x j)) -> TSA w (.slice R n cr) n (fun j=>eF (d j)) -> RLs K n x /\ RLs K n d -> Lp.Unb m n A b c x d -> iA w m n K A b c v
theorem iA.below{w w':World}{m n K:Nat}{A:Nat -> Nat -> Rat}{b c:Nat -> Rat}{v:Value}(h:iA w m n K A b c v)(C:Below w.heap.size w w'):iA w' m n K A b c v:=by
 cases h with
 | opt P F Y G q x y h1 r t E M=>exact .opt P F Y G q x y h1 (r.below C) (t.below C) E M
 | inf Y G y h1 r E t=>exact .inf Y G y h1 (r.below C) E t
 | unb P F R cr x d h1 r t E M=>exact .unb P F R cr x d h1 (r.below C) (t.below C) E M
theorem Row.nA{w:World}{g:Nat}{e:TypeId}{r t C E F v0 v1 v2 v3 v4:Value}(h:Row w g e [r,t,C,E,F]):
  Row (((((w.setCell ⟨g,0,none⟩ v0).setCell ⟨g,1,none⟩ v1).setCell ⟨g,2,none⟩ v2).setCell ⟨g,3,none⟩ v3).setCell ⟨g,4,none⟩ v4) g e [v0,v1,v2,v3,v4]:=((((h.set 0 v0).set 1 v1).set 2 v2).set 3 v3).set 4 v4
theorem iJ(w:World)(g:Nat)(v0 v1 v2 v3 v4:Value):
  w.grownBy (((((w.setCell ⟨g,0,none⟩ v0).setCell ⟨g,1,none⟩ v1).setCell ⟨g,2,none⟩ v2).setCell ⟨g,3,none⟩ v3).setCell ⟨g,4,none⟩ v4) (some g):=
 grownBy_trans (grownBy_trans (grownBy_trans (grownBy_trans (grownBy_set _ _ _ _) (grownBy_set _ _ _ _)) (grownBy_set _ _ _ _)) (grownBy_set _ _ _ _)) (grownBy_set _ _ _ _)
theorem SK.jN{w w':World}{g g' n:Nat}{e:TypeId}{cs:List Value}{s:Nat -> ByteArray}(h:SK w g n s)(t:w.grownBy w' (some g'))(C:Row w g' e cs)(r:e≠30):SK w' g n s:=by
 obtain⟨_,E⟩:=h.row;exact h.other t (fV E C (fun e'=>r e'.symm))
end
section
open Go.RowKit
open Lp (RL upd eu eB sumTo)
theorem Iq(a:Int):(Lib.decDigits a.natAbs).length <= (Lib.itoa a).length:=by
 by_cases h:a<0
 ·rw[itoa_neg h];simp
 ·rw[iW h];exact Nat.le_refl _
theorem Ir(n:Nat):n<10^ (Lib.decDigits n).length:=by have h:=qi (mO n);rw[jH] at h;exact h
theorem Iu{q:Rat}{K:Nat}(h:(fA q).length <= K):RL K q:=by
 have h1:=Iq q.num;have r:∀n k,(Lib.decDigits n).length <= k -> n<10^k:=fun n k C=>Nat.lt_of_lt_of_le (Ir n) (Nat.pow_le_pow_right dC C)
 by_cases e:q.den=1
 ·have t:fA q=Lib.itoa q.num:=by unfold fA;rw[if_pos e]
  rw[t] at h;refine⟨r _ _ oM,?_⟩;rw[e];have:=rF q.num.natAbs;exact Nat.lt_of_lt_of_le (show 1<10^1 by decide) (Nat.pow_le_pow_right dC oM)
 ·rw[qp e,List.length_append,List.length_cons] at h;exact⟨r _ _ oM,r _ _ oM⟩
theorem Iw(s:ByteArray):s.size=s.data.toList.length:=by rw[Array.length_toList];rfl
theorem iU{q:Rat}{K:Nat}{s:ByteArray}(h:s.data.toList=fA q)(r:s.size <= K):RL K q:=Iu (by rw[<- h, <- Iw];exact r)
theorem BV(q:Rat):eF q≠⟨#[]⟩:=fun h=>by
 have h1:=mP q;rw[<- jI,h] at h1
 revert h1
 decide+kernel
theorem mo{n m:Nat}{k:Nat -> Nat}{o:Nat -> ByteArray}{t:Nat -> Nat -> ByteArray}{b:Nat -> ByteArray}(h:fD n m k o t b=0):
  n <= 96 /\ m <= 256 /\ (∀i,i<m -> k i=n) /\ (∀j,j<n -> sE (o j)=0) /\ ∀i,i<m -> iw n (t i) (b i)=0:=by
 unfold fD at h;split at h
 ·cases h
 ·split at h
  ·cases h
  ·rename_i h1 C;split at h
   ·rename_i r;exact absurd h r
   ·rename_i r;exact⟨by omega,by omega,by simpa using C,kF.1 (by simpa using r),kF.1 h⟩
theorem BX{n:Nat}{t:Nat -> ByteArray}{b:ByteArray}(h:iw n t b=0):(∀j,j<n -> sE (t j)=0) /\ sE b=0:=by
 unfold iw at h;split at h
 ·rename_i h1;exact absurd h h1
 ·rename_i h1;exact⟨kF.1 (by simpa using h1),h⟩
theorem pO{n m K:Nat}{k:Nat -> Nat}{o:Nat -> ByteArray}{t:Nat -> Nat -> ByteArray}{b:Nat -> ByteArray}{A:Nat -> Nat -> Rat}{E c:Nat -> Rat}(h0:fD n m k o t b=0)(h:jk n m o t b A E c)
  (M:∀j,j<n -> (o j).size <= K) (O:∀i,i<m -> ∀j,j<k i -> (t i j).size <= K) (F:∀i,i<m -> (b i).size <= K):
  (∀j,j<n -> RL K (c j)) /\ (∀i,i<m -> ∀j,j<n -> RL K (A i j)) /\ ∀i,i<m -> RL K (E i):=by
 obtain⟨_,_,G,_,_⟩:=mo h0;exact⟨fun j C=>iU (h.obj j C) (M j C),fun i r j C=>iU (h.rows i r j C) (O i r j (by rw[G i r];exact C)),fun i r=>iU (h.bounds i r) (F i r)⟩
theorem TS.other{w w':World}{v:Value}{n:Nat}{s:Nat -> ByteArray}{g:Nat}{e:TypeId}{cs:List Value}(h:TS w v n s)(M:w.grownBy w' (some g))(R:Row w g e cs)(O:∀j,j<n -> Value.string (s j) ∉ cs):TS w' v n s:=by
 obtain⟨A,c,T,h1,F,r⟩:=h;refine⟨A,c,T,h1,F,?_⟩
 rcases r with r | ⟨b,o,G,E⟩
 ·exact .inl r
 ·refine .inr ⟨b,o,G,fun j t=>fP M ?_ (E j t)⟩;rintro rfl;have C:=E j t;rw[R.cell] at C;exact O j t (List.mem_of_getElem? C)
theorem TSA.other{w w':World}{v:Value}{n:Nat}{s:Nat -> ByteArray}{g:Nat}{e:TypeId}{cs:List Value}(h:TSA w v n s)(r:w.grownBy w' (some g))(C:Row w g e cs)(t:∀j,j<n -> Value.string (s j) ∉ cs):TSA w' v n s:=⟨h.1.other r C t,h.2⟩
theorem iA.other{w w':World}{m n K:Nat}{A:Nat -> Nat -> Rat}{b c:Nat -> Rat}{v:Value}{g:Nat}{e:TypeId}{cs:List Value}(h:iA w m n K A b c v)(C:w.grownBy w' (some g))(F:Row w g e cs)(U:∀z,Value.string z ∈ cs -> z=⟨#[]⟩):iA w' m n K A b c v:=by
 have k:∀ (V:Nat) (x:Nat -> Rat),∀j,j<V -> Value.string (eF (x j)) ∉ cs:=fun _ x j _ T=>BV (x j) (U _ T)
 cases h with
 | opt P G Y M q x y h1 r t E O=>exact .opt P G Y M q x y h1 (r.other C F (k n x)) (t.other C F (k m y)) E O
 | inf Y M y h1 r E t=>exact .inf Y M y h1 (r.other C F (k m y)) E t
 | unb P G R cr x d h1 r t E O=>exact .unb P G R cr x d h1 (r.other C F (k n x)) (t.other C F (k n d)) E O
theorem iA.shape{w:World}{m n K:Nat}{A:Nat -> Nat -> Rat}{b c:Nat -> Rat}{v:Value}(h:iA w m n K A b c v):∃ (kk:Int) (s:ByteArray) (r:Option Addr) (O C:Nat) (t:Option Addr) (T E:Nat) (A2:Option Addr) (U F:Nat),v= .agg #[.int .i64 kk, .string s, .slice r O C, .slice t T E, .slice A2 U F]:=by
 cases h with
 | opt P G Y M q x y h1=>exact⟨_,_,_,_,_,_,_,_,_,_,_,h1⟩
 | inf Y M y h1=>exact⟨_,_,_,_,_,_,_,_,_,_,_,h1⟩
 | unb P G R cr x d h1=>exact⟨_,_,_,_,_,_,_,_,_,_,_,h1⟩
def Iy(w':World)(n m Kq:Nat)(k:Nat -> Nat)(o:Nat -> ByteArray)(t:Nat -> Nat -> ByteArray)(b:Nat -> ByteArray)(e:Ending):Prop:=
 (fD n m k o t b≠0 /\ e= .returned (.tuple #[.agg #[.int .i64 0, .string ⟨#[]⟩, .slice none 0 0, .slice none 0 0, .slice none 0 0], .int .i64 (fD n m k o t b:Nat)])) \/
 (fD n m k o t b=0 /\ ∃A bq c v,jk n m o t b A bq c /\ iA w' m n Kq A bq c v /\ e= .returned (.tuple #[v, .int .i64 0]))
def lst(l:List ByteArray)(j:Nat):ByteArray:=l.getD j ⟨#[]⟩
abbrev oo:=List (List ByteArray × ByteArray)
def rwK(R:oo)(i:Nat):Nat:=(R.getD i ([],⟨#[]⟩)).1.length
def rwT(R:oo)(i j:Nat):ByteArray:=lst (R.getD i ([],⟨#[]⟩)).1 j
def rwB(R:oo)(i:Nat):ByteArray:=(R.getD i ([],⟨#[]⟩)).2
theorem mD{w:World}{g:Nat}{e:TypeId}(l:List ByteArray)(h:Row w g e (l.map Value.string))(t:l.length <= maxLen):TS w (.slice (some ⟨g,0,none⟩) l.length l.length) l.length (lst l):=by
 refine⟨_,_,rfl,Nat.le_refl _,t, .inr ⟨g,0,rfl,fun j r=> ?_⟩⟩;rw[Nat.zero_add];exact h.at_ j (by simp[lst,List.getD,r])
theorem vW{w:World}{g m c:Nat}{e:TypeId}{cs:List Value}{k:Nat -> Nat}{t:Nat -> Nat -> ByteArray}{b:Nat -> ByteArray}(h:Row w g e cs)(G:m <= c)(E:c <= maxLen)
  (M:∀i,i<m -> ∃u,cs[i*2]? =some u /\ cs[i*2+1]? =some (.string (b i)) /\ TS w u (k i) (t i)):fZ w (.slice (some ⟨g,0,none⟩) m c) m k t b:=by
 refine⟨_,_,rfl,G,E, .inr ⟨g,0,rfl,fun i F=> ?_⟩⟩;obtain⟨u,h1,r,C⟩:=M i F;rw[Nat.zero_add];exact⟨u,h.at_ _ h1,h.at_ _ r,C⟩
theorem Iz:eF 4=⟨#[52]⟩:=by kernel_rfl
theorem IA:eF 5=⟨#[53]⟩:=by kernel_rfl
theorem byt{l:List UInt8}{q v:Rat}(h:l=fA q)(r:fA v=l):q=v:=rQ (h.symm.trans r.symm)
section
variable {w:World} {K:Nat} {A:Nat -> Nat -> Rat} {b c:Nat -> Rat} {v:Value}
theorem ex1(hA:A 0 0=1 /\ A 0 1=0 /\ A 1 0=0 /\ A 1 1=1 /\ A 2 0=1 /\ A 2 1=1)(hb:b 0=2 /\ b 1=3 /\ b 2=4)(hc:c 0=1 /\ c 1=1)(h:iA w 3 2 K A b c v):
  ∃P r Y t,v= .agg #[.int .i64 1, .string ⟨#[52]⟩, .slice P 2 r, .slice Y 3 t, .slice none 0 0]:=by
 obtain⟨G,M,O,T,U,V⟩:=hA;obtain⟨W,b2,X⟩:=hb;obtain⟨Z,c2⟩:=hc
 have F:Lp.Opt 3 2 A b c 4 (fun _=>2) (fun i=>if i=2 then 1 else 0):=by
  refine⟨⟨fun i _=> ?_,fun k hk=> ?_⟩,?_,fun i hi=> ?_,?_⟩
  ·show(0:Rat) <= if i=2 then 1 else 0
   split <;> decide
  ·rcases k with _ | _ | k
   ·simp only[eB,sumTo,G,O,U,Z];grind
   ·simp only[eB,sumTo,M,T,V,c2];grind
   ·omega
  ·simp only[eB,sumTo,W,b2,X];grind
  ·rcases i with _ | _ | _ | i
   ·simp only[eB,sumTo,G,M,W];grind
   ·simp only[eB,sumTo,O,T,b2];grind
   ·simp only[eB,sumTo,U,V,X];grind
   ·omega
  ·simp only[eB,sumTo,Z,c2];grind
 cases h with
 | opt P r Y t q x y h1 h2 C hl E=>
  rw[E.eq F,Iz] at h1;exact⟨P,r,Y,t,h1⟩
 | inf Y t y h1 h2 hl C=>exact(C.no F.holds).elim
 | unb P r R cr x d h1 h2 C hl E=>exact(E.no F).elim
theorem ex2(hA:A 0 0=1 /\ A 0 1=0 /\ A 1 0=0 /\ A 1 1=1)(hb:b 0=2 /\ b 1=3)(hc:c 0=1 /\ c 1=1)(h:iA w 2 2 K A b c v):
  ∃P r Y t,v= .agg #[.int .i64 1, .string ⟨#[53]⟩, .slice P 2 r, .slice Y 2 t, .slice none 0 0]:=by
 obtain⟨G,M,O,T⟩:=hA;obtain⟨U,b2⟩:=hb;obtain⟨V,W⟩:=hc
 have F:Lp.Opt 2 2 A b c 5 (fun k=>if k=0 then 2 else 3) (fun _=>1):=by
  refine⟨⟨fun i _=>by decide,fun k hk=> ?_⟩,?_,fun i hi=> ?_,?_⟩
  ·rcases k with _ | _ | k
   ·simp only[eB,sumTo,G,O,V];grind
   ·simp only[eB,sumTo,M,T,W];grind
   ·omega
  ·simp only[eB,sumTo,U,b2];grind
  ·rcases i with _ | _ | i
   ·simp only[eB,sumTo,G,M,U];grind
   ·simp only[eB,sumTo,O,T,b2];grind
   ·omega
  ·simp only[eB,sumTo,V,W];grind
 cases h with
 | opt P r Y t q x y h1 X C Z E=>
  rw[E.eq F,IA] at h1;exact⟨P,r,Y,t,h1⟩
 | inf Y t y h1 X Z C=>exact(C.no F.holds).elim
 | unb P r R cr x d h1 X C Z E=>exact(E.no F).elim
theorem ex3(V:A 0 0=1 /\ A 1 0= -1)(W:b 0=1 /\ b 1= -2)(h:iA w 2 1 K A b c v):
  ∃Y r,v= .agg #[.int .i64 2, .string ⟨#[]⟩, .slice none 0 0, .slice Y 2 r, .slice none 0 0]:=by
 obtain⟨M,O⟩:=V;obtain⟨T,b2⟩:=W
 have G:Lp.Inf 2 1 A b (fun _=>1):=by
  refine⟨⟨fun i _=>by decide,fun k X=> ?_⟩,?_⟩
  ·obtain rfl:k=0:=oM
   simp only[eB,sumTo,M,O];grind
  ·simp only[eB,sumTo,T,b2];grind
 cases h with
 | opt P U Y r q x y h1 C E F t=>exact(G.no t.holds).elim
 | inf Y r y h1 C F E=>exact⟨Y,r,h1⟩
 | unb P U R cr x d h1 C E F t=>exact(G.no t.holds).elim
theorem ex4(O:A 0 0= -1)(T:b 0=0)(U:c 0=1)(h:iA w 1 1 K A b c v):
  ∃P r R cr,v= .agg #[.int .i64 3, .string ⟨#[]⟩, .slice P 1 r, .slice none 0 0, .slice R 1 cr]:=by
 have G:Lp.Unb 1 1 A b c (fun _=>0) (fun _=>1):=by
  refine⟨fun i V=> ?_,fun i V=> ?_,?_⟩
  ·obtain rfl:i=0:=oM
   simp only[eB,sumTo,T];grind
  ·obtain rfl:i=0:=oM
   simp only[eB,sumTo,O];grind
  ·simp only[eB,sumTo,U];grind
 cases h with
 | opt P r Y M q x y h1 C t F E=>exact(G.no E).elim
 | inf Y M y h1 C F t=>exact(t.no G.holds).elim
 | unb P r R cr x d h1 C t F E=>exact⟨P,r,R,cr,h1⟩
end
end
end Go.Proofs.YtdefghfjhgmpfaaGreatDoor
