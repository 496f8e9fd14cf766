/- Parts of this proof: Release RayM Ray Any RunM SolveM TextsM KnownLM QScan RSign RBase RTrim RDigits RText RMinus RPlus ROrder RAdd. -/
import Derived.Test.YtokagbahdkfagaaGreatDoorMAE
import Derived.Test.YtokagbahdkfagaaGreatDoorMAW
import Derived.Test.YtokagbahdkfagaaGreatDoorMAP
import Derived.Test.YtokagbahdkfagaaGreatDoorMAV
import Derived.Test.YtokagbahdkfagaaGreatDoorMAU
import Derived.Test.YtokagbahdkfagaaGreatDoorMAC
import Derived.Test.YtokagbahdkfagaaGreatDoorMAD
import Derived.Test.YtokagbahdkfagaaGreatDoorMAG
import Derived.Deep.LoopGhost
import Derived.Lib.ConvBytes
import Derived.Test.YtokagbahdkfagaaGreatDoorMAF
namespace Go.Proofs.YtokagbahdkfagaaGreatDoor
open Go.Proofs.Tryz
section
open Go.RowKit
open Lp (RL upd eu)
structure Good (m n:Nat) (D0 D:eu) (k:Nat):Prop where
 ok:D.Ok m n
 sol:∀x g f,D.Sol m n x g f↔D0.Sol m n x g f
 rel:D.Rel m n k
theorem Good.lim{m n k K:Nat}{r D:eu}(h:Good m n r D k)(h0:r.Ok m n)(t:r.Lim m n K):D.Lim m n (Lp.wide m n K):=
 Lp.xR h0 h.ok (fun x g f=>(h.sol x g f).symm) t
theorem Good.pivot{m n i j:Nat}{C D:eu}(h:Good m n C D j)(r:i<m)(t:j<n)(E:n <= D.basic i)(G:D.cell i j≠0):Good m n C (D.pivot i j) (j+1):=
 ⟨h.ok.pivot r t,fun x g f=>(eu.tV r t G).trans (h.sol x g f),h.rel.pivot t r E⟩
theorem Good.none_{m n j:Nat}{t D:eu}(h:Good m n t D j)(C:∀r,r<m -> n <= D.basic r -> D.cell r j=0):Good m n t D (j+1):=⟨h.ok,h.sol,h.rel.none_ C⟩
set_option maxRecDepth 100000 in
set_option maxHeartbeats 6400000 in
theorem yU(L:Lay)(m n K:Nat)(T:eu)(w:World)(U:eZ w L m n T)(ak:T.Ok m n)(hrel:T.Rel m n 0)(ar:T.Lim m n K)(hK:Lp.wide m n K <= 100000000000)(hm:m <= 4611686018427387904)(hn:n <= 4611686018427387904):
  Calls prog 153 #[.pointer (some ⟨L.gt,0,none⟩)] w fun e w'=>e= .returned (.tuple #[]) /\ (∃D,eZ w' L m n D /\ Good m n T D n) /\ Chg (L.blocks m) w w':=by
 have aA:=lH ak;have az:=lH ar;have ax:=lH hK;have al:Hid (Good m n T T 0):=lH ⟨ak,fun _ _ _=>Iff.rfl,hrel⟩;have am:=lH U;clear ak ar hK hrel;obtain⟨sv,Av,lv,cv,tv,Bv,mv,dv,G,af⟩:=U.st;unfold Lay.cells at G;have t:=lH G;clear G af;have k2:=aI 2 t;have kl:=t.o.lt;clear U;go_enter func153,ntmps153;go_wp2_with fail
 clear k2 kl t
 go_loopw [9] (fun iv wr=>∃k:Nat,k <= n /\ iv= .int .i64 k /\ Hid (∃D,eZ wr L m n D /\ Good m n T D k) /\ Chg (L.blocks m) w wr)
  (fun iv _=>n-(intOf iv).toNat)
 case atStart=>exact⟨0,Nat.zero_le _,rfl,lH ⟨T,am.o,al.o⟩,Chg.refl _ _⟩
 case round=>
  clear am al;obtain⟨k,hk,rfl,HS,a7⟩:=hrel;have ah:=lH a7;clear a7;obtain⟨wa,rfl⟩:=eX (wr);by_cases aC:((k:Nat):Int)<(n:Nat)
  ·have aj:k<n:=oM
   obtain⟨D,U,hG⟩:=HS.o;have an:=lH U;have HG:=lH hG;have ay:=lH (hG.lim aA.o az.o);clear hG HS;have a6:0<n:=oM
   rw[(an.o.ao a6).1];obtain⟨sv,Av,lv,cv,tv,Bv,mv,dv,G,af⟩:=U.st;unfold Lay.cells at G;rw[(U.ao a6).1,(U.ao a6).2] at G;have t:=lH G;clear G af;have k1:=aI 1 t;have kl:=t.o.lt;clear U;go_wp2_with fail
   clear k1 kl t
   go_loopw [17] (fun iv wr=>∃r:Nat,r <= m /\ iv= .int .i64 r /\ Hid (∀c,c<r -> n <= D.basic c -> D.cell c k=0) /\ Below wa.heap.size wa wr)
    (fun iv _=>m-(intOf iv).toNat)
   case atStart=>exact⟨0,Nat.zero_le _,rfl,lH (fun c R=>absurd R oM),Below.refl _ _⟩
   case round=>
    obtain⟨r,hr,rfl,HZ,a7⟩:=hrel;have W:=lH a7;have E:=lH (an.o.below a7);clear a7;by_cases a9:((r:Nat):Int)<(m:Nat)
    ·have a9:r<m:=oM
     have a8:0<m:=oM
     rw[(E.o.ab a8).1];obtain⟨sv,Av,lv,cv,tv,Bv,mv,dv,G,af⟩:=E.o.st;unfold Lay.cells at G;rw[(E.o.ab a8).1,(E.o.ab a8).2.1,(E.o.ab a8).2.2] at G;rw[(E.o.ao a6).1,(E.o.ao a6).2] at G;have t:=lH G;clear G af;have C0:=lH ((E.o.bas a8).at_ a9);have C1:=lH ((E.o.out a8).at_ a6 a9);obtain⟨sx,Ax,lx,cx,tx,Bx,mx,dx,ap,av⟩:=((E.o.rows a6 r a9)).fK aj;have Qx:=lH ap;have Vx:=lH av;clear ap av;by_cases hf:¬n <= D.basic r
     ·have ag:decide (n <= D.basic r)=false:=by simp;omega
      have HF:=lH hf;clear hf;go_wp2_with fail
      have C:=rG wr;have ae:=t.o.lt;have a0:=aI 0 t;have a2:=aI 1 t;have a4:=aI 4 t;have aa:=eF C0.o;have X:=C0.o;have ac:=eF C1.o;have Y:=C1.o;have ad:=Qx.o.lt;obtain⟨Z,a1,a3,a5⟩:=Qx.o;have M:=lH (kC a0 (kC a2 (kC a4 (kC X (kC Y (kC Z (kC a1 (kC a3 (kN a5)))))))));clear ae a0 a2 a4 aa X ac Y ad Z a1 a3 a5;refine rL M.o (fun i=>false) ?_;have h:=M.o _ C.o;refine tKs 0 20 h ?_;refine tKs 1 21 h ?_;refine tKs 2 22 h ?_;refine tKs 3 23 h ?_;refine tKs 4 24 h ?_;refine tKs 5 25 h ?_;refine tKs 6 26 h ?_;refine tKs 7 27 h ?_;refine tKs 8 28 h ?_;refine tKs 9 29 h ?_;refine tKs 10 30 h ?_;refine tKs 11 31 h ?_;refine tKs 12 32 h ?_;refine tUs 13 33 h ?_;refine tUs 14 34 h ?_;refine tUs 15 35 h ?_;refine tUs 16 36 h ?_;refine tUs 17 37 h ?_;refine tUs 18 38 h ?_;refine tUs 19 39 h ?_;refine tUs 20 40 h ?_;refine tUs 21 41 h ?_;refine tUs 22 42 h ?_;refine tUs 23 43 h ?_;refine tUs 24 44 h ?_;refine tKs 25 45 h ?_;refine dN ?_ _;clear h M C;clear ag;go_wp2_with fail
      go_roundw
      case rel=>exact⟨r+1,by omega,by simp,lH (fun c R hn=>by by_cases e:c=r;subst e;exact absurd hn HF.o;exact HZ.o c oM hn),W.o.drew⟩
      case measure=>exact mZ
     ·have ag:decide (n <= D.basic r)=true:=by simp;omega
      have HF:Hid (n <= D.basic r):=lH oM;clear hf;by_cases R:D.cell r k=0
      ·have V:(sgI (D.cell r k).num !=0)=false:=by simpa using jC.2 R
       have HC:=lH R;have ai:=lH V;clear R V;go_wp2_with fail
       have C:=rG wr;have ae:=t.o.lt;have a0:=aI 0 t;have a2:=aI 1 t;have a4:=aI 4 t;have aa:=eF C0.o;have X:=C0.o;have ac:=eF C1.o;have Y:=C1.o;have ad:=Qx.o.lt;obtain⟨Z,a1,a3,a5⟩:=Qx.o;have M:=lH (kC a0 (kC a2 (kC a4 (kC X (kC Y (kC Z (kC a1 (kC a3 (kN a5)))))))));clear ae a0 a2 a4 aa X ac Y ad Z a1 a3 a5;refine rL M.o (fun i=>false) ?_;have h:=M.o _ C.o;refine tKs 0 20 h ?_;refine tKs 1 21 h ?_;refine tKs 2 22 h ?_;refine tKs 3 23 h ?_;refine tKs 4 24 h ?_;refine tKs 5 25 h ?_;refine tKs 6 26 h ?_;refine tKs 7 27 h ?_;refine tKs 8 28 h ?_;refine tKs 9 29 h ?_;refine tKs 10 30 h ?_;refine tKs 11 31 h ?_;refine tKs 12 32 h ?_;refine tKs 13 33 h ?_;refine tKs 14 34 h ?_;refine tKs 15 35 h ?_;refine tKs 16 36 h ?_;refine tKs 17 37 h ?_;refine tKs 18 38 h ?_;refine tKs 19 39 h ?_;refine tKs 20 40 h ?_;refine tKs 21 41 h ?_;refine tKs 22 42 h ?_;refine rD 23 (fun K hK=> ?_);go_simp;refine(fQ _ (D.cell r k) _ (by exact Vx.o)).mono ?_;rintro e w1 ⟨rfl,O⟩;have O:Below wr.heap.size wr w1:=bD O;replace W:=bT W O;replace C:=bT C O;have V:=ai.o;clear h O;have h:=M.o _ C.o;refine kH hK h ?_;clear hK K;refine tKs 24 44 h ?_;refine tKs 25 45 h ?_;refine dN ?_ _;clear h M C;clear ag V;go_wp2_with fail
       go_roundw
       case rel=>exact⟨r+1,by omega,by simp,lH (fun c R hn=>by by_cases e:c=r;subst e;exact HC.o;exact HZ.o c oM hn),W.o⟩
       case measure=>exact mZ
      ·have V:(sgI (D.cell r k).num !=0)=true:=by simpa using (not_congr jC).2 R
       have HC:=lH R;have ai:=lH V;clear R V;go_wp2_with fail
       have C:=rG wr;have ae:=t.o.lt;have a0:=aI 0 t;have a2:=aI 1 t;have a4:=aI 4 t;have aa:=eF C0.o;have X:=C0.o;have ac:=eF C1.o;have Y:=C1.o;have ad:=Qx.o.lt;obtain⟨Z,a1,a3,a5⟩:=Qx.o;have M:=lH (kC a0 (kC a2 (kC a4 (kC X (kC Y (kC Z (kC a1 (kC a3 (kN a5)))))))));clear ae a0 a2 a4 aa X ac Y ad Z a1 a3 a5;refine rL M.o (fun i=>false) ?_;have h:=M.o _ C.o;refine tKs 0 20 h ?_;refine tKs 1 21 h ?_;refine tKs 2 22 h ?_;refine tKs 3 23 h ?_;refine tKs 4 24 h ?_;refine tKs 5 25 h ?_;refine tKs 6 26 h ?_;refine tKs 7 27 h ?_;refine tKs 8 28 h ?_;refine tKs 9 29 h ?_;refine tKs 10 30 h ?_;refine tKs 11 31 h ?_;refine tKs 12 32 h ?_;refine tKs 13 33 h ?_;refine tKs 14 34 h ?_;refine tKs 15 35 h ?_;refine tKs 16 36 h ?_;refine tKs 17 37 h ?_;refine tKs 18 38 h ?_;refine tKs 19 39 h ?_;refine tKs 20 40 h ?_;refine tKs 21 41 h ?_;refine tKs 22 42 h ?_;refine rD 23 (fun K hK=> ?_);go_simp;refine(fQ _ (D.cell r k) _ (by exact Vx.o)).mono ?_;rintro e w1 ⟨rfl,O⟩;have O:Below wr.heap.size wr w1:=bD O;replace E:=lH (E.o.below O);replace W:=bT W O;replace C:=bT C O;have V:=ai.o;clear h O;have h:=M.o _ C.o;refine kH hK h ?_;clear hK K;refine tKs 24 44 h ?_;refine tKs 25 45 h ?_;refine dN ?_ _;clear h M C;clear ag V;go_wp2_with fail
       refine(uA L m n r k _ D _ E.o a9 aj HC.o ay.o ax.out hm hn).mono ?_;rintro e wq ⟨rfl,au,aq⟩;have aB:=lH au;have aw:=lH ((ah.o.gU W.o).trans aq (fun b hb=> .inl hb));clear au aq;go_wp2_with fail
       go_roundw
       case rel=>exact⟨k+1,by omega,by simp,lH ⟨_,aB.o,HG.o.pivot a9 aj HF.o HC.o⟩,aw.o⟩
       case measure=>exact mZ
    ·obtain rfl:m=r:=oM
     go_wp2_with fail
     go_roundw
     case rel=>exact⟨k+1,by omega,by simp,lH ⟨D,E.o,HG.o.none_ HZ.o⟩,ah.o.gU W.o⟩
     case measure=>exact mZ
  ·obtain rfl:n=k:=oM
   go_wp2_with fail
   go_returns;exact⟨rfl,HS.o,ah.o⟩
end
section
open Go.RowKit
open Lp (RL upd eu)
open Lp (sumTo spread)
def jO(D:eu)(j:Nat)(s:Rat)(k c:Nat):Rat:=(if D.off j=c then s else 0)+sumTo k (fun r=>if D.basic r=c then -(s*D.cell r j) else 0)
theorem yV{j:Nat}{D:eu}{s:Rat}(c:Nat):jO D j s 0 c=if D.off j=c then s else 0:=by
 show(if D.off j=c then s else 0)+0=_;grind
theorem G8{j:Nat}{D:eu}{s:Rat}(c:Nat):upd (fun _=>0) (D.off j) s c=jO D j s 0 c:=by
 rw[yV];by_cases e:c=D.off j
 ·subst e;rw[Lp.upd_same,if_pos rfl]
 ·rw[Lp.eQ _ _ e,if_neg (fun e'=>e e'.symm)]
theorem G9{n j:Nat}{D:eu}{s:Rat}(h:n <= D.off j)(c:Nat)(r:c<n):(0:Rat)=jO D j s 0 c:=by
 rw[yV,if_neg oM]
theorem yX{n j k:Nat}{D:eu}{s:Rat}(h:n <= D.basic k)(c:Nat)(t:c<n):jO D j s k c=jO D j s (k+1) c:=by
 show _=(if D.off j=c then s else 0)+ (sumTo k (fun r=>if D.basic r=c then -(s*D.cell r j) else 0)+ (if D.basic k=c then -(s*D.cell k j) else 0));rw[if_neg (by omega:¬D.basic k=c)];show(if D.off j=c then s else 0)+sumTo k (fun r=>if D.basic r=c then -(s*D.cell r j) else 0)=_;grind
theorem yY{m n j k:Nat}{D:eu}{s:Rat}(h:D.Ok m n)(E:j<n)(t:k<m)(c:Nat):upd (jO D j s k) (D.basic k) (-(s*D.cell k j)) c=jO D j s (k+1) c:=by
 show _=(if D.off j=c then s else 0)+ (sumTo k (fun r=>if D.basic r=c then -(s*D.cell r j) else 0)+ (if D.basic k=c then -(s*D.cell k j) else 0));by_cases e:c=D.basic k
 ·subst e;rw[Lp.upd_same,if_pos rfl];have h1:sumTo k (fun r=>if D.basic r=D.basic k then -(s*D.cell r j) else 0)=0:=Lp.iF fun r G=>if_neg fun e=>by have:=h.bi r k oM t e;omega
  have C:¬D.off j=D.basic k:=fun e=>h.ne k j t E e.symm
  rw[h1,if_neg C];grind
 ·rw[Lp.eQ _ _ e,if_neg (show ¬D.basic k=c from fun e'=>e e'.symm)];show(if D.off j=c then s else 0)+sumTo k (fun r=>if D.basic r=c then -(s*D.cell r j) else 0)=_;grind
end
section
open Go.RowKit
open Lp (RL upd eu)
set_option maxRecDepth 100000 in
set_option maxHeartbeats 6400000 in
theorem yZ(L:Lay)(m n j K:Nat)(D:eu)(s:Rat)(vs:Value)(w:World)(hT:eZ w L m n D)(b8:D.Ok m n)(hj:j<n)(hs:eP w vs s)(b7:RL 1000000000000 s)(b6:D.Lim m n K)(V:K <= 100000000000)(hm:m <= 4398046511104)(hn:n <= 4398046511104):
  Calls prog 155 #[.pointer (some ⟨L.gt,0,none⟩), .int .i64 j,vs] w fun e w'=>∃g,e= .returned (.slice (some ⟨g,0,none⟩) n n) /\ w.heap.size <= g /\ RB w' g n (jO D j s m) /\ Below w.heap.size w w':=by
 have Y:0<n:=oM
 have b5:=lH b8;have b4:=lH b7;have b3:=lH b6;clear b8 b7 b6;obtain⟨ss,As,ls,cs,ts,Bs,ms,ds,rfl⟩:=hs.shape;have G:=lH hs;have r:=lH hT;have a1:=r;clear hs hT;have E:Hid (Below w.heap.size w w):=lH (Below.refl _ _);go_enter func155,ntmps155;have aS:=eD w (.cells #[.bool ss, .slice As ls cs, .bool ts, .slice Bs ms ds] 40);have C:=hN w [.bool ss, .slice As ls cs, .bool ts, .slice Bs ms ds] 40;replace G:=lH (G.o.below aS);replace E:=bT E aS;replace r:=lH (r.o.below aS);obtain⟨w1,aD⟩:=eX (w.alloc (.cells #[.bool ss, .slice As ls cs, .bool ts, .slice Bs ms ds] 40));rw[<- aD] at G C E r;clear aS;obtain⟨sv,Av,lv,cv,tv,Bv,mv,dv,O,a4⟩:=r.o.st;unfold Lay.cells at O;rw[(r.o.ao Y).1,(r.o.ao Y).2] at O;have M:=lH O;clear O a4;have k0:=aI 0 M;have kl:=M.o.lt;have bn:w1.heap.size=w.heap.size+1:=by rw[aD];simp
 have bG:L.gt<w.heap.size:=by obtain⟨_,hr⟩:=a1.o.nM;exact hr.lt
 have bF:=(a1.o.off Y).lt;rw[aD] at k0 kl
 go_wp2_with (at_make;refine oh _ rfl (.tmp 14) (.tmp 14) rfl _ _ n rfl rfl rfl rfl hn ?_)
 intro w2 b9 ac bm;rw[<- aD] at ac;replace ac:Below w1.heap.size w1 w2:=by rw[bn];simpa using ac
 have h:Hid (RB w2 (w.heap.size+1) n fun _=>0):=lH (by simpa using b9);clear b9 k0 kl M bm aD;replace G:=lH (G.o.below ac);replace C:=rW C ac;replace E:=bT E ac;replace r:=lH (r.o.below ac);clear ac;obtain⟨sv,Av,lv,cv,tv,Bv,mv,dv,O,a4⟩:=r.o.st;unfold Lay.cells at O;rw[(r.o.ao Y).1,(r.o.ao Y).2] at O;have M:=lH O;clear O a4;have U:=lH ((r.o.off Y).at_ hj);have bH:((j:Nat):Int)<(n:Nat):=oM
 by_cases Z:D.off j<n
 ·have bl:((D.off j:Nat):Int)<(n:Nat):=oM
  have ah:decide (D.off j<n)=true:=by simpa using Z
  obtain⟨sy,Ay,ly,cy,ty,By,my,dy,aa,ad⟩:=(h.o).fK Z;have R:=lH aa;have Vy:=lH ad;clear aa ad;clear Vy;obtain⟨aJ,aK,aL,aM⟩:=R.o;have aN:=R.o.lt;clear R;have aE:=h.o.free (D.off j*4);have aF:=h.o.free (D.off j*4+1);have aG:=h.o.free (D.off j*4+2);have aH:=h.o.free (D.off j*4+3);obtain⟨a6,a7,b2⟩:=aT3 M.o;have a9:=M.o.lt;have a5:=U.o;have a8:=eF U.o;obtain⟨bo,bp,bq,br⟩:=aT4 C.o;have bs:=C.o.lt;have bk:w.heap.size≠w.heap.size+1:=oM
  clear M U;clear r;have aP:World.grownBy w2 ((((w2.setCell ⟨(w.heap.size+1),(D.off j)*4,none⟩ (.bool ss)).setCell ⟨(w.heap.size+1),(D.off j)*4+1,none⟩ (.slice As ls cs)).setCell ⟨(w.heap.size+1),(D.off j)*4+2,none⟩ (.bool ts)).setCell ⟨(w.heap.size+1),(D.off j)*4+3,none⟩ (.slice Bs ms ds)) (some (w.heap.size+1)):=gJ _ _ _ _ _ _ _ _ _ _;obtain⟨bB,ba⟩:=h.o.row;have bv:=C.o.lt;have bu:=h.o.lt;have bd:=h.o.set Z G.o;replace G:=lH (G.o.other aP ba gM);replace C:=lH (C.o.other aP oM);replace E:=lH (E.o.grown aP E.o.size (by first | (simp;done) | (simp;omega)));replace h:=lH bd;obtain⟨aT,aZ⟩:=eX (((((w2.setCell ⟨(w.heap.size+1),(D.off j)*4,none⟩ (.bool ss)).setCell ⟨(w.heap.size+1),(D.off j)*4+1,none⟩ (.slice As ls cs)).setCell ⟨(w.heap.size+1),(D.off j)*4+2,none⟩ (.bool ts)).setCell ⟨(w.heap.size+1),(D.off j)*4+3,none⟩ (.slice Bs ms ds)));rw[<- aZ] at G C h E;clear aP ba bd bv bu;go_wp2_with fail
  rw[<- aZ];clear aZ aJ aK aL aM aN aE aF aG aH bk a6 a7 b2 a9 a5 a8 bo bp bq br bs;replace h:=lH (h.o.congr (fun c _=>G8 c));clear ah bl Z;have r:=lH (a1.o.below E.o);obtain⟨sv,Av,lv,cv,tv,Bv,mv,dv,O,a4⟩:=r.o.st;unfold Lay.cells at O;rw[(r.o.ao Y).1,(r.o.ao Y).2] at O;have M:=lH O;clear O a4;have k1:=aI 1 M;have kl:=M.o.lt;go_wp2_with fail
  clear k1 kl;have aU:=r;have ai:=E;have aj:=C;have ak:=G;clear r E C G M
  go_loopw [38] (fun iv wr=>∃k:Nat,k <= m /\ iv= .int .i64 k /\ RB wr (w.heap.size+1) n (jO D j s k) /\ Below w.heap.size w wr /\ Row wr w.heap.size 40 [.bool ss, .slice As ls cs, .bool ts, .slice Bs ms ds] /\ eP wr (.agg #[.bool ss, .slice As ls cs, .bool ts, .slice Bs ms ds]) s)
   (fun iv _=>m-(intOf iv).toNat)
  case atStart=>exact⟨0,Nat.zero_le _,rfl,h.o,ai.o,aj.o,ak.o⟩
  case round=>
   clear h aU ai aj ak;obtain⟨k,hk,rfl,az,ag,aA,aC⟩:=hrel;have h:=lH az;have E:=lH ag;have C:=lH aA;have G:=lH aC;have r:=lH (a1.o.below ag);clear az ag aA aC;by_cases bj:((k:Nat):Int)<(m:Nat)
   ·have a0:k<m:=oM
    have X:0<m:=oM
    have bh:=(a1.o.bas X).lt;have bi:=(a1.o.con X).lt;rw[(r.o.ab X).1];obtain⟨sv,Av,lv,cv,tv,Bv,mv,dv,O,a4⟩:=r.o.st;unfold Lay.cells at O;rw[(r.o.ab X).1,(r.o.ab X).2.1,(r.o.ab X).2.2] at O;rw[(r.o.ao Y).1,(r.o.ao Y).2] at O;have M:=lH O;clear O a4;have U:=lH ((r.o.bas X).at_ a0);have C1:=lH ((r.o.out X).at_ Y a0);obtain⟨sx,Ax,lx,cx,tx,Bx,mx,dx,ay,aB⟩:=((r.o.rows Y k a0)).fK hj;have Qx:=lH ay;have Vx:=lH aB;clear ay aB;clear r;by_cases Z:¬D.basic k<n
    ·have ah:decide (D.basic k<n)=false:=by simp;omega
     have HF:=lH Z;clear Z;obtain⟨a6,a7⟩:=aT2 M.o;have a9:=M.o.lt;have a5:=U.o;have a8:=eF U.o;go_wp2_with fail
     go_roundw
     case rel=>exact⟨k+1,by omega,by simp,h.o.congr (fun c hc=>yX (by have:=HF.o;omega) c hc),E.o,C.o,G.o⟩
     case measure=>exact mZ
    ·have af:D.basic k<n:=oM
     have ah:decide (D.basic k<n)=true:=by simpa using af
     have bg:((D.basic k:Nat):Int)<(n:Nat):=oM
     clear Z;obtain⟨sy,Ay,ly,cy,ty,By,my,dy,aa,ad⟩:=(h.o).fK af;have R:=lH aa;have Vy:=lH ad;clear aa ad;clear Vy;obtain⟨a6,a7⟩:=aT2 M.o;have a9:=M.o.lt;have a5:=U.o;have a8:=eF U.o;go_wp2_with fail
     clear a6 a7 a9 a5 a8;go_wp2_with fail
     have W:=rG wr;have aY:=M.o.lt;have ap:=aI 4 M;have aV:=eF C1.o;have al:=C1.o;have aW:=Qx.o.lt;obtain⟨am,aq,au,aw⟩:=Qx.o;have aX:=C.o.lt;obtain⟨an,ar,av,ax⟩:=aT4 C.o;have KS:=lH (kC ap (kC al (kC am (kC aq (kC au (kC aw (kC an (kC ar (kC av (kN ax))))))))));clear aY ap aV al aW am aq au aw aX an ar av ax;refine rL KS.o (fun i=>decide (16 <= i)) ?_;have t:=KS.o _ W.o;refine tKs 0 49 t ?_;refine tKs 1 50 t ?_;refine tKs 2 51 t ?_;refine tKs 3 52 t ?_;refine tKs 4 53 t ?_;refine tKs 5 54 t ?_;refine tKs 6 55 t ?_;refine tKs 7 56 t ?_;refine tKs 8 57 t ?_;refine tKs 9 58 t ?_;refine tKs 10 59 t ?_;refine tKs 11 60 t ?_;refine tKs 12 61 t ?_;refine rD 13 (fun K V=> ?_);go_simp;refine(mO _ _ s (D.cell k j) _ (by exact G.o) (by exact Vx.o) b4.o ((b3.o.cell k j a0 hj).mono oM)).mono ?_;rintro e ae ⟨vr,rfl,hr,T⟩;have T:Below wr.heap.size wr ae:=bD T;obtain⟨sr,Ar,lr,cr,tr,Br,mr,dr,rfl⟩:=hr.shape;have Vr:=lH hr;clear hr;replace G:=lH (G.o.below T);replace C:=rW C T;replace R:=lH (R.o.below T);replace h:=lH (h.o.below T);replace E:=bT E T;replace W:=bT W T;clear t T;have t:=KS.o _ W.o;refine kH V t ?_;clear V K;refine rD 14 (fun K V=> ?_);go_simp;refine(pF _ (s*D.cell k j) _ (by exact Vr.o)).mono ?_;rintro e aO ⟨vq,rfl,hq,a3⟩;have a3:Below ae.heap.size ae aO:=bD a3;obtain⟨sq,Aq,lq,cq,tq,Bq,mq,dq,rfl⟩:=hq.shape;have Vq:=lH hq;clear hq;replace G:=lH (G.o.below a3);replace C:=rW C a3;replace R:=lH (R.o.below a3);replace h:=lH (h.o.below a3);replace E:=bT E a3;replace W:=bT W a3;have aJ:=R.o.1;have aK:=R.o.2.1;have aL:=R.o.2.2.1;have aM:=R.o.2.2.2;have aN:=R.o.lt;have aE:=h.o.free (D.basic k*4);have aF:=h.o.free (D.basic k*4+1);have aG:=h.o.free (D.basic k*4+2);have aH:=h.o.free (D.basic k*4+3);clear t a3;have t:=KS.o _ W.o;refine kH V t ?_;clear V K;refine tKs 15 64 t ?_;refine rD 16 (fun K V=> ?_);go_simp;refine kL V ?_;clear V K;refine dN ?_ _;clear t KS W;clear aJ aK aL aM aN aE aF aG aH M U C1 Qx Vx Vr;clear R;have aR:World.grownBy aO ((((aO.setCell ⟨(w.heap.size+1),(D.basic k)*4,none⟩ (.bool sq)).setCell ⟨(w.heap.size+1),(D.basic k)*4+1,none⟩ (.slice Aq lq cq)).setCell ⟨(w.heap.size+1),(D.basic k)*4+2,none⟩ (.bool tq)).setCell ⟨(w.heap.size+1),(D.basic k)*4+3,none⟩ (.slice Bq mq dq)) (some (w.heap.size+1)):=gJ _ _ _ _ _ _ _ _ _ _;obtain⟨bE,bc⟩:=h.o.row;have bA:=C.o.lt;have bz:=h.o.lt;have bf:=h.o.set af Vq.o;replace G:=lH (G.o.other aR bc gM);replace C:=lH (C.o.other aR oM);replace E:=lH (E.o.grown aR E.o.size (by first | (simp;done) | (simp;omega)));replace h:=lH bf;obtain⟨bI,b1⟩:=eX (((((aO.setCell ⟨(w.heap.size+1),(D.basic k)*4,none⟩ (.bool sq)).setCell ⟨(w.heap.size+1),(D.basic k)*4+1,none⟩ (.slice Aq lq cq)).setCell ⟨(w.heap.size+1),(D.basic k)*4+2,none⟩ (.bool tq)).setCell ⟨(w.heap.size+1),(D.basic k)*4+3,none⟩ (.slice Bq mq dq)));rw[<- b1] at G C h E;clear aR bc bf bA bz;rw[<- b1];clear b1;go_wp2_with fail
     go_roundw
     case rel=>exact⟨k+1,by omega,by simp,h.o.congr (fun c _=>yY b5.o hj a0 c),E.o,C.o,G.o⟩
     case measure=>exact mZ
   ·obtain rfl:m=k:=oM
    go_wp2_with fail
    go_returns;exact⟨_,rfl,Nat.le_succ _,h.o,E.o⟩
 ·have ah:decide (D.off j<n)=false:=by simp;omega
  obtain⟨a6,a7,b2⟩:=aT3 M.o;have a9:=M.o.lt;have a5:=U.o;have a8:=eF U.o;go_wp2_with fail
  clear a6 a7 b2 a9 a5 a8;clear ah U;replace h:=lH (h.o.congr (fun c hc=>G9 (j:=j) (s:=s) (by omega:n <= D.off j) c hc));clear Z;have aU:=r;have ai:=E;have aj:=C;have ak:=G;clear r E C G M
  go_loopw [38] (fun iv wr=>∃k:Nat,k <= m /\ iv= .int .i64 k /\ RB wr (w.heap.size+1) n (jO D j s k) /\ Below w.heap.size w wr /\ Row wr w.heap.size 40 [.bool ss, .slice As ls cs, .bool ts, .slice Bs ms ds] /\ eP wr (.agg #[.bool ss, .slice As ls cs, .bool ts, .slice Bs ms ds]) s)
   (fun iv _=>m-(intOf iv).toNat)
  case atStart=>exact⟨0,Nat.zero_le _,rfl,h.o,ai.o,aj.o,ak.o⟩
  case round=>
   clear h aU ai aj ak;obtain⟨k,hk,rfl,az,ag,aA,aC⟩:=hrel;have h:=lH az;have E:=lH ag;have C:=lH aA;have G:=lH aC;have r:=lH (a1.o.below ag);clear az ag aA aC;by_cases bj:((k:Nat):Int)<(m:Nat)
   ·have a0:k<m:=oM
    have X:0<m:=oM
    have bh:=(a1.o.bas X).lt;have bi:=(a1.o.con X).lt;rw[(r.o.ab X).1];obtain⟨sv,Av,lv,cv,tv,Bv,mv,dv,O,a4⟩:=r.o.st;unfold Lay.cells at O;rw[(r.o.ab X).1,(r.o.ab X).2.1,(r.o.ab X).2.2] at O;rw[(r.o.ao Y).1,(r.o.ao Y).2] at O;have M:=lH O;clear O a4;have U:=lH ((r.o.bas X).at_ a0);have C1:=lH ((r.o.out X).at_ Y a0);obtain⟨sx,Ax,lx,cx,tx,Bx,mx,dx,ay,aB⟩:=((r.o.rows Y k a0)).fK hj;have Qx:=lH ay;have Vx:=lH aB;clear ay aB;clear r;by_cases Z:¬D.basic k<n
    ·have ah:decide (D.basic k<n)=false:=by simp;omega
     have HF:=lH Z;clear Z;obtain⟨a6,a7⟩:=aT2 M.o;have a9:=M.o.lt;have a5:=U.o;have a8:=eF U.o;go_wp2_with fail
     go_roundw
     case rel=>exact⟨k+1,by omega,by simp,h.o.congr (fun c hc=>yX (by have:=HF.o;omega) c hc),E.o,C.o,G.o⟩
     case measure=>exact mZ
    ·have af:D.basic k<n:=oM
     have ah:decide (D.basic k<n)=true:=by simpa using af
     have bg:((D.basic k:Nat):Int)<(n:Nat):=oM
     clear Z;obtain⟨sy,Ay,ly,cy,ty,By,my,dy,aa,ad⟩:=(h.o).fK af;have R:=lH aa;have Vy:=lH ad;clear aa ad;clear Vy;obtain⟨a6,a7⟩:=aT2 M.o;have a9:=M.o.lt;have a5:=U.o;have a8:=eF U.o;go_wp2_with fail
     clear a6 a7 a9 a5 a8;go_wp2_with fail
     have W:=rG wr;have aY:=M.o.lt;have ap:=aI 4 M;have aV:=eF C1.o;have al:=C1.o;have aW:=Qx.o.lt;obtain⟨am,aq,au,aw⟩:=Qx.o;have aX:=C.o.lt;obtain⟨an,ar,av,ax⟩:=aT4 C.o;have KS:=lH (kC ap (kC al (kC am (kC aq (kC au (kC aw (kC an (kC ar (kC av (kN ax))))))))));clear aY ap aV al aW am aq au aw aX an ar av ax;refine rL KS.o (fun i=>decide (16 <= i)) ?_;have t:=KS.o _ W.o;refine tKs 0 49 t ?_;refine tKs 1 50 t ?_;refine tKs 2 51 t ?_;refine tKs 3 52 t ?_;refine tKs 4 53 t ?_;refine tKs 5 54 t ?_;refine tKs 6 55 t ?_;refine tKs 7 56 t ?_;refine tKs 8 57 t ?_;refine tKs 9 58 t ?_;refine tKs 10 59 t ?_;refine tKs 11 60 t ?_;refine tKs 12 61 t ?_;refine rD 13 (fun K V=> ?_);go_simp;refine(mO _ _ s (D.cell k j) _ (by exact G.o) (by exact Vx.o) b4.o ((b3.o.cell k j a0 hj).mono oM)).mono ?_;rintro e aT ⟨vr,rfl,hr,a2⟩;have a2:Below wr.heap.size wr aT:=bD a2;obtain⟨sr,Ar,lr,cr,tr,Br,mr,dr,rfl⟩:=hr.shape;have Vr:=lH hr;clear hr;replace G:=lH (G.o.below a2);replace C:=rW C a2;replace R:=lH (R.o.below a2);replace h:=lH (h.o.below a2);replace E:=bT E a2;replace W:=bT W a2;clear t a2;have t:=KS.o _ W.o;refine kH V t ?_;clear V K;refine rD 14 (fun K V=> ?_);go_simp;refine(pF _ (s*D.cell k j) _ (by exact Vr.o)).mono ?_;rintro e ae ⟨vq,rfl,hq,T⟩;have T:Below aT.heap.size aT ae:=bD T;obtain⟨sq,Aq,lq,cq,tq,Bq,mq,dq,rfl⟩:=hq.shape;have Vq:=lH hq;clear hq;replace G:=lH (G.o.below T);replace C:=rW C T;replace R:=lH (R.o.below T);replace h:=lH (h.o.below T);replace E:=bT E T;replace W:=bT W T;have aJ:=R.o.1;have aK:=R.o.2.1;have aL:=R.o.2.2.1;have aM:=R.o.2.2.2;have aN:=R.o.lt;have aE:=h.o.free (D.basic k*4);have aF:=h.o.free (D.basic k*4+1);have aG:=h.o.free (D.basic k*4+2);have aH:=h.o.free (D.basic k*4+3);clear t T;have t:=KS.o _ W.o;refine kH V t ?_;clear V K;refine tKs 15 64 t ?_;refine rD 16 (fun K V=> ?_);go_simp;refine kL V ?_;clear V K;refine dN ?_ _;clear t KS W;clear aJ aK aL aM aN aE aF aG aH M U C1 Qx Vx Vr;clear R;have aQ:World.grownBy ae ((((ae.setCell ⟨(w.heap.size+1),(D.basic k)*4,none⟩ (.bool sq)).setCell ⟨(w.heap.size+1),(D.basic k)*4+1,none⟩ (.slice Aq lq cq)).setCell ⟨(w.heap.size+1),(D.basic k)*4+2,none⟩ (.bool tq)).setCell ⟨(w.heap.size+1),(D.basic k)*4+3,none⟩ (.slice Bq mq dq)) (some (w.heap.size+1)):=gJ _ _ _ _ _ _ _ _ _ _;obtain⟨bC,bb⟩:=h.o.row;have bx:=C.o.lt;have bw:=h.o.lt;have be:=h.o.set af Vq.o;replace G:=lH (G.o.other aQ bb gM);replace C:=lH (C.o.other aQ oM);replace E:=lH (E.o.grown aQ E.o.size (by first | (simp;done) | (simp;omega)));replace h:=lH be;obtain⟨aO,b0⟩:=eX (((((ae.setCell ⟨(w.heap.size+1),(D.basic k)*4,none⟩ (.bool sq)).setCell ⟨(w.heap.size+1),(D.basic k)*4+1,none⟩ (.slice Aq lq cq)).setCell ⟨(w.heap.size+1),(D.basic k)*4+2,none⟩ (.bool tq)).setCell ⟨(w.heap.size+1),(D.basic k)*4+3,none⟩ (.slice Bq mq dq)));rw[<- b0] at G C h E;clear aQ bb be bx bw;rw[<- b0];clear b0;go_wp2_with fail
     go_roundw
     case rel=>exact⟨k+1,by omega,by simp,h.o.congr (fun c _=>yY b5.o hj a0 c),E.o,C.o,G.o⟩
     case measure=>exact mZ
   ·obtain rfl:m=k:=oM
    go_wp2_with fail
    go_returns;exact⟨_,rfl,Nat.le_succ _,h.o,E.o⟩
end
section
open Go.RowKit
open Lp (RL upd eu sumTo spread)
section
variable {m n:Nat} {D:eu} {row col out:Int}
theorem Ga(h:r9 n m D row col)(T:row<0)(_hc:col<0):D.kQ m n (n+m):=by
 obtain⟨U,h⟩:=h
 rcases h with ⟨h1,t,C,G⟩ | ⟨y,h1,t,_⟩
 ·rcases t with ⟨_,t⟩ | ⟨x,t,_⟩
  ·refine⟨fun r O E _=>t r O E,fun c M E _=>G c M E fun l R=> ?_⟩
   rcases C with ⟨_,C⟩ | ⟨x,C,_⟩ <;> omega
  ·omega
 ·omega
theorem Gb(h:r9 n m D row col)(Z:0 <= row):∃x:Nat,row=(x:Nat) /\ x<m /\ n <= D.basic x /\ D.con x<0 /\ D.kQ m n (D.basic x):=by
 obtain⟨a0,h⟩:=h
 rcases h with ⟨h1,t,C,M⟩ | ⟨y,h1,_⟩
 ·rcases t with ⟨t,_⟩ | ⟨x,t,W,O,U,T⟩
  ·omega
  ·refine⟨x,t,W,O,U,fun r V E G=>T r V E G,fun c R E G=>M c R E fun l Y=> ?_⟩
   rcases C with ⟨C,_⟩ | ⟨x',C,X⟩
   ·omega
   ·obtain rfl:x=x':=oM
    omega
 ·omega
theorem Gc(h:r9 n m D row col)(_:row<0)(W:0 <= col):∃y:Nat,col=(y:Nat) /\ y<n /\ n <= D.off y /\ D.top y<0 /\ D.kQ m n (D.off y):=by
 obtain⟨X,h⟩:=h
 rcases h with ⟨h1,_⟩ | ⟨y,h1,E,_,G,M,O,R,T⟩
 ·omega
 ·exact⟨y,E,G,M,O,fun r V C t=>T r V C t,fun c U C t=>R c U C t⟩
theorem Gd(h:iY n n D.off (D.cell m) out)(r:out<0):∀c,c<n -> n <= D.off c -> 0 <= D.cell m c:=by
 rcases h with ⟨_,h⟩ | ⟨x,h,_⟩
 ·exact h
 ·omega
theorem Gf{i:Nat}(h:iY n n D.off (D.cell i) out)(R:0 <= out)(M:i<m)(C:n <= D.basic i)(E:D.con i<0)(G:D.kQ m n (D.basic i)):∃j:Nat,out=(j:Nat) /\ D.jV m n i j:=by
 rcases h with ⟨h,_⟩ | ⟨x,h,O,h1,r,t⟩
 ·omega
 ·exact⟨x,h, .row M O C E G h1 r t⟩
theorem Gg{j:Nat}(h:jN n m D.basic (fun r=>D.cell r j) out)(t:out<0):∀r,r<m -> n <= D.basic r -> D.cell r j <= 0:=by
 rcases h with ⟨_,h⟩ | ⟨x,h,_⟩
 ·exact h
 ·omega
theorem Gh{j:Nat}(h:jN n m D.basic (fun r=>D.cell r j) out)(T:0 <= out)(O:j<n)(E:n <= D.off j)(G:D.top j<0)(M:D.kQ m n (D.off j)):∃i:Nat,out=(i:Nat) /\ D.jV m n i j:=by
 rcases h with ⟨h,_⟩ | ⟨x,h,R,h1,t,C⟩
 ·omega
 ·exact⟨x,h, .col R O E G M h1 t C⟩
end
def lW(n:Nat)(o:Nat -> Nat)(f b:Nat -> Rat)(k i:Nat):Rat:=b i+sumTo k (fun c=>if o c=n+i then f c else 0)
theorem z8(n:Nat)(o:Nat -> Nat)(f b:Nat -> Rat)(i:Nat):b i=lW n o f b 0 i:=by
 show _=b i+0;grind
theorem za{n k:Nat}{o:Nat -> Nat}(f b:Nat -> Rat)(h:o k<n)(i:Nat):lW n o f b k i=lW n o f b (k+1) i:=by
 show b i+sumTo k _=b i+ (sumTo k _+ (if o k=n+i then f k else 0));rw[if_neg oM];grind
theorem zb{m n k:Nat}{D:eu}(r:D.Ok m n)(f b:Nat -> Rat)(C:k<n)(h:n <= D.off k)(t:b (D.off k-n)=0)(i:Nat):upd (lW n D.off f b k) (D.off k-n) (f k) i=lW n D.off f b (k+1) i:=by
 show _=b i+ (sumTo k _+ (if D.off k=n+i then f k else 0));by_cases e:i=D.off k-n
 ·subst e;rw[Lp.upd_same,if_pos oM,t,Lp.iF fun c E=>if_neg fun e=>by have:=r.oi c k oM C oM;omega];grind
 ·rw[Lp.eQ _ _ e,if_neg oM];show b i+sumTo k _=_;grind
inductive rf (w':World) (L:Lay) (m n:Nat) (D:eu) (e:Ending):Prop
 | opt (s A l c t B d f P cp Y cy):e= .returned (.tuple #[.agg #[.int .i64 1, .bool s, .slice A l c, .bool t, .slice B d f, .slice P n cp, .slice Y m cy, .slice none 0 0], .int .i64 (-1)]) ->
   eP w' (.agg #[.bool s, .slice A l c, .bool t, .slice B d f]) D.val -> fD w' (.slice P n cp) n (spread m D.basic D.con) -> fD w' (.slice Y m cy) m (fun i=>spread n D.off D.top (n+i)) -> D.kQ m n (n+m) -> rf w' L m n D e
 | inf (i:Nat) (Y cy):e= .returned (.tuple #[.agg #[.int .i64 2, .bool false, .slice none 0 0, .bool false, .slice none 0 0, .slice none 0 0, .slice Y m cy, .slice none 0 0], .int .i64 (-1)]) ->
   fD w' (.slice Y m cy) m (fun k=>(if D.basic i=n+k then 1 else 0)+spread n D.off (D.cell i) (n+k)) -> i<m -> n <= D.basic i -> D.con i<0 -> (∀c,c<n -> n <= D.off c -> 0 <= D.cell i c) -> rf w' L m n D e
 | unb (j:Nat):e= .returned (.tuple #[.agg #[.int .i64 3, .bool false, .slice none 0 0, .bool false, .slice none 0 0, .slice none 0 0, .slice none 0 0, .slice none 0 0], .int .i64 (j:Nat)]) ->
   j<n -> n <= D.off j -> D.top j<0 -> (∀r,r<m -> n <= D.basic r -> D.cell r j <= 0) -> rf w' L m n D e
end
section
open Go.RowKit
open Lp (RL upd eu sumTo spread eH)
def RLs(K n:Nat)(f:Nat -> Rat):Prop:=∀j,j<n -> RL K (f j)
theorem RLs.mono{K r n:Nat}{f:Nat -> Rat}(h:RLs K n f)(t:K <= r):RLs r n f:=fun j C=>(h j C).mono t
theorem ru{K n:Nat}{o:Nat -> Nat}{a:Nat -> Rat}(C:∀c d,c<n -> d<n -> o c=o d -> c=d)(h:∀c,c<n -> RL K (a c))(t:0<K)(k:Nat):RL K (spread n o a k):=by
 by_cases e:∃c,c<n /\ o c=k
 ·obtain⟨c,r,rfl⟩:=e;rw[Lp.pE C a r];exact h c r
 ·rw[Lp.nH a fun c r e'=>e ⟨c,r,e'⟩];exact RL.zero.mono t
inductive mQ (w:World) (m n K:Nat) (A:Nat -> Nat -> Rat) (b c:Nat -> Rat) (v:Value):Prop
 | opt (s A' l c' t B d f P cp Y cy q x y):v= .agg #[.int .i64 1, .bool s, .slice A' l c', .bool t, .slice B d f, .slice P n cp, .slice Y m cy, .slice none 0 0] ->
   eP w (.agg #[.bool s, .slice A' l c', .bool t, .slice B d f]) q -> fD w (.slice P n cp) n x -> fD w (.slice Y m cy) m y -> RL K q -> RLs K n x -> RLs K m y -> Lp.Opt m n A b c q x y -> mQ w m n K A b c v
 | inf (Y cy y):v= .agg #[.int .i64 2, .bool false, .slice none 0 0, .bool false, .slice none 0 0, .slice none 0 0, .slice Y m cy, .slice none 0 0] ->
   fD w (.slice Y m cy) m y -> RLs K m y -> Lp.Inf m n A b y -> mQ w m n K A b c v
 | unb (P cp R cr x d):v= .agg #[.int .i64 3, .bool false, .slice none 0 0, .bool false, .slice none 0 0, .slice P n cp, .slice none 0 0, .slice R n cr] ->
   fD w (.slice P n cp) n x -> fD w (.slice R n cr) n d -> RLs K n x -> RLs K n d -> Lp.Unb m n A b c x d -> mQ w m n K A b c v
theorem mQ.below{w w':World}{m n K:Nat}{A:Nat -> Nat -> Rat}{b c:Nat -> Rat}{v:Value}(h:mQ w m n K A b c v)(r:Below w.heap.size w w'):mQ w' m n K A b c v:=by
 cases h with
 | opt s A' l c' t B d f P M Y O q x y h1 C E G T U V W=>exact .opt s A' l c' t B d f P M Y O q x y h1 (C.below r) (E.below r) (G.below r) T U V W
 | inf Y O y h1 C E G=>exact .inf Y O y h1 (C.below r) E G
 | unb P M R cr x d h1 C E G T U=>exact .unb P M R cr x d h1 (C.below r) (E.below r) G T U
section
variable {w:World} {m n K j i:Nat} {A:Nat -> Nat -> Rat} {b c x:Nat -> Rat} {D:eu}
theorem Gi(h:D.Lim m n K):RL (K+1) D.val:=h.val.mono oM
theorem ze(h:D.Ok m n)(t:D.Lim m n K):RLs (K+1) n (spread m D.basic D.con):=fun k _=>ru h.bi (fun r C=>(t.con r C).mono oM) oM k
theorem Gj(h:D.Ok m n)(t:D.Lim m n K):RLs (K+1) m (fun i=>spread n D.off D.top (n+i)):=fun k _=>ru h.oi (fun r C=>(t.top r C).mono oM) oM (n+k)
theorem zf(h:D.Ok m n)(E:D.Lim m n K)(t:i<m):RLs (K+1) m (fun k=>(if D.basic i=n+k then 1 else 0)+spread n D.off (D.cell i) (n+k)):=fun k _=>by
 show RL (K+1) ((if D.basic i=n+k then 1 else 0)+spread n D.off (D.cell i) (n+k));by_cases e:D.basic i=n+k
 ·rw[if_pos e,Lp.nH _ fun c C e'=>h.ne i c t C (e.trans e'.symm)];rw[show(1:Rat)+0=1 by grind];exact RL.one.mono oM
 ·rw[if_neg e,show(0:Rat)+spread n D.off (D.cell i) (n+k)=spread n D.off (D.cell i) (n+k) by grind];exact ru h.oi (fun r G=>(E.cell i r t G).mono oM) oM _
theorem zg{s:Rat}(t:D.Ok m n)(G:D.Lim m n K)(C:j<n)(E:RL 1 s):RLs (K+1) n (jO D j s m):=fun k _=>by
 show RL (K+1) ((if D.off j=k then s else 0)+spread m D.basic (fun r=> -(s*D.cell r j)) k);by_cases e:D.off j=k
 ·rw[if_pos e,Lp.nH _ fun r h e'=>t.ne r j h C (e'.trans e.symm)];rw[show s+0=s by grind];exact E.mono oM
 ·rw[if_neg e,show(0:Rat)+spread m D.basic (fun r=> -(s*D.cell r j)) k=spread m D.basic (fun r=> -(s*D.cell r j)) k by grind];exact ru t.bi (fun r h=>((E.mul (G.cell r j h C)).neg).mono oM) oM _
theorem zh(r:D.Ok m n)(E:∀x g f,D.Sol m n x g f↔(eu.init n A b (fun _=>0)).Sol m n x g f)(C:j<n):D.top j=0:=by
 obtain⟨y,G,_,_⟩:=D.lQ r (fun c=>if c=j then 1 else 0) 0;have h1:=(eu.qL.1 ((E _ _ _).1 G)).2;have h:eH n (fun _=>0) y=0:=Lp.iF fun k _=>by grind
 rw[h,Lp.kM C (fun c _ t=>by rw[if_neg t];grind),if_pos rfl] at h1;grind
theorem Gl{q:Rat}(t:q≠0):0< -((((-(sgI q.num):Int)):Rat)*q):=by
 by_cases h:q<0
 ·have e:sgI q.num= -1:=by unfold sgI;rw[if_pos (yL.2 h)]
  rw[e];simp;grind
 ·have r:0<q:=by grind
  have e:sgI q.num=1:=by
   have:=uu.2 r;unfold sgI;rw[if_neg oM,if_neg oM]
  rw[e];simp;grind
theorem Gm{q:Rat}(r:q≠0):RL 1 (((-(sgI q.num):Int)):Rat):=by
 have h:sgI q.num= -1 \/ sgI q.num=1:=by
  have h0:q.num≠0:=fun e=>r (Rat.num_eq_zero.1 e)
  unfold sgI;by_cases h1:q.num<0
  ·rw[if_pos h1];exact .inl rfl
  ·rw[if_neg h1,if_neg h0];exact .inr rfl
 rcases h with e | e <;> rw[e] <;> (unfold RL;decide)
theorem Gn(C:D.Ok m n)(O:∀x g f,D.Sol m n x g f↔(eu.init n A b c).Sol m n x g f)(U:D.Zed m n)(t:j<n)(G:D.off j<n)(R:D.top j≠0)(T:Lp.jf m n A b x):
  Lp.Unb m n A b c x (jO D j (((-(sgI (D.top j).num):Int)):Rat) m):=by
 have h:=Lp.xI C O t (((-(sgI (D.top j).num):Int)):Rat) (fun h=>absurd h oM) (fun r M E=>by rw[U r j M t E G];grind) (Gl R);exact⟨T,h.1,h.2⟩
theorem Gp(t:D.Ok m n)(O:∀x g f,D.Sol m n x g f↔(eu.init n A b c).Sol m n x g f)(E:j<n)(T:D.top j<0)(G:∀r,r<m -> n <= D.basic r -> D.cell r j <= 0)(R:Lp.jf m n A b x):
  Lp.Unb m n A b c x (jO D j 1 m):=by
 have h:=Lp.xI t O E 1 (fun _=>by decide) (fun r M C=>by have:=G r M C;grind) (by grind);exact⟨R,h.1,h.2⟩
end
end
section
open Go.RowKit
open Lp (RL upd eu)
def TSN(w:World)(v:Value)(n:Nat)(s:Nat -> ByteArray):Prop:=TSA w v n s /\ (n=0 \/ ∃g o c cs,v= .slice (some ⟨g,o,none⟩) n c /\ Row w g 22 cs)
theorem TSN.below{w w':World}{v:Value}{n:Nat}{s:Nat -> ByteArray}(h:TSN w v n s)(t:Below w.heap.size w w'):TSN w' v n s:=
 ⟨h.1.below t,h.2.imp id fun⟨g,o,c,cs,h1,r⟩=>⟨g,o,c,cs,h1,r.below t r.lt⟩⟩
theorem TSN.other{w w':World}{v:Value}{n g:Nat}{s:Nat -> ByteArray}{e:TypeId}{cs:List Value}(h:TSN w v n s)(O:w.grownBy w' (some g))(hr:Row w g e cs)(Y:e≠22):TSN w' v n s:=by
 obtain⟨⟨⟨A,c,E,h1,G,W⟩,U⟩,r⟩:=h
 rcases r with r | ⟨g',o',c',V,t,T⟩
 ·exact⟨⟨⟨A,c,E,h1,G, .inl r⟩,U⟩, .inl r⟩
 ·have R:g'≠g:=fun C=>by subst C;exact Y (hr.ty T)
  refine⟨⟨⟨A,c,E,h1,G,W.imp id fun⟨b,o,M,X⟩=>⟨b,o,M,fun j Z=> ?_⟩⟩,U⟩, .inr ⟨g',o',c',V,t,T.other O R⟩⟩;have C:b=g':=by rw[E,M] at t;simp at t;exact t.1.1
  exact eG O (by rw[C];exact R) (X j Z)
theorem SK.tsn{w:World}{g n c:Nat}{s:Nat -> ByteArray}(h:SK w g n s)(r:n <= c)(t:c <= maxLen):TSN w (.slice (some ⟨g,0,none⟩) n c) n s:=by
 obtain⟨cs,C⟩:=h.row;exact⟨h.tsa r t, .inr ⟨g,0,c,cs,rfl,C⟩⟩
inductive iO (w:World) (m n K:Nat) (A:Nat -> Nat -> Rat) (b c:Nat -> Rat) (v:Value):Prop
 | opt (P cp Y cy q x y):v= .agg #[.int .i64 1, .string (eB q), .slice P n cp, .slice Y m cy, .slice none 0 0] -> TSN w (.slice P n cp) n (fun j=>eB (x j)) -> TSN w (.slice Y m cy) m (fun j=>eB (y j)) -> RL K q /\ RLs K n x /\ RLs K m y -> Lp.Opt m n A b c q x y -> iO w m n K A b c v
 | inf (Y cy y):v= .agg #[.int .i64 2, .string ⟨#[]⟩, .slice none 0 0, .slice Y m cy, .slice none 0 0] -> TSN w (.slice Y m cy) m (fun j=>eB (y j)) -> RLs K m y -> Lp.Inf m n A b y -> iO w m n K A b c v
 | unb (P cp R cr x d):v= .agg #[.int .i64 3, .string ⟨#[]⟩, .slice P n cp, .slice none 0 0, .slice R n cr] -> TSN w (.slice P n cp) n (fun j=>eB (x j)) -> TSN w (.slice R n cr) n (fun j=>eB (d j)) -> RLs K n x /\ RLs K n d -> Lp.Unb m n A b c x d -> iO w m n K A b c v
theorem iO.below{w w':World}{m n K:Nat}{A:Nat -> Nat -> Rat}{b c:Nat -> Rat}{v:Value}(h:iO w m n K A b c v)(C:Below w.heap.size w w'):iO w' m n K A b c v:=by
 cases h with
 | opt P G Y M q x y h1 r t E O=>exact .opt P G Y M q x y h1 (r.below C) (t.below C) E O
 | inf Y M y h1 r E t=>exact .inf Y M y h1 (r.below C) E t
 | unb P G R cr x d h1 r t E O=>exact .unb P G R cr x d h1 (r.below C) (t.below C) E O
theorem Row.jh{w:World}{g:Nat}{e:TypeId}{r t C E G v0 v1 v2 v3 v4:Value}(h:Row w g e [r,t,C,E,G]):
  Row (((((w.setCell ⟨g,0,none⟩ v0).setCell ⟨g,1,none⟩ v1).setCell ⟨g,2,none⟩ v2).setCell ⟨g,3,none⟩ v3).setCell ⟨g,4,none⟩ v4) g e [v0,v1,v2,v3,v4]:=((((h.set 0 v0).set 1 v1).set 2 v2).set 3 v3).set 4 v4
theorem ji(w:World)(g:Nat)(v0 v1 v2 v3 v4:Value):
  w.grownBy (((((w.setCell ⟨g,0,none⟩ v0).setCell ⟨g,1,none⟩ v1).setCell ⟨g,2,none⟩ v2).setCell ⟨g,3,none⟩ v3).setCell ⟨g,4,none⟩ v4) (some g):=
 grownBy_trans (grownBy_trans (grownBy_trans (grownBy_trans (grownBy_set _ _ _ _) (grownBy_set _ _ _ _)) (grownBy_set _ _ _ _)) (grownBy_set _ _ _ _)) (grownBy_set _ _ _ _)
theorem SK.jF{w w':World}{g g' n:Nat}{e:TypeId}{cs:List Value}{s:Nat -> ByteArray}(h:SK w g n s)(t:w.grownBy w' (some g'))(C:Row w g' e cs)(r:e≠22):SK w' g n s:=by
 obtain⟨_,E⟩:=h.row;exact h.other t (fU E C (fun e'=>r e'.symm))
end
section
open Go.RowKit
open Lp (RL upd eu eH sumTo)
theorem Gq(a:Int):(Lib.decDigits a.natAbs).length <= (Lib.itoa a).length:=by
 by_cases h:a<0
 ·rw[itoa_neg h];simp
 ·rw[jK h];exact Nat.le_refl _
theorem Gr(n:Nat):n<10^ (Lib.decDigits n).length:=by have h:=oP (nA n);rw[jJ] at h;exact h
theorem Gs{q:Rat}{K:Nat}(h:(fB q).length <= K):RL K q:=by
 have h1:=Gq q.num;have r:∀n k,(Lib.decDigits n).length <= k -> n<10^k:=fun n k C=>Nat.lt_of_lt_of_le (Gr n) (Nat.pow_le_pow_right dC C)
 by_cases e:q.den=1
 ·have t:fB q=Lib.itoa q.num:=by unfold fB;rw[if_pos e]
  rw[t] at h;refine⟨r _ _ oM,?_⟩;rw[e];have:=sN q.num.natAbs;exact Nat.lt_of_lt_of_le (show 1<10^1 by decide) (Nat.pow_le_pow_right dC oM)
 ·rw[oQ e,List.length_append,List.length_cons] at h;exact⟨r _ _ oM,r _ _ oM⟩
theorem zi(s:ByteArray):s.size=s.data.toList.length:=by rw[Array.length_toList];rfl
theorem rz{q:Rat}{K:Nat}{s:ByteArray}(h:s.data.toList=fB q)(r:s.size <= K):RL K q:=Gs (by rw[<- h, <- zi];exact r)
theorem Gt{n m:Nat}{k:Nat -> Nat}{o:Nat -> ByteArray}{t:Nat -> Nat -> ByteArray}{b:Nat -> ByteArray}(h:iq n m k o t b=0):
  n <= 96 /\ m <= 256 /\ (∀i,i<m -> k i=n) /\ (∀j,j<n -> sE (o j)=0) /\ ∀i,i<m -> kw n (t i) (b i)=0:=by
 unfold iq at h;split at h
 ·cases h
 ·split at h
  ·cases h
  ·rename_i h1 C;split at h
   ·rename_i r;exact absurd h r
   ·rename_i r;exact⟨by omega,by omega,by simpa using C,jw.1 (by simpa using r),jw.1 h⟩
theorem Gu{n m K:Nat}{k:Nat -> Nat}{o:Nat -> ByteArray}{t:Nat -> Nat -> ByteArray}{b:Nat -> ByteArray}{A:Nat -> Nat -> Rat}{E c:Nat -> Rat}(h0:iq n m k o t b=0)(h:ut n m o t b A E c)
  (O:∀j,j<n -> (o j).size <= K) (R:∀i,i<m -> ∀j,j<k i -> (t i j).size <= K) (G:∀i,i<m -> (b i).size <= K):
  (∀j,j<n -> RL K (c j)) /\ (∀i,i<m -> ∀j,j<n -> RL K (A i j)) /\ ∀i,i<m -> RL K (E i):=by
 obtain⟨_,_,M,_,_⟩:=Gt h0;exact⟨fun j C=>rz (h.obj j C) (O j C),fun i r j C=>rz (h.rows i r j C) (R i r j (by rw[M i r];exact C)),fun i r=>rz (h.bounds i r) (G i r)⟩
theorem TS.other{w w':World}{v:Value}{n:Nat}{s:Nat -> ByteArray}{g:Nat}{e:TypeId}{cs:List Value}(h:TS w v n s)(O:w.grownBy w' (some g))(T:Row w g e cs)(R:∀j,j<n -> Value.string (s j) ∉ cs):TS w' v n s:=by
 obtain⟨A,c,U,h1,G,r⟩:=h;refine⟨A,c,U,h1,G,?_⟩
 rcases r with r | ⟨b,o,M,E⟩
 ·exact .inl r
 ·refine .inr ⟨b,o,M,fun j t=>eG O ?_ (E j t)⟩;rintro rfl;have C:=E j t;rw[T.cell] at C;exact R j t (List.mem_of_getElem? C)
theorem TSA.other{w w':World}{v:Value}{n:Nat}{s:Nat -> ByteArray}{g:Nat}{e:TypeId}{cs:List Value}(h:TSA w v n s)(r:w.grownBy w' (some g))(C:Row w g e cs)(t:∀j,j<n -> Value.string (s j) ∉ cs):TSA w' v n s:=⟨h.1.other r C t,h.2⟩
theorem iO.other{w w':World}{m n K:Nat}{A:Nat -> Nat -> Rat}{b c:Nat -> Rat}{v:Value}{g:Nat}{e:TypeId}{cs:List Value}(h:iO w m n K A b c v)(E:w.grownBy w' (some g))(M:Row w g e cs)(C:e≠22):iO w' m n K A b c v:=by
 cases h with
 | opt P O Y T q x y h1 r t G U=>exact .opt P O Y T q x y h1 (r.other E M C) (t.other E M C) G U
 | inf Y T y h1 r G t=>exact .inf Y T y h1 (r.other E M C) G t
 | unb P O R cr x d h1 r t G U=>exact .unb P O R cr x d h1 (r.other E M C) (t.other E M C) G U
theorem iO.shape{w:World}{m n K:Nat}{A:Nat -> Nat -> Rat}{b c:Nat -> Rat}{v:Value}(h:iO w m n K A b c v):∃ (T:Int) (s:ByteArray) (r:Option Addr) (U C:Nat) (t:Option Addr) (V E:Nat) (A2:Option Addr) (W G:Nat),v= .agg #[.int .i64 T, .string s, .slice r U C, .slice t V E, .slice A2 W G]:=by
 cases h with
 | opt P M Y O q x y h1=>exact⟨_,_,_,_,_,_,_,_,_,_,_,h1⟩
 | inf Y O y h1=>exact⟨_,_,_,_,_,_,_,_,_,_,_,h1⟩
 | unb P M R cr x d h1=>exact⟨_,_,_,_,_,_,_,_,_,_,_,h1⟩
def Gv(w':World)(n m Kq:Nat)(k:Nat -> Nat)(o:Nat -> ByteArray)(t:Nat -> Nat -> ByteArray)(b:Nat -> ByteArray)(e:Ending):Prop:=
 (iq n m k o t b≠0 /\ e= .returned (.tuple #[.agg #[.int .i64 0, .string ⟨#[]⟩, .slice none 0 0, .slice none 0 0, .slice none 0 0], .int .i64 (iq n m k o t b:Nat)])) \/
 (iq n m k o t b=0 /\ ∃A bq c v,ut n m o t b A bq c /\ iO w' m n Kq A bq c v /\ e= .returned (.tuple #[v, .int .i64 0]))
section
variable {w:World} {K:Nat} {A:Nat -> Nat -> Rat} {b c:Nat -> Rat} {v:Value}
end
end
section
open Go.RowKit
section
variable (s:ByteArray) (w:World)
end
end
section
open Go.RowKit
end
section
open Go.RowKit
def D64(w:World)(A:Option Addr)(l:List Nat):Prop:=Cells w A l.length (fun j=> .int .i64 (dg l j:Nat))
theorem D64.below{w w':World}{A:Option Addr}{l:List Nat}(h:D64 w A l)(r:Below w.heap.size w w'):D64 w' A l:=Cells.below h r
theorem D64.trimmed{w:World}{A:Option Addr}{l:List Nat}(h:D64 w A l)(t:T.Dig l):D64 w A (T.ek (T.val l)):=by
 obtain⟨h1,r⟩:=T.qw t;refine(Cells.take h h1).congr fun j C=> ?_
 rw[<- r,mX,if_pos C]
def IsD(w:World)(v:Value)(l:List Nat):Prop:=∃A c,v= .slice A l.length c /\ l.length <= c /\ c <= maxLen /\ D64 w A l
theorem IsD.below{w w':World}{v:Value}{l:List Nat}(h:IsD w v l)(r:Below w.heap.size w w'):IsD w' v l:=by
 obtain⟨A,c,G,C,t,E⟩:=h;exact⟨A,c,G,C,t,Cells.below E r⟩
def dV(d:Nat):Value:= .int .i64 (d:Nat)
theorem uB{l:List Nat}{j:Nat}(h:j<l.length):(l.map dV)[j]? =some (.int .i64 (dg l j:Nat)):=by
 rw[kU h];simp[h,dV]
theorem Gw{w:World}{base n:Nat}{e:TypeId}{v:Value}{l:List Nat}(h:w.ownsRow base e 1 v n (l.map dV)):IsD w v l:=by
 have M:n=l.length:=by have:=h.1;rw[List.length_map] at this;omega
 subst M
 rcases h.2 with ⟨rfl,r⟩ | ⟨g,cap,R,rfl,_,C,h1,t,T,U⟩
 ·have G:l= []:=by simpa using r
  subst G;exact⟨none,0,rfl,Nat.le_refl _,by unfold maxLen;omega, .inl rfl⟩
 ·refine⟨some ⟨g,0,none⟩,cap,rfl,h1,t, .inr ⟨g,0,rfl,fun j E=> ?_,_,_,_,C,fun z O=>by simp at O⟩⟩;rw[Nat.zero_add,World.ownsRow.cellAt h j oM];exact uB E
theorem Gx{w w':World}{base size n:Nat}{e:TypeId}{v:Value}{xs:List Value}(h:w.ownsRow base e size v n xs)(C:Below w.heap.size w w'):w'.ownsRow base e size v n xs:=by
 refine⟨h.1,?_⟩
 rcases h.2 with G | ⟨g,cap,t,rfl,E,r,rest⟩
 ·exact .inl G
 ·exact .inr ⟨g,cap,t,rfl,E,(C.block g (Array.getElem?_eq_some_iff.1 r).1).trans r,rest⟩
theorem Cells.grown{w w':World}{A:Option Addr}{n B:Nat}{r:Option Nat}{f:Nat -> Value}(h:Cells w A n f)(T:∀b t,A=some ⟨b,t,none⟩ -> b<B)(E:w.grownBy w' r)(U:∀k,r=some k -> B <= k):Cells w' A n f:=by
 rcases h with h | ⟨b,t,C,O,M⟩
 ·exact .inl h
 ·have G:some b≠r:=by
   intro e;have h1:=U _ e.symm;have V:=T b t C;omega
  refine .inr ⟨b,t,C,fun j R=>E.cell (O j R) G,M.mD (E.block b ?_ G)⟩;obtain⟨_,_,_,h1,_⟩:=M;exact(Array.getElem?_eq_some_iff.1 h1).1
def lJ(w:World)(base:Nat)(e:TypeId)(v:Value)(xs:List Value):Prop:=w.ownsRow base e 1 v xs.length xs
theorem lJ.nil(w:World)(base:Nat)(e:TypeId):lJ w base e (.slice none 0 0) []:=World.ownsRow_nil _ _ _ _
theorem lJ.below{w w':World}{base:Nat}{e:TypeId}{v:Value}{xs:List Value}(h:lJ w base e v xs)(r:Below w.heap.size w w'):lJ w' base e v xs:=Gx h r
theorem lJ.isD{w:World}{base:Nat}{e:TypeId}{v:Value}{l:List Nat}(h:lJ w base e v (l.map dV)):IsD w v l:=Gw h
def jG(B:Nat)(w:World)(v:Value)(l:List Nat):Prop:=
 (v= .slice none 0 0 /\ l= []) \/ ∃b off c,v= .slice (some ⟨b,off,none⟩) l.length c /\ B <= b /\ b<w.heap.size /\ l.length <= c /\ c <= maxLen /\ D64 w (some ⟨b,off,none⟩) l
theorem jG.nil(B:Nat)(w:World):jG B w (.slice none 0 0) []:= .inl ⟨rfl,rfl⟩
theorem jG.isD{B:Nat}{w:World}{v:Value}{l:List Nat}(h:jG B w v l):IsD w v l:=by
 rcases h with ⟨rfl,rfl⟩ | ⟨b,C,c,rfl,_,_,h1,r,t⟩
 ·exact⟨none,0,rfl,Nat.le_refl _,by unfold maxLen;omega, .inl rfl⟩
 ·exact⟨_,_,rfl,h1,r,t⟩
theorem jG.below{B:Nat}{w w':World}{v:Value}{l:List Nat}(h:jG B w v l)(r:Below w.heap.size w w'):jG B w' v l:=by
 rcases h with h | ⟨b,G,c,rfl,h0,E,h1,t,C⟩
 ·exact .inl h
 ·exact .inr ⟨b,G,c,rfl,h0,Nat.lt_of_lt_of_le E r.size,h1,t,Cells.below C r⟩
theorem jG.mono{B r:Nat}{w:World}{v:Value}{l:List Nat}(h:jG B w v l)(G:r <= B):jG r w v l:=by
 rcases h with h | ⟨b,M,c,rfl,h0,E,h1,t,C⟩
 ·exact .inl h
 ·exact .inr ⟨b,M,c,rfl,Nat.le_trans G h0,E,h1,t,C⟩
theorem jG.set{B g i:Nat}{w:World}{v x:Value}{l:List Nat}(h:jG B w v l)(T:g<B):jG B (w.setCell ⟨g,i,none⟩ x) v l:=by
 rcases h with h | ⟨b,t,c,rfl,h0,G,h1,E,r⟩
 ·exact .inl h
 ·refine .inr ⟨b,t,c,rfl,h0,by simpa using G,h1,E,?_⟩
  rcases r with r | ⟨b',U,C,M,R⟩
  ·exact .inl r
  ·simp only[Option.some.injEq,Addr.mk.injEq,and_true] at C;obtain⟨rfl,rfl⟩:=C;exact .inr ⟨b,t,rfl,fun j O=>(cell_far w g i b (t+j) x oM).trans (M j O),R.mD (heap_setCell_other w ⟨g,i,none⟩ b x (by simp;omega))⟩
theorem lJ.fresh{w:World}{base:Nat}{e:TypeId}{v:Value}{l:List Nat}(h:lJ w base e v (l.map dV)):jG base w v l:=by
 have r:w.ownsRow base e 1 v l.length (l.map dV):=by have:=h;unfold lJ at this;rwa [List.length_map] at this
 rcases r.2 with ⟨rfl,M⟩ | ⟨g,cap,R,rfl,E,t,h1,C,T,U⟩
 ·exact .inl ⟨rfl,List.eq_nil_of_length_eq_zero M⟩
 ·refine .inr ⟨g,0,cap,rfl,E,(Array.getElem?_eq_some_iff.1 t).1,h1,C, .inr ⟨g,0,rfl,fun j G=> ?_,_,_,_,t,fun z O=>by simp at O⟩⟩;rw[Nat.zero_add,World.ownsRow.cellAt r j oM];exact uB G
end
section
open Go.RowKit
end
section
open Go.RowKit
end
section
open Go.RowKit
end
section
open Go.RowKit
end
section
open Go.RowKit
end
section
open Go.RowKit
end
section
open Go.RowKit
def Few(a:Int):Prop:=(T.ek a.natAbs).length<1000000000
theorem Few.lt{a:Int}(h:Few a):(T.ek a.natAbs).length<1099511627776:=Nat.lt_trans h dC
theorem Few.le{a:Int}(h:Few a):(T.ek a.natAbs).length <= 1099511627776:=Nat.le_of_lt h.lt
end
end Go.Proofs.YtokagbahdkfagaaGreatDoor
