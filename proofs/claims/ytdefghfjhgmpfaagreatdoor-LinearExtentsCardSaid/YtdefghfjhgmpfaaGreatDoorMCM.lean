/- Parts of this proof: LExtents. -/
import Derived.Test.YtdefghfjhgmpfaaGreatDoorMAE
import Derived.Test.YtdefghfjhgmpfaaGreatDoorMBJ
import Derived.Test.YtdefghfjhgmpfaaGreatDoorMCL
import Derived.Test.YtdefghfjhgmpfaaGreatDoorMBV
import Derived.Test.YtdefghfjhgmpfaaGreatDoorMBS
import Derived.Test.YtdefghfjhgmpfaaGreatDoorMAZ
import Derived.Test.YtdefghfjhgmpfaaGreatDoorMBY
import Derived.Test.YtdefghfjhgmpfaaGreatDoorMCJ
import Derived.Test.YtdefghfjhgmpfaaGreatDoorMAV
import Derived.Test.YtdefghfjhgmpfaaGreatDoorMBQ
namespace Go.Proofs.YtdefghfjhgmpfaaGreatDoor
open Go.Proofs.Tryz
open Go.RowKit
open Lp (RL upd eu)
theorem jk.eq{n m:Nat}{o:Nat -> ByteArray}{t:Nat -> Nat -> ByteArray}{b:Nat -> ByteArray}{A A':Nat -> Nat -> Rat}{C E c c':Nat -> Rat}{M:Nat -> ByteArray}(h:jk n m o t b A C c)(F:jk n m M t b A' E c'):(∀i,i<m -> ∀j,j<n -> A i j=A' i j) /\ ∀i,i<m -> C i=E i:=
 ⟨fun i r j G=>lq (h.rows i r j G) (F.rows i r j G),fun i r=>lq (h.bounds i r) (F.bounds i r)⟩
theorem Lb{m n:Nat}{kk:Int}{A A':Nat -> Nat -> Rat}{b b' c c' x y d:Nat -> Rat}{q:Rat}(r:∀i,i<m -> ∀j,j<n -> A i j=A' i j)(t:∀i,i<m -> b i=b' i)(C:∀j,j<n -> c j=c' j)(h:kI m n kk A b c q x y d):kI m n kk A' b' c' q x y d:=
 ⟨fun e=>IL r t C (fun _ _=>rfl) (fun _ _=>rfl) rfl (h.1 e),fun e=>IM r t (fun _ _=>rfl) (h.2.1 e),fun e=>IP r t C (fun _ _=>rfl) (fun _ _=>rfl) (h.2.2 e)⟩
theorem L9{n m:Nat}{o:Nat -> ByteArray}{t:Nat -> Nat -> ByteArray}{b:Nat -> ByteArray}{A A':Nat -> Nat -> Rat}{C E c c' d x y z x' y' R:Nat -> Rat}{kk:Int}{q q':Rat}{O:OTx}{Z:Nat -> ByteArray}(G:jk n m o t b A C c)(M:jk n m Z t b A' E c')(V:∀j,j<n -> d j=c' j)
  (X:1 <= kk /\ kk <= 3) (Y:1 <= O.kk /\ O.kk <= 3) (h:kI m n kk A C d q x y z) (W:O.Is q' x' y' R) (U:kI m n O.kk A' E c' q' x' y' R):O.kk=kk /\ (kk=1 -> O.s=eF q):=by
 obtain⟨r,T⟩:=KM Y X U (Lb (G.eq M).1 (G.eq M).2 V h);refine⟨r,fun e=> ?_⟩;have F:=jE (W.val (r.trans e));rw[T (r.trans e)] at F;exact F
theorem Lc{m n:Nat}(C:m <= 8)(r:n <= 6):2* (Lp.wide m n 13+1)+5 <= 13627:=by
 have h:=Lp.yY (m:=m) (n:=n) (k:=13) (p:=6) (N:=6) (K:=13) oM r (Nat.le_refl _);have t:Lp.wb 6 (13* (6+2))+13* (6+1)=6810:=dC
 omega
theorem Ld(z:Int):(Lib.itoa (-z)).length <= (Lib.itoa z).length+1:=by
 by_cases h:z<0
 ·rw[itoa_neg h,iW oM,Int.natAbs_neg,List.length_cons];omega
 ·by_cases r: -z<0
  ·rw[itoa_neg r,iW h,Int.natAbs_neg,List.length_cons];omega
  ·rw[iW r,iW h,Int.natAbs_neg];omega
theorem Le(q:Rat):(eF (-q)).size <= (eF q).size+1:=by
 rw[Iw,Iw,jI,jI];unfold fA;rw[Rat.neg_den,Rat.neg_num];have:=Ld q.num;split
 ·exact this
 ·simp only[List.length_append,List.length_cons];omega
theorem Lf{n m:Nat}{k:Nat -> Nat}{o E:Nat -> ByteArray}{t:Nat -> Nat -> ByteArray}{b:Nat -> ByteArray}(h:fD n m k o t b=0)(F:fo n (fun j=>sE (E j))=0):fD n m k E t b=0:=by
 unfold fD at h ⊢;by_cases h1:96<n \/ 256<m
 ·rw[if_pos h1] at h;cases h
 ·rw[if_neg h1] at h ⊢;by_cases C:¬(∀i,i<m -> k i=n)
  ·rw[if_pos C] at h;cases h
  ·rw[if_neg C] at h ⊢;rw[F,if_neg (by simp)];by_cases r:fo n (fun j=>sE (o j))≠0
   ·rw[if_pos r] at h;exact absurd h r
   ·rw[if_neg r] at h;exact h
set_option maxRecDepth 100000 in
set_option maxHeartbeats 12800000 in
theorem Lg(vo vr:Value)(n m:Nat)(k:Nat -> Nat)(o:Nat -> ByteArray)(t:Nat -> Nat -> ByteArray)(b:Nat -> ByteArray)(w:World)(ho:TSA w vo n o)(hr:TRA w vr m k t b)(M:iG w)(ht:Tab w):
  Calls prog 5 #[vo,vr] w fun e w'=>e= .returned (.bool true) /\ Below w.heap.size w w':=by
 obtain⟨AO,cO,rfl,_,_⟩:=ho.1.shape;obtain⟨AR,cR,rfl,_,_⟩:=hr.kG.shape;have HO:=lH ho;have HR:=lH hr;have ai:=lH M;have aj:=lH ht;clear ho hr M ht;go_enter func5,ntmps5;go_wp2_with fail
 refine(pW _ ai.o aj.o).mono ?_;rintro e w1 ⟨rfl,r⟩;have C:=lH r;clear r;go_wp2_with fail
 refine(JR AO AR n m cO cR k o t b _ (HO.o.1.below C.o) (HR.o.kG.below C.o)).mono ?_;rintro e w2 ⟨hf,r⟩;replace C:=bT C r;clear r
 rcases hf with ⟨hf,rfl⟩ | ⟨_,rfl⟩
 ·have U:=lH hf.fit;clear hf;obtain⟨E,hE⟩:=eX (fD n m k o t b);have HE:=lH hE;clear hE;obtain⟨w3,a5⟩:=eX (w2.alloc (.cells #[.slice AO n cO, .slice AR m cR] 25));obtain⟨gP,ab⟩:=eX (w2.heap.size);have ac:Below w2.heap.size w2 w3:=by rw[a5];exact eD _ _
  have W:Hid (Row w3 gP 25 [.slice AO n cO, .slice AR m cR]):=lH (by rw[a5,ab];exact eP _ _);replace C:=bT C ac;clear ac;obtain⟨aH,aJ⟩:=aT2 W.o;have aK:=W.o.lt;rw[a5] at aH aJ aK;rw[ab] at aH aJ aK;go_wp2_with fail
  rw[<- a5, <- ab];clear a5 ab aH aJ aK;refine(ry AO AR n m cO cR k o t b _ (HO.o.1.below C.o) (HR.o.kG.below C.o) (by have:=U.o.1;omega) (by have:=U.o.2.1;omega) (fun j hj=>by have:=U.o.2.2.2.1 j hj;omega) (fun i hi j hj=>by have:=U.o.2.2.2.2.1 i hi j hj;omega) (fun i hi=>by have:=U.o.2.2.2.2.2 i hi;omega)).mono ?_;rintro e w4 ⟨rfl,r⟩;replace W:=rW W r;replace C:=bT C r;clear r;rw[<- HE.o];have ah:Hid (gP<w4.heap.size):=lH W.o.lt;have ag:Hid (w.heap.size <= w4.heap.size):=lH C.o.size
  go_upto_region 5 with (fail)
  go_cut [7,8] (fun v z wx=>∃ (gX:Nat) (Z s2:ByteArray) (R X zz:Int),v= .pointer (some ⟨gX,0,none⟩) /\ z= .int .i64 zz /\ Hid (L8 n m k o t b Z s2 R X zz) /\ Hid (Row wx gX 45 [.string Z, .string s2, .int .i64 R, .int .i64 X]) /\ Hid (Row wx gP 25 [.slice AO n cO, .slice AR m cR]) /\ Hid (Below w.heap.size w wx))
  case first=>
   have bR:=W.o.lt;obtain⟨bs,bu⟩:=aT2 W.o;have KS:=lH (kC bs (kN bu));clear bR bs bu;refine kT (fun w'=> w'.cell? ⟨gP,0,none⟩=some (.slice AO n cO) /\ w'.cell? ⟨gP,1,none⟩=some (.slice AR m cR)) (fun _=>false) kR ?_;obtain⟨aN,a1⟩:=eX (w4.drew);rw[<- a1];have r:Below w4.heap.size w4 aN:=by rw[a1];exact(Below.refl _ _).drew
   clear a1;replace W:=rW W r;replace C:=bT C r;have V:=lH r;clear r;have F:=KS.o _ V.o;refine tKs 0 30 F ?_;refine tKs 2 32 F ?_;refine lw (rs:=[1,9]) kR (by simp) (gG.cons rfl (fun K G=> ?_) (gG.cons rfl (fun K G=> ?_) gG.nil))
   ·go_simp;refine(zX _ n o _ (HO.o.below C.o) (by have:=U.o.1;omega)).mono ?_;rintro e aq ⟨va,rfl,a7,_,_,r⟩;replace W:=rW W r;replace C:=bT C r;replace V:=bT V r;clear r;obtain⟨Av,cv,rfl,_,_⟩:=eY.shape a7;have Vv:=lH a7;clear a7;clear F;have F:=KS.o _ V.o;refine kH G F ?_;clear G K;refine lw (rs:=[3,9]) kR (by simp) (gG.cons rfl (fun K G=> ?_) (gG.cons rfl (fun K G=> ?_) gG.nil))
    ·go_simp;refine(vX AO AR n m cO cR k o t b _ (HO.o.below C.o) (HR.o.below C.o) (by have:=U.o.1;omega) (by have:=U.o.2.1;omega) (fun i hi=>by have:=U.o.2.2.1 i hi;omega)).mono ?_;rintro e al ⟨vc,uc,rfl,a7,ad,r⟩;replace W:=rW W r;replace Vv:=lH (eY.below Vv.o r);replace C:=bT C r;replace V:=bT V r;clear r;obtain⟨Ac,cc,rfl,_,_⟩:=eY.shape a7;obtain⟨A9,c9,rfl,_,_⟩:=ad.shape;have Vu:=lH ad;clear a7 ad;have aC:=lH (show ∀w:World,(Instr.field 25 (.agg #[.slice Ac n cc, .slice A9 m c9]) 1).run prog w= .ok (.slice A9 m c9) w from fun _=>by kernel_rfl);clear F;have F:=KS.o _ V.o;refine kH G F ?_;clear G K;refine jf (i:=4) (v:= .slice A9 m c9) (some 34) rfl (by rfl) kR kR kR kR (fun _ _ _ h=>h) (Or.inl ⟨by rfl,?_⟩) F ?_
     ·(intro w' aA;clear aA;go_simp;rw[aC.o];rfl)
     simp only[Act.put,List.setIfInBounds_toArray,List.set_cons_zero,List.set_cons_succ];refine lw (rs:=[5,9]) kR (by simp) (gG.cons rfl (fun K G=> ?_) (gG.cons rfl (fun K G=> ?_) gG.nil))
     ·go_simp;refine(L6 Av A9 n m cv c9 k o t b 12 _ (fH.ts Vv.o) Vu.o.kG (by have:=U.o.1;omega) (by have:=U.o.2.1;omega) dC dC (by have:=CO U.o.2.1 U.o.1;omega) U.o.2.2.2.1 U.o.2.2.2.2.1 U.o.2.2.2.2.2 (aj.o.below C.o) (ai.o.below C.o)).mono ?_;rintro e a9 ⟨⟨Z,s2,R,X,zz,rfl,a8⟩,r⟩;replace W:=rW W r;replace C:=bT C r;replace V:=bT V r;clear r;have a6:=lH a8;clear a8;clear F;have F:=KS.o _ V.o;refine kH G F ?_;clear G K;refine tKs 6 29 F ?_;refine tKs 7 36 F ?_;refine lw (rs:=[8,9]) kR (by simp) (gG.cons rfl (fun K G=> ?_) (gG.cons rfl (fun K G=> ?_) gG.nil))
      ·go_simp;refine kH G F ?_;clear G K;refine rD 9 (fun K G=> ?_);go_simp;obtain⟨O,a3⟩:=eX (a9.heap.size);obtain⟨a0,a1⟩:=eX (a9.alloc (.cells #[.string ⟨#[]⟩, .string ⟨#[]⟩, .int .i64 0, .int .i64 0] 45));have r:Below a9.heap.size a9 a0:=by rw[a1];exact eD _ _
       have Y:Hid (Row a0 O 45 [.string ⟨#[]⟩, .string ⟨#[]⟩, .int .i64 0, .int .i64 0]):=lH (by rw[a1,a3];exact eP _ _);have a4:Hid (w4.heap.size <= O):=lH (by rw[a3];exact V.o.size);rw[<- a1, <- a3];clear a1 a3;replace W:=rW W r;replace C:=bT C r;replace V:=bT V r;clear r;clear F;have F:=KS.o _ V.o;refine kH G F ?_;clear G K;refine rD 10 (fun K G=> ?_);have M:World.grownBy a0 ((((a0.setCell ⟨O,0,none⟩ (.string Z)).setCell ⟨O,1,none⟩ (.string s2)).setCell ⟨O,2,none⟩ (.int .i64 R)).setCell ⟨O,3,none⟩ (.int .i64 X)) (some O):=il a0 O 0 1 2 3 (.string Z) (.string s2) (.int .i64 R) (.int .i64 X);have T:gP≠O:=by have:=a4.o;have:=ah.o;omega
       obtain⟨k0,f0,k1,f1,k2,f2,k3,f3⟩:=aF4 Y.o;have kl:=Y.o.lt;go_simp;refine G.out _ _ (fun _=>⟨fP M T F.1,fP M T F.2⟩) ?_;clear G K;refine tKs 11 8 ⟨fP M T F.1,fP M T F.2⟩ ?_;refine dN ?_ _;clear F KS V kl k0 f0 k1 f1 k2 f2 k3 f3;have R:=(((Y.o.set 0 (.string Z)).set 1 (.string s2)).set 2 (.int .i64 R)).set 3 (.int .i64 X);have e4:=W.o.other M T;have e5:=C.o.grown M C.o.size (by have:=a4.o;have:=ag.o;first | (simp;done) | (simp;omega));go_wp2_with fail
       go_meet
       exact⟨O,Z,s2,_,_,_,rfl,rfl,a6,lH R,lH e4,lH e5⟩
      ·go_simp;obtain⟨O,a3⟩:=eX (a9.heap.size);obtain⟨a0,a1⟩:=eX (a9.alloc (.cells #[.string ⟨#[]⟩, .string ⟨#[]⟩, .int .i64 0, .int .i64 0] 45));have r:Below a9.heap.size a9 a0:=by rw[a1];exact eD _ _
       have Y:Hid (Row a0 O 45 [.string ⟨#[]⟩, .string ⟨#[]⟩, .int .i64 0, .int .i64 0]):=lH (by rw[a1,a3];exact eP _ _);have a4:Hid (w4.heap.size <= O):=lH (by rw[a3];exact V.o.size);rw[<- a1, <- a3];clear a1 a3;replace W:=rW W r;replace C:=bT C r;replace V:=bT V r;clear r;clear F;have F:=KS.o _ V.o;refine kH G F ?_;clear G K;refine lw (rs:=[8,10]) kR (by simp) (gG.cons rfl (fun K G=> ?_) (gG.cons rfl (fun K G=> ?_) gG.nil))
       ·go_simp;refine kH G F ?_;clear G K;refine rD 10 (fun K G=> ?_);have M:World.grownBy a0 ((((a0.setCell ⟨O,0,none⟩ (.string Z)).setCell ⟨O,1,none⟩ (.string s2)).setCell ⟨O,2,none⟩ (.int .i64 R)).setCell ⟨O,3,none⟩ (.int .i64 X)) (some O):=il a0 O 0 1 2 3 (.string Z) (.string s2) (.int .i64 R) (.int .i64 X);have T:gP≠O:=by have:=a4.o;have:=ah.o;omega
        obtain⟨k0,f0,k1,f1,k2,f2,k3,f3⟩:=aF4 Y.o;have kl:=Y.o.lt;go_simp;refine G.out _ _ (fun _=>⟨fP M T F.1,fP M T F.2⟩) ?_;clear G K;refine tKs 11 8 ⟨fP M T F.1,fP M T F.2⟩ ?_;refine dN ?_ _;clear F KS V kl k0 f0 k1 f1 k2 f2 k3 f3;have R:=(((Y.o.set 0 (.string Z)).set 1 (.string s2)).set 2 (.int .i64 R)).set 3 (.int .i64 X);have e4:=W.o.other M T;have e5:=C.o.grown M C.o.size (by have:=a4.o;have:=ag.o;first | (simp;done) | (simp;omega));go_wp2_with fail
        go_meet
        exact⟨O,Z,s2,_,_,_,rfl,rfl,a6,lH R,lH e4,lH e5⟩
       ·have M:World.grownBy a0 ((((a0.setCell ⟨O,0,none⟩ (.string Z)).setCell ⟨O,1,none⟩ (.string s2)).setCell ⟨O,2,none⟩ (.int .i64 R)).setCell ⟨O,3,none⟩ (.int .i64 X)) (some O):=il a0 O 0 1 2 3 (.string Z) (.string s2) (.int .i64 R) (.int .i64 X);have T:gP≠O:=by have:=a4.o;have:=ah.o;omega
        obtain⟨k0,f0,k1,f1,k2,f2,k3,f3⟩:=aF4 Y.o;have kl:=Y.o.lt;go_simp;refine G.out _ _ (fun _=>⟨fP M T F.1,fP M T F.2⟩) ?_;clear G K;refine rD 8 (fun K G=> ?_);go_simp;refine G.out _ _ (fun _=>⟨fP M T F.1,fP M T F.2⟩) ?_;clear G K;refine tKs 11 8 ⟨fP M T F.1,fP M T F.2⟩ ?_;refine dN ?_ _;clear F KS V kl k0 f0 k1 f1 k2 f2 k3 f3;have R:=(((Y.o.set 0 (.string Z)).set 1 (.string s2)).set 2 (.int .i64 R)).set 3 (.int .i64 X);have e4:=W.o.other M T;have e5:=C.o.grown M C.o.size (by have:=a4.o;have:=ag.o;first | (simp;done) | (simp;omega));go_wp2_with fail
        go_meet
        exact⟨O,Z,s2,_,_,_,rfl,rfl,a6,lH R,lH e4,lH e5⟩
     ·go_simp;obtain⟨O,a3⟩:=eX (al.heap.size);obtain⟨a9,a1⟩:=eX (al.alloc (.cells #[.string ⟨#[]⟩, .string ⟨#[]⟩, .int .i64 0, .int .i64 0] 45));have r:Below al.heap.size al a9:=by rw[a1];exact eD _ _
      have Y:Hid (Row a9 O 45 [.string ⟨#[]⟩, .string ⟨#[]⟩, .int .i64 0, .int .i64 0]):=lH (by rw[a1,a3];exact eP _ _);have a4:Hid (w4.heap.size <= O):=lH (by rw[a3];exact V.o.size);rw[<- a1, <- a3];clear a1 a3;replace W:=rW W r;replace Vv:=lH (eY.below Vv.o r);replace Vu:=lH (Vu.o.below r);replace C:=bT C r;replace V:=bT V r;clear r;clear F;have F:=KS.o _ V.o;refine kH G F ?_;clear G K;refine rD 5 (fun K G=> ?_);go_simp;refine(L6 Av A9 n m cv c9 k o t b 12 _ (fH.ts Vv.o) Vu.o.kG (by have:=U.o.1;omega) (by have:=U.o.2.1;omega) dC dC (by have:=CO U.o.2.1 U.o.1;omega) U.o.2.2.2.1 U.o.2.2.2.2.1 U.o.2.2.2.2.2 (aj.o.below C.o) (ai.o.below C.o)).mono ?_;rintro e a0 ⟨⟨Z,s2,R,X,zz,rfl,a8⟩,r⟩;replace Y:=rW Y r;replace W:=rW W r;replace C:=bT C r;replace V:=bT V r;clear r;have a6:=lH a8;clear a8;clear F;have F:=KS.o _ V.o;refine kH G F ?_;clear G K;refine tKs 6 29 F ?_;refine tKs 7 36 F ?_;refine lw (rs:=[8,10]) kR (by simp) (gG.cons rfl (fun K G=> ?_) (gG.cons rfl (fun K G=> ?_) gG.nil))
      ·go_simp;refine kH G F ?_;clear G K;refine rD 10 (fun K G=> ?_);have M:World.grownBy a0 ((((a0.setCell ⟨O,0,none⟩ (.string Z)).setCell ⟨O,1,none⟩ (.string s2)).setCell ⟨O,2,none⟩ (.int .i64 R)).setCell ⟨O,3,none⟩ (.int .i64 X)) (some O):=il a0 O 0 1 2 3 (.string Z) (.string s2) (.int .i64 R) (.int .i64 X);have T:gP≠O:=by have:=a4.o;have:=ah.o;omega
       obtain⟨k0,f0,k1,f1,k2,f2,k3,f3⟩:=aF4 Y.o;have kl:=Y.o.lt;go_simp;refine G.out _ _ (fun _=>⟨fP M T F.1,fP M T F.2⟩) ?_;clear G K;refine tKs 11 8 ⟨fP M T F.1,fP M T F.2⟩ ?_;refine dN ?_ _;clear F KS V kl k0 f0 k1 f1 k2 f2 k3 f3;have R:=(((Y.o.set 0 (.string Z)).set 1 (.string s2)).set 2 (.int .i64 R)).set 3 (.int .i64 X);have e4:=W.o.other M T;have e5:=C.o.grown M C.o.size (by have:=a4.o;have:=ag.o;first | (simp;done) | (simp;omega));go_wp2_with fail
       go_meet
       exact⟨O,Z,s2,_,_,_,rfl,rfl,a6,lH R,lH e4,lH e5⟩
      ·have M:World.grownBy a0 ((((a0.setCell ⟨O,0,none⟩ (.string Z)).setCell ⟨O,1,none⟩ (.string s2)).setCell ⟨O,2,none⟩ (.int .i64 R)).setCell ⟨O,3,none⟩ (.int .i64 X)) (some O):=il a0 O 0 1 2 3 (.string Z) (.string s2) (.int .i64 R) (.int .i64 X);have T:gP≠O:=by have:=a4.o;have:=ah.o;omega
       obtain⟨k0,f0,k1,f1,k2,f2,k3,f3⟩:=aF4 Y.o;have kl:=Y.o.lt;go_simp;refine G.out _ _ (fun _=>⟨fP M T F.1,fP M T F.2⟩) ?_;clear G K;refine rD 8 (fun K G=> ?_);go_simp;refine G.out _ _ (fun _=>⟨fP M T F.1,fP M T F.2⟩) ?_;clear G K;refine tKs 11 8 ⟨fP M T F.1,fP M T F.2⟩ ?_;refine dN ?_ _;clear F KS V kl k0 f0 k1 f1 k2 f2 k3 f3;have R:=(((Y.o.set 0 (.string Z)).set 1 (.string s2)).set 2 (.int .i64 R)).set 3 (.int .i64 X);have e4:=W.o.other M T;have e5:=C.o.grown M C.o.size (by have:=a4.o;have:=ag.o;first | (simp;done) | (simp;omega));go_wp2_with fail
       go_meet
       exact⟨O,Z,s2,_,_,_,rfl,rfl,a6,lH R,lH e4,lH e5⟩
    ·go_simp;obtain⟨O,a3⟩:=eX (aq.heap.size);obtain⟨al,a1⟩:=eX (aq.alloc (.cells #[.string ⟨#[]⟩, .string ⟨#[]⟩, .int .i64 0, .int .i64 0] 45));have r:Below aq.heap.size aq al:=by rw[a1];exact eD _ _
     have Y:Hid (Row al O 45 [.string ⟨#[]⟩, .string ⟨#[]⟩, .int .i64 0, .int .i64 0]):=lH (by rw[a1,a3];exact eP _ _);have a4:Hid (w4.heap.size <= O):=lH (by rw[a3];exact V.o.size);rw[<- a1, <- a3];clear a1 a3;replace W:=rW W r;replace Vv:=lH (eY.below Vv.o r);replace C:=bT C r;replace V:=bT V r;clear r;clear F;have F:=KS.o _ V.o;refine kH G F ?_;clear G K;refine rD 3 (fun K G=> ?_);go_simp;refine(vX AO AR n m cO cR k o t b _ (HO.o.below C.o) (HR.o.below C.o) (by have:=U.o.1;omega) (by have:=U.o.2.1;omega) (fun i hi=>by have:=U.o.2.2.1 i hi;omega)).mono ?_;rintro e a9 ⟨vc,uc,rfl,a7,ad,r⟩;replace Y:=rW Y r;replace W:=rW W r;replace Vv:=lH (eY.below Vv.o r);replace C:=bT C r;replace V:=bT V r;clear r;obtain⟨Ac,cc,rfl,_,_⟩:=eY.shape a7;obtain⟨A9,c9,rfl,_,_⟩:=ad.shape;have Vu:=lH ad;clear a7 ad;have aC:=lH (show ∀w:World,(Instr.field 25 (.agg #[.slice Ac n cc, .slice A9 m c9]) 1).run prog w= .ok (.slice A9 m c9) w from fun _=>by kernel_rfl);clear F;have F:=KS.o _ V.o;refine kH G F ?_;clear G K;refine jf (i:=4) (v:= .slice A9 m c9) (some 34) rfl (by rfl) kR kR kR kR (fun _ _ _ h=>h) (Or.inl ⟨by rfl,?_⟩) F ?_
     ·(intro w' aA;clear aA;go_simp;rw[aC.o];rfl)
     simp only[Act.put,List.setIfInBounds_toArray,List.set_cons_zero,List.set_cons_succ];refine rD 5 (fun K G=> ?_);go_simp;refine(L6 Av A9 n m cv c9 k o t b 12 _ (fH.ts Vv.o) Vu.o.kG (by have:=U.o.1;omega) (by have:=U.o.2.1;omega) dC dC (by have:=CO U.o.2.1 U.o.1;omega) U.o.2.2.2.1 U.o.2.2.2.2.1 U.o.2.2.2.2.2 (aj.o.below C.o) (ai.o.below C.o)).mono ?_;rintro e a0 ⟨⟨Z,s2,R,X,zz,rfl,a8⟩,r⟩;replace Y:=rW Y r;replace W:=rW W r;replace C:=bT C r;replace V:=bT V r;clear r;have a6:=lH a8;clear a8;clear F;have F:=KS.o _ V.o;refine kH G F ?_;clear G K;refine tKs 6 29 F ?_;refine tKs 7 36 F ?_;refine lw (rs:=[8,10]) kR (by simp) (gG.cons rfl (fun K G=> ?_) (gG.cons rfl (fun K G=> ?_) gG.nil))
     ·go_simp;refine kH G F ?_;clear G K;refine rD 10 (fun K G=> ?_);have M:World.grownBy a0 ((((a0.setCell ⟨O,0,none⟩ (.string Z)).setCell ⟨O,1,none⟩ (.string s2)).setCell ⟨O,2,none⟩ (.int .i64 R)).setCell ⟨O,3,none⟩ (.int .i64 X)) (some O):=il a0 O 0 1 2 3 (.string Z) (.string s2) (.int .i64 R) (.int .i64 X);have T:gP≠O:=by have:=a4.o;have:=ah.o;omega
      obtain⟨k0,f0,k1,f1,k2,f2,k3,f3⟩:=aF4 Y.o;have kl:=Y.o.lt;go_simp;refine G.out _ _ (fun _=>⟨fP M T F.1,fP M T F.2⟩) ?_;clear G K;refine tKs 11 8 ⟨fP M T F.1,fP M T F.2⟩ ?_;refine dN ?_ _;clear F KS V kl k0 f0 k1 f1 k2 f2 k3 f3;have R:=(((Y.o.set 0 (.string Z)).set 1 (.string s2)).set 2 (.int .i64 R)).set 3 (.int .i64 X);have e4:=W.o.other M T;have e5:=C.o.grown M C.o.size (by have:=a4.o;have:=ag.o;first | (simp;done) | (simp;omega));go_wp2_with fail
      go_meet
      exact⟨O,Z,s2,_,_,_,rfl,rfl,a6,lH R,lH e4,lH e5⟩
     ·have M:World.grownBy a0 ((((a0.setCell ⟨O,0,none⟩ (.string Z)).setCell ⟨O,1,none⟩ (.string s2)).setCell ⟨O,2,none⟩ (.int .i64 R)).setCell ⟨O,3,none⟩ (.int .i64 X)) (some O):=il a0 O 0 1 2 3 (.string Z) (.string s2) (.int .i64 R) (.int .i64 X);have T:gP≠O:=by have:=a4.o;have:=ah.o;omega
      obtain⟨k0,f0,k1,f1,k2,f2,k3,f3⟩:=aF4 Y.o;have kl:=Y.o.lt;go_simp;refine G.out _ _ (fun _=>⟨fP M T F.1,fP M T F.2⟩) ?_;clear G K;refine rD 8 (fun K G=> ?_);go_simp;refine G.out _ _ (fun _=>⟨fP M T F.1,fP M T F.2⟩) ?_;clear G K;refine tKs 11 8 ⟨fP M T F.1,fP M T F.2⟩ ?_;refine dN ?_ _;clear F KS V kl k0 f0 k1 f1 k2 f2 k3 f3;have R:=(((Y.o.set 0 (.string Z)).set 1 (.string s2)).set 2 (.int .i64 R)).set 3 (.int .i64 X);have e4:=W.o.other M T;have e5:=C.o.grown M C.o.size (by have:=a4.o;have:=ag.o;first | (simp;done) | (simp;omega));go_wp2_with fail
      go_meet
      exact⟨O,Z,s2,_,_,_,rfl,rfl,a6,lH R,lH e4,lH e5⟩
   ·go_simp;obtain⟨O,a3⟩:=eX (aN.heap.size);obtain⟨aq,a1⟩:=eX (aN.alloc (.cells #[.string ⟨#[]⟩, .string ⟨#[]⟩, .int .i64 0, .int .i64 0] 45));have r:Below aN.heap.size aN aq:=by rw[a1];exact eD _ _
    have Y:Hid (Row aq O 45 [.string ⟨#[]⟩, .string ⟨#[]⟩, .int .i64 0, .int .i64 0]):=lH (by rw[a1,a3];exact eP _ _);have a4:Hid (w4.heap.size <= O):=lH (by rw[a3];exact V.o.size);rw[<- a1, <- a3];clear a1 a3;replace W:=rW W r;replace C:=bT C r;replace V:=bT V r;clear r;clear F;have F:=KS.o _ V.o;refine kH G F ?_;clear G K;refine rD 1 (fun K G=> ?_);go_simp;refine(zX _ n o _ (HO.o.below C.o) (by have:=U.o.1;omega)).mono ?_;rintro e al ⟨va,rfl,a7,_,_,r⟩;replace Y:=rW Y r;replace W:=rW W r;replace C:=bT C r;replace V:=bT V r;clear r;obtain⟨Av,cv,rfl,_,_⟩:=eY.shape a7;have Vv:=lH a7;clear a7;clear F;have F:=KS.o _ V.o;refine kH G F ?_;clear G K;refine rD 3 (fun K G=> ?_);go_simp;refine(vX AO AR n m cO cR k o t b _ (HO.o.below C.o) (HR.o.below C.o) (by have:=U.o.1;omega) (by have:=U.o.2.1;omega) (fun i hi=>by have:=U.o.2.2.1 i hi;omega)).mono ?_;rintro e a9 ⟨vc,uc,rfl,a7,ad,r⟩;replace Y:=rW Y r;replace W:=rW W r;replace Vv:=lH (eY.below Vv.o r);replace C:=bT C r;replace V:=bT V r;clear r;obtain⟨Ac,cc,rfl,_,_⟩:=eY.shape a7;obtain⟨A9,c9,rfl,_,_⟩:=ad.shape;have Vu:=lH ad;clear a7 ad;have aC:=lH (show ∀w:World,(Instr.field 25 (.agg #[.slice Ac n cc, .slice A9 m c9]) 1).run prog w= .ok (.slice A9 m c9) w from fun _=>by kernel_rfl);clear F;have F:=KS.o _ V.o;refine kH G F ?_;clear G K;refine jf (i:=4) (v:= .slice A9 m c9) (some 34) rfl (by rfl) kR kR kR kR (fun _ _ _ h=>h) (Or.inl ⟨by rfl,?_⟩) F ?_
    ·(intro w' aA;clear aA;go_simp;rw[aC.o];rfl)
    simp only[Act.put,List.setIfInBounds_toArray,List.set_cons_zero,List.set_cons_succ];refine rD 5 (fun K G=> ?_);go_simp;refine(L6 Av A9 n m cv c9 k o t b 12 _ (fH.ts Vv.o) Vu.o.kG (by have:=U.o.1;omega) (by have:=U.o.2.1;omega) dC dC (by have:=CO U.o.2.1 U.o.1;omega) U.o.2.2.2.1 U.o.2.2.2.2.1 U.o.2.2.2.2.2 (aj.o.below C.o) (ai.o.below C.o)).mono ?_;rintro e a0 ⟨⟨Z,s2,R,X,zz,rfl,a8⟩,r⟩;replace Y:=rW Y r;replace W:=rW W r;replace C:=bT C r;replace V:=bT V r;clear r;have a6:=lH a8;clear a8;clear F;have F:=KS.o _ V.o;refine kH G F ?_;clear G K;refine tKs 6 29 F ?_;refine tKs 7 36 F ?_;refine lw (rs:=[8,10]) kR (by simp) (gG.cons rfl (fun K G=> ?_) (gG.cons rfl (fun K G=> ?_) gG.nil))
    ·go_simp;refine kH G F ?_;clear G K;refine rD 10 (fun K G=> ?_);have M:World.grownBy a0 ((((a0.setCell ⟨O,0,none⟩ (.string Z)).setCell ⟨O,1,none⟩ (.string s2)).setCell ⟨O,2,none⟩ (.int .i64 R)).setCell ⟨O,3,none⟩ (.int .i64 X)) (some O):=il a0 O 0 1 2 3 (.string Z) (.string s2) (.int .i64 R) (.int .i64 X);have T:gP≠O:=by have:=a4.o;have:=ah.o;omega
     obtain⟨k0,f0,k1,f1,k2,f2,k3,f3⟩:=aF4 Y.o;have kl:=Y.o.lt;go_simp;refine G.out _ _ (fun _=>⟨fP M T F.1,fP M T F.2⟩) ?_;clear G K;refine tKs 11 8 ⟨fP M T F.1,fP M T F.2⟩ ?_;refine dN ?_ _;clear F KS V kl k0 f0 k1 f1 k2 f2 k3 f3;have R:=(((Y.o.set 0 (.string Z)).set 1 (.string s2)).set 2 (.int .i64 R)).set 3 (.int .i64 X);have e4:=W.o.other M T;have e5:=C.o.grown M C.o.size (by have:=a4.o;have:=ag.o;first | (simp;done) | (simp;omega));go_wp2_with fail
     go_meet
     exact⟨O,Z,s2,_,_,_,rfl,rfl,a6,lH R,lH e4,lH e5⟩
    ·have M:World.grownBy a0 ((((a0.setCell ⟨O,0,none⟩ (.string Z)).setCell ⟨O,1,none⟩ (.string s2)).setCell ⟨O,2,none⟩ (.int .i64 R)).setCell ⟨O,3,none⟩ (.int .i64 X)) (some O):=il a0 O 0 1 2 3 (.string Z) (.string s2) (.int .i64 R) (.int .i64 X);have T:gP≠O:=by have:=a4.o;have:=ah.o;omega
     obtain⟨k0,f0,k1,f1,k2,f2,k3,f3⟩:=aF4 Y.o;have kl:=Y.o.lt;go_simp;refine G.out _ _ (fun _=>⟨fP M T F.1,fP M T F.2⟩) ?_;clear G K;refine rD 8 (fun K G=> ?_);go_simp;refine G.out _ _ (fun _=>⟨fP M T F.1,fP M T F.2⟩) ?_;clear G K;refine tKs 11 8 ⟨fP M T F.1,fP M T F.2⟩ ?_;refine dN ?_ _;clear F KS V kl k0 f0 k1 f1 k2 f2 k3 f3;have R:=(((Y.o.set 0 (.string Z)).set 1 (.string s2)).set 2 (.int .i64 R)).set 3 (.int .i64 X);have e4:=W.o.other M T;have e5:=C.o.grown M C.o.size (by have:=a4.o;have:=ag.o;first | (simp;done) | (simp;omega));go_wp2_with fail
     go_meet
     exact⟨O,Z,s2,_,_,_,rfl,rfl,a6,lH R,lH e4,lH e5⟩
  case rest=>
   clear W ah C ag;obtain⟨gX,Z,s2,R,X,zz,rfl,rfl,a6,XB,W,C⟩:=hcut;have a8:=a6.o;unfold L8 at a8;rw[<- HE.o] at a8
   rcases a8 with ⟨h0,rfl,rfl,rfl,rfl,rfl⟩ | ⟨h0,A,bq,c,bG,kk,q,x,y,d,bC,bH,hz⟩
   ·have bS:((E:Nat):Int)≠0:=oM
    have cb:(((E:Nat):Int) !=0)=true:=by simpa using bS
    have ce:(E !=0)=true:=by simpa using h0
    have cd:(((E:Nat):Int)== ((E:Nat):Int))=true:=by simp
    clear h0 a6;obtain⟨ar,au,av,aw⟩:=aT4 XB.o;have ax:=XB.o.lt;go_wp2_with fail
    go_returns;exact⟨rfl,C.o⟩
   ·subst h0;have bg:Hid (fD n m k o t b=0):=lH HE.o.symm;have ay:=lH bG;have bM:=lH bC;have bO:=lH bH;have HZ:=lH hz;clear bG bC bH hz a6;obtain⟨aH,aJ⟩:=aT2 W.o;have aK:=W.o.lt;go_wp2_with fail
    clear aH aJ aK;refine(K6 AO AR n m cO cR k o t b 12 12589 250000 _ (HO.o.1.below C.o) (HR.o.kG.below C.o) bg.o dC dC U.o.2.2.2.1 U.o.2.2.2.2.1 U.o.2.2.2.2.2 (CO U.o.2.1 U.o.1) dC ⟨by have:=U.o.1;have:=U.o.2.1;omega,by decide,by decide⟩ dC (ai.o.below C.o) (aj.o.below C.o)).mono ?_;rintro e w6 ⟨⟨O1,v,rfl,hO,bW,bE,bX,A1,c6,c1,cf,ci,ck,c8,aY,bz,bI⟩,r⟩;replace XB:=rW XB r;replace C:=bT C r;clear r;obtain⟨ba,bn,bc,bp,b8,bl,rfl,_,_,_⟩:=hO.shape;clear hO;obtain⟨w7,a5⟩:=eX (w6.alloc (.cells #[.int .i64 O1.kk, .string O1.s, .slice ba O1.np bn, .slice bc O1.ny bp, .slice b8 O1.nd bl] 32));obtain⟨gA,ab⟩:=eX (w6.heap.size);have ac:Below w6.heap.size w6 w7:=by rw[a5];exact eD _ _
    have AB:Hid (Row w7 gA 32 [.int .i64 O1.kk, .string O1.s, .slice ba O1.np bn, .slice bc O1.ny bp, .slice b8 O1.nd bl]):=lH (by rw[a5,ab];exact eP _ _);replace XB:=rW XB ac;replace C:=bT C ac;have az:=lH (L9 ay.o aY (fun j hj=>lq (ay.o.obj j hj) (aY.obj j hj)) bM.o bE bO.o bz bI);clear aY bE bz bI bW bX;go_wp2_with fail
    rw[<- a5, <- ab];clear a5 ab ac;have aR:Hid (∀j,j<n -> o j=eF (c j)):=lH (fun j hj=>lY (by rw[jI];exact ay.o.obj j hj));have bi:Hid (∀j,j<n -> RL 12 (c j)):=lH (fun j hj=>iU (ay.o.obj j hj) (U.o.2.2.2.1 j hj));refine(K3 _ n c 12 _ ((HO.o.1.below C.o).congr aR.o) (by have:=U.o.1;omega) bi.o dC).mono ?_;rintro e w8 ⟨vN,rfl,bF,r⟩;replace XB:=rW XB r;replace AB:=rW AB r;replace C:=bT C r;clear r;have HN:=lH (fH.ts bF);clear bF bi;obtain⟨AN,cN,rfl,_,_⟩:=HN.o.shape;have bh:Hid (fD n m k (fun j=>eF (-(c j))) t b=0):=lH (Lf bg.o (vY n _));have bj:Hid (∀j,j<n -> (eF (-(c j))).size <= 13):=lH (fun j hj=>by have h1:=U.o.2.2.2.1 j hj;rw[aR.o j hj] at h1;have:=Le (c j);omega);go_wp2_with fail
    refine(K6 AN AR n m cN cR k (fun j=>eF (-(c j))) t b 13 13627 250000 _ HN.o (HR.o.kG.below C.o) bh.o dC dC bj.o (fun i hi j hj=>Nat.le_trans (U.o.2.2.2.2.1 i hi j hj) dC) (fun i hi=>Nat.le_trans (U.o.2.2.2.2.2 i hi) dC) (Lc U.o.2.1 U.o.1) dC ⟨by have:=U.o.1;have:=U.o.2.1;omega,by decide,by decide⟩ dC (ai.o.below C.o) (aj.o.below C.o)).mono ?_;rintro e w9 ⟨⟨O2,v,rfl,hO,bx,aE,bY,A2,c7,c2,cg,cj,cl,ca,aZ,bA,aF⟩,r⟩;replace XB:=rW XB r;replace AB:=rW AB r;replace C:=bT C r;clear r;obtain⟨bb,bo,bd,br,b9,bm,rfl,_,_,_⟩:=hO.shape;clear hO;obtain⟨ao,a5⟩:=eX (w9.alloc (.cells #[.int .i64 O2.kk, .string O2.s, .slice bb O2.np bo, .slice bd O2.ny br, .slice b9 O2.nd bm] 32));obtain⟨gC,ab⟩:=eX (w9.heap.size);have ac:Below w9.heap.size w9 ao:=by rw[a5];exact eD _ _
    have CB:Hid (Row ao gC 32 [.int .i64 O2.kk, .string O2.s, .slice bb O2.np bo, .slice bd O2.ny br, .slice b9 O2.nd bm]):=lH (by rw[a5,ab];exact eP _ _);replace XB:=rW XB ac;replace AB:=rW AB ac;replace C:=bT C ac;have bk:Hid (w.heap.size <= ao.heap.size):=lH C.o.size;have aT:Hid (∀ (kk':Int) (q':Rat) (x' y' d':Nat -> Rat),(1 <= kk' /\ kk' <= 3) -> kI m n kk' A bq (fun j=> -(c j)) q' x' y' d' -> O2.kk=kk' /\ (kk'=1 -> O2.s=eF q')):=lH (fun kk' q' x' y' d' h1 h2=>L9 ay.o aZ (fun j hj=>lq (l:=(eF (-(c j))).data.toList) (jI _) (aZ.obj j hj)) h1 aE h2 bA aF);have bf:=lH bx.1;clear aZ aE bA aF bx bY HN bh bj aR
    rcases HZ.o with ⟨rfl,rfl,rfl,rfl,rfl,rfl⟩ | ⟨aX,k2,q2,x2,y2,d2,aE,aF,rfl,rfl,rfl,rfl,rfl⟩
    ·have bB:O1.kk=2:=az.o.1;rw[bB] at AB;clear bB az aT HZ;have ae:=aI 0 AB;have af:=AB.o.lt;obtain⟨ar,au,av,aw⟩:=aT4 XB.o;have ax:=XB.o.lt;rw[a5] at ae af ar au av aw ax;go_wp2_with fail
     go_returns;exact⟨rfl,by first | (rw[<- a5];exact C.o) | exact C.o⟩
    ·have c5:=lH aX;obtain⟨bv,bw⟩:=aT.o k2 q2 x2 y2 d2 aE aF;have aO:=lH bw;have be:=az.o.1;have bK:=lH az.o.2;rw[bv] at CB a5 ⊢;rw[be] at AB;clear az aT HZ aE aF bw bv be;have bU:(kk==2)=false:=by simpa using aX
     clear aX;have ae:=aI 0 AB;have af:=AB.o.lt;rw[a5] at ae af
     go_upto_region 14 with (fail)
     rw[<- a5, <- ab];clear a5 ab ac bU ae af;have bJ:=XB.o.lt;obtain⟨aM,aG⟩:=eX (ao.alloc (.cells #[.string ⟨#[]⟩, .string ⟨#[]⟩, .int .i64 2, .int .i64 2] 45));obtain⟨gV,aD⟩:=eX (ao.heap.size);have aB:Below ao.heap.size ao aM:=by rw[aG];exact eD _ _
     have VB:Hid (Row aM gV 45 [.string ⟨#[]⟩, .string ⟨#[]⟩, .int .i64 2, .int .i64 2]):=lH (by rw[aG,aD];exact eP _ _);replace AB:=rW AB aB;replace CB:=rW CB aB;replace XB:=rW XB aB;replace C:=bT C aB;have aU:Hid (gX≠gV):=lH (by rw[aD];exact Nat.ne_of_lt bJ);have aQ:Hid (w.heap.size <= gV):=lH (by rw[aD];exact bk.o);clear aB bJ bk;have ae:=aI 0 AB;have af:=AB.o.lt;rw[aG] at ae af
     go_upto_if 80 with (fail)
     rw[<- aG, <- aD];clear aG aD ae af;by_cases aa:kk=1
     ·rw[bK.o aa,aa] at AB;have E2:KY kk (eF q)=eF q:=if_pos aa;have E3:KZ kk=1:=if_pos aa;rw[E2,E3] at XB;have hd:(kk==1)=true:=by simpa using aa
      have bL:=lH aa;clear E2 E3 aa
      skip
      obtain⟨ae,bZ⟩:=aT2 AB.o;have af:=AB.o.lt;have c0:=aI 1 VB;have c3:=aI 3 VB;have bP:=VB.o.free 1;have bQ:=VB.o.free 3;have aL:=VB.o.lt
      go_upto_region 17 with (fail)
      clear aL ae bZ af hd c0 bP c3 bQ;have M:World.grownBy aM ((aM.setCell ⟨gV,1,none⟩ (.string (eF q))).setCell ⟨gV,3,none⟩ (.int .i64 1)) (some gV):=grownBy_trans (grownBy_set _ _ _ _) (grownBy_set _ _ _ _);have R:=(VB.o.set 1 (.string (eF q))).set 3 (.int .i64 1);have X:=AB.o.other M (fun e=>by subst e;exact absurd (AB.o.ty VB.o) dC);have e3:=CB.o.other M (fun e=>by subst e;exact absurd (CB.o.ty VB.o) dC);have e4:=XB.o.other M aU.o;have e5:=C.o.grown M C.o.size (by have:=aQ.o;first | (simp;done) | (simp;omega));obtain⟨ch,ak⟩:=eX (((aM.setCell ⟨gV,1,none⟩ (.string (eF q))).setCell ⟨gV,3,none⟩ (.int .i64 1)));rw[<- ak] at R X e3 e4 e5 ⊢;clear ak M;replace VB:=lH R;replace AB:=lH X;replace CB:=lH e3;replace XB:=lH e4;replace C:=lH e5;clear R X e3 e4 e5;by_cases a2:k2=1
      ·have aS:Hid (RL 13627 q2):=lH (iU (by rw[aO.o a2];exact jI q2) bf.o);rw[aO.o a2,a2] at CB;have E2:KY k2 (eF (-q2))=eF (-q2):=if_pos a2;have E3:KZ k2=1:=if_pos a2;rw[E2,E3] at XB;have hd:(k2==1)=true:=by simpa using a2
       have aP:=lH a2;clear E2 E3 a2;obtain⟨am,b1⟩:=aT2 CB.o;have an:=CB.o.lt;go_wp2_with fail
       clear hd am b1 an;refine(GZ q2 13627 _ aS.o dC).mono ?_;rintro e ap ⟨rfl,r⟩;replace AB:=rW AB r;replace CB:=rW CB r;replace XB:=rW XB r;replace VB:=rW VB r;replace C:=bT C r;clear r;have b6:=aI 0 VB;have b7:=aI 2 VB;have aV:=VB.o.free 0;have aW:=VB.o.free 2;have aL:=VB.o.lt
       go_upto_region 19 with (fail)
       clear aL b6 aV b7 aW;have M:World.grownBy ap ((ap.setCell ⟨gV,0,none⟩ (.string (eF (-q2)))).setCell ⟨gV,2,none⟩ (.int .i64 1)) (some gV):=grownBy_trans (grownBy_set _ _ _ _) (grownBy_set _ _ _ _);have R:=(VB.o.set 0 (.string (eF (-q2)))).set 2 (.int .i64 1);have X:=AB.o.other M (fun e=>by subst e;exact absurd (AB.o.ty VB.o) dC);have e3:=CB.o.other M (fun e=>by subst e;exact absurd (CB.o.ty VB.o) dC);have e4:=XB.o.other M aU.o;have e5:=C.o.grown M C.o.size (by have:=aQ.o;first | (simp;done) | (simp;omega));obtain⟨c4,ak⟩:=eX (((ap.setCell ⟨gV,0,none⟩ (.string (eF (-q2)))).setCell ⟨gV,2,none⟩ (.int .i64 1)));rw[<- ak] at R X e3 e4 e5 ⊢;clear ak M;replace VB:=lH R;replace XB:=lH e4;replace C:=lH e5;clear R X e3 e4 e5;obtain⟨ar,au,av,aw⟩:=aT4 XB.o;have ax:=XB.o.lt;obtain⟨b0,b2,b3,b4⟩:=aT4 VB.o;have b5:=VB.o.lt;go_wp2_with fail
       go_returns;exact⟨rfl,C.o⟩
      ·have hd:(k2==1)=false:=by simpa using a2
       have E2:KY k2 (eF (-q2))=⟨#[]⟩:=if_neg a2;have E3:KZ k2=2:=if_neg a2;rw[E2,E3] at XB;have aP:=lH a2;clear E2 E3 a2;have am:=aI 0 CB;have an:=CB.o.lt
       go_upto_region 19 with (fail)
       clear hd am an;obtain⟨ar,au,av,aw⟩:=aT4 XB.o;have ax:=XB.o.lt;obtain⟨b0,b2,b3,b4⟩:=aT4 VB.o;have b5:=VB.o.lt;go_wp2_with fail
       go_returns;exact⟨rfl,C.o⟩
     ·have hd:(kk==1)=false:=by simpa using aa
      have E2:KY kk (eF q)=⟨#[]⟩:=if_neg aa;have E3:KZ kk=2:=if_neg aa;rw[E2,E3] at XB;have bL:=lH aa;clear E2 E3 aa;have ae:=aI 0 AB;have af:=AB.o.lt
      go_upto_region 17 with (fail)
      clear hd ae af;by_cases a2:k2=1
      ·have aS:Hid (RL 13627 q2):=lH (iU (by rw[aO.o a2];exact jI q2) bf.o);rw[aO.o a2,a2] at CB;have E2:KY k2 (eF (-q2))=eF (-q2):=if_pos a2;have E3:KZ k2=1:=if_pos a2;rw[E2,E3] at XB;have hd:(k2==1)=true:=by simpa using a2
       have aP:=lH a2;clear E2 E3 a2;obtain⟨am,b1⟩:=aT2 CB.o;have an:=CB.o.lt;go_wp2_with fail
       clear hd am b1 an;refine(GZ q2 13627 _ aS.o dC).mono ?_;rintro e ap ⟨rfl,r⟩;replace AB:=rW AB r;replace CB:=rW CB r;replace XB:=rW XB r;replace VB:=rW VB r;replace C:=bT C r;clear r;have b6:=aI 0 VB;have b7:=aI 2 VB;have aV:=VB.o.free 0;have aW:=VB.o.free 2;have aL:=VB.o.lt
       go_upto_region 19 with (fail)
       clear aL b6 aV b7 aW;have M:World.grownBy ap ((ap.setCell ⟨gV,0,none⟩ (.string (eF (-q2)))).setCell ⟨gV,2,none⟩ (.int .i64 1)) (some gV):=grownBy_trans (grownBy_set _ _ _ _) (grownBy_set _ _ _ _);have R:=(VB.o.set 0 (.string (eF (-q2)))).set 2 (.int .i64 1);have X:=AB.o.other M (fun e=>by subst e;exact absurd (AB.o.ty VB.o) dC);have e3:=CB.o.other M (fun e=>by subst e;exact absurd (CB.o.ty VB.o) dC);have e4:=XB.o.other M aU.o;have e5:=C.o.grown M C.o.size (by have:=aQ.o;first | (simp;done) | (simp;omega));obtain⟨c4,ak⟩:=eX (((ap.setCell ⟨gV,0,none⟩ (.string (eF (-q2)))).setCell ⟨gV,2,none⟩ (.int .i64 1)));rw[<- ak] at R X e3 e4 e5 ⊢;clear ak M;replace VB:=lH R;replace XB:=lH e4;replace C:=lH e5;clear R X e3 e4 e5;obtain⟨ar,au,av,aw⟩:=aT4 XB.o;have ax:=XB.o.lt;obtain⟨b0,b2,b3,b4⟩:=aT4 VB.o;have b5:=VB.o.lt;go_wp2_with fail
       go_returns;exact⟨rfl,C.o⟩
      ·have hd:(k2==1)=false:=by simpa using a2
       have E2:KY k2 (eF (-q2))=⟨#[]⟩:=if_neg a2;have E3:KZ k2=2:=if_neg a2;rw[E2,E3] at XB;have aP:=lH a2;clear E2 E3 a2;have am:=aI 0 CB;have an:=CB.o.lt
       go_upto_region 19 with (fail)
       clear hd am an;obtain⟨ar,au,av,aw⟩:=aT4 XB.o;have ax:=XB.o.lt;obtain⟨b0,b2,b3,b4⟩:=aT4 VB.o;have b5:=VB.o.lt;go_wp2_with fail
       go_returns;exact⟨rfl,C.o⟩
 ·go_wp2_with fail
  refine(pW _ (ai.o.below C.o) (aj.o.below C.o)).mono ?_;rintro e wk ⟨rfl,r⟩;replace C:=bT C r;clear r;go_wp2_with fail
  go_returns;exact⟨rfl,C.o⟩
end Go.Proofs.YtdefghfjhgmpfaaGreatDoor
