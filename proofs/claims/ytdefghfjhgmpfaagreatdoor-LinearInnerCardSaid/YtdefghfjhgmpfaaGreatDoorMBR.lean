/- Parts of this proof: RVer. -/
import Derived.Test.YtdefghfjhgmpfaaGreatDoorMAE
import Derived.Test.YtdefghfjhgmpfaaGreatDoorMBP
import Derived.Test.YtdefghfjhgmpfaaGreatDoorMCH
import Derived.Test.YtdefghfjhgmpfaaGreatDoorMBQ
import Derived.Test.YtdefghfjhgmpfaaGreatDoorMAZ
import Derived.Test.YtdefghfjhgmpfaaGreatDoorMBO
namespace Go.Proofs.YtdefghfjhgmpfaaGreatDoor
open Go.Proofs.Tryz
open Go.RowKit
open Lp (RL upd eu)
theorem Cy(a b:Nat)(e e':Nat -> Nat):fo (a+b) (fun j=>if j<a then e j else e' (j-a))=if fo a e≠0 then fo a e else fo b e':=by
 have h0:fo a (fun j=>if j<a then e j else e' (j-a))=fo a e:=by
  have E:∀q,q <= a -> fo q (fun j=>if j<a then e j else e' (j-a))=fo q e:=by
   intro q
   induction q with
   | zero=>intro _;rfl
   | succ q t=>intro F;simp only[fo];rw[t oM,if_pos (show q<a by omega)]
  exact E a (Nat.le_refl _)
 induction b with
 | zero=>
  show fo a _=_;rw[h0];by_cases h:fo a e≠0
  ·rw[if_pos h]
  ·rw[if_neg h];show fo a e=0;exact Classical.not_not.1 h
 | succ b t=>
  rw[<- Nat.add_assoc];show(if fo (a+b) _≠0 then fo (a+b) _ else(if a+b<a then e (a+b) else e' (a+b-a)))=_;rw[t,if_neg (show ¬a+b<a by omega),show a+b-a=b by omega];by_cases h:fo a e≠0
  ·rw[if_pos h,if_pos h,if_pos h]
  ·rw[if_neg h,if_neg h];rfl
theorem wJ(O:OTx):fo (0+O.np+O.ny+O.nd) (fun j=>sE ((fun j=>if j<0+O.np+O.ny then(fun j=>if j<0+O.np then(fun j=>if j<0 then(fun _=>(⟨#[]⟩:ByteArray)) j else O.p (j-0)) j else O.y (j-(0+O.np))) j else O.d (j-(0+O.np+O.ny))) j))=O.ja:=by
 have E:∀j,sE ((fun j=>if j<0+O.np+O.ny then(fun j=>if j<0+O.np then(fun j=>if j<0 then(fun _=>(⟨#[]⟩:ByteArray)) j else O.p (j-0)) j else O.y (j-(0+O.np))) j else O.d (j-(0+O.np+O.ny))) j)=if j<O.np+O.ny then(if j<O.np then sE (O.p j) else sE (O.y (j-O.np))) else sE (O.d (j-(O.np+O.ny))):=by
  intro j;simp only[Nat.zero_add,Nat.not_lt_zero,if_false,Nat.sub_zero];by_cases h1:j<O.np+O.ny
  ·rw[if_pos h1,if_pos h1];by_cases t:j<O.np
   ·rw[if_pos t,if_pos t]
   ·rw[if_neg t,if_neg t]
  ·rw[if_neg h1,if_neg h1]
 rw[funext E,Nat.zero_add];rw[Cy (O.np+O.ny) O.nd (fun j=>if j<O.np then sE (O.p j) else sE (O.y (j-O.np))) (fun j=>sE (O.d j)),Cy O.np O.ny (fun j=>sE (O.p j)) (fun j=>sE (O.y j))];unfold OTx.ja;by_cases h:fo O.np (fun j=>sE (O.p j))≠0
 ·rw[if_pos h,if_pos h,if_pos h]
 ·rw[if_neg h,if_neg h]
theorem wK{O:OTx}{F:Nat}(E:O.Fit F)(t:F <= 65536)(j:Nat)(G:j<0+O.np+O.ny+O.nd):((fun j=>if j<0+O.np+O.ny then(fun j=>if j<0+O.np then(fun j=>if j<0 then(fun _=>(⟨#[]⟩:ByteArray)) j else O.p (j-0)) j else O.y (j-(0+O.np))) j else O.d (j-(0+O.np+O.ny))) j).size <= 65536:=by
 simp only[Nat.zero_add,Nat.not_lt_zero,if_false,Nat.sub_zero] at G ⊢;by_cases h1:j<O.np+O.ny
 ·rw[if_pos h1];by_cases h:j<O.np
  ·rw[if_pos h];exact Nat.le_trans (E.2.1 j h) t
  ·rw[if_neg h];exact Nat.le_trans (E.2.2.1 _ oM) t
 ·rw[if_neg h1];exact Nat.le_trans (E.2.2.2 _ oM) t
theorem pY{n:Nat}{s:Nat -> ByteArray}(h:∀j,j<n -> sE (s j)=0):∃f:Nat -> Rat,∀j,j<n -> (s j).data.toList=fA (f j):=by
 have E:∀j,∃q:Rat,j<n -> (s j).data.toList=fA q:=fun j=>if t:j<n then(by obtain⟨q,G⟩:=xQ (h j t);exact⟨q,fun _=>G⟩) else⟨0,fun F=>absurd F t⟩
 exact⟨fun j=>Classical.choose (E j),fun j t=>Classical.choose_spec (E j) t⟩
theorem wL{n m:Nat}{k:Nat -> Nat}{o:Nat -> ByteArray}{t:Nat -> Nat -> ByteArray}{b:Nat -> ByteArray}(h:fD n m k o t b=0):∃A bq c,jk n m o t b A bq c:=by
 obtain⟨_,_,_,U,G⟩:=mo h;obtain⟨c,O⟩:=pY U;obtain⟨bq,M⟩:=pY (fun i E=>(BX (G i E)).2);have F:∀i,∃f:Nat -> Rat,i<m -> ∀j,j<n -> (t i j).data.toList=fA (f j):=fun i=>if E:i<m then(by obtain⟨f,R⟩:=pY (BX (G i E)).1;exact⟨f,fun _=>R⟩) else⟨fun _=>0,fun T=>absurd T E⟩
 exact⟨fun i=>Classical.choose (F i),bq,c,⟨O,fun i E=>Classical.choose_spec (F i) E,M⟩⟩
theorem wM{O:OTx}(h:O.err=0):∃val x y d,O.Is val x y d:=by
 unfold OTx.err at h;by_cases h1:O.kk=1 /\ sE O.s≠0
 ·rw[if_pos h1] at h;exact absurd h h1.2
 ·rw[if_neg h1] at h;unfold OTx.ja at h;by_cases t:fo O.np (fun j=>sE (O.p j))≠0
  ·rw[if_pos t] at h;exact absurd h t
  ·rw[if_neg t] at h;by_cases E:fo O.ny (fun j=>sE (O.y j))≠0
   ·rw[if_pos E] at h;exact absurd h E
   ·rw[if_neg E] at h;obtain⟨x,M⟩:=pY (kF.1 (Classical.not_not.1 t));obtain⟨y,R⟩:=pY (kF.1 (Classical.not_not.1 E));obtain⟨d,F⟩:=pY (kF.1 h);by_cases G:O.kk=1
    ·obtain⟨v,T⟩:=xQ (l:=O.s.data.toList) (Classical.not_not.1 (fun U=>h1 ⟨G,U⟩));exact⟨v,x,y,d,fun _=>T,M,R,F⟩
    ·exact⟨0,x,y,d,fun h=>absurd h G,M,R,F⟩
theorem wN(X Z:Option Addr)(n m cO cR:Nat)(k:Nat -> Nat)(o:Nat -> ByteArray)(t:Nat -> Nat -> ByteArray)(b:Nat -> ByteArray)(A:Nat -> Nat -> Rat)(bq c:Nat -> Rat)(M F T:Nat)(O:OTx)(Y AY U:Option Addr)(cP cY cD:Nat)(val:Rat)(x y d:Nat -> Rat)(w:World)(ho:TS w (.slice X n cO) n o)(hr:fZ w (.slice Z m cR) m k t b)(a5:∀j,j<n -> o j=eF (c j))(a1:∀i,i<m -> k i=n)(ht:∀i,i<m -> ∀j,j<n -> t i j=eF (A i j))(a0:∀i,i<m -> b i=eF (bq i))
  (hn:n <= 1000000000) (hm:m <= 1000000000) (a2:∀i,i<m -> ∀j,j<n -> RL M (A i j)) (a3:∀i,i<m -> RL M (bq i)) (a4:∀j,j<n -> RL M (c j)) (hK:1+ (m+n)* (M+F+1) <= T /\ M <= T /\ F <= T) (hq:4*T <= 4000000)
  (hk:1 <= O.kk /\ O.kk <= 3) (hS:O.iE n m) (hp:TS w (.slice Y O.np cP) O.np O.p) (hy:TS w (.slice AY O.ny cY) O.ny O.y) (hd:TS w (.slice U O.nd cD) O.nd O.d) (hI:O.Is val x y d) (a9:O.kk=1 -> RL F val) (a6:∀j,j<O.np -> RL F (x j)) (a7:∀j,j<O.ny -> RL F (y j)) (a8:∀j,j<O.nd -> RL F (d j)):
  Calls prog 66 #[.agg #[.slice X n cO, .slice Z m cR], .agg #[.int .i64 O.kk, .string O.s, .slice Y O.np cP, .slice AY O.ny cY, .slice U O.nd cD]] w fun e w'=>((kI m n O.kk A bq c val x y d /\ e= .returned (.bool true)) \/ (¬kI m n O.kk A bq c val x y d /\ e= .returned (.bool false))) /\ Below w.heap.size w w':=by
 obtain⟨kk,s,np,p,ny,y',nd,d'⟩:=O;obtain⟨s1,s2,s3,_⟩:=hS;obtain⟨i1,i2,i3,i4⟩:=hI;simp only at*;obtain rfl | rfl | rfl:kk=1 \/ kk=2 \/ kk=3:=oM
 ·rw[if_neg dC] at s1 s2 s3;subst np;subst ny;subst nd;obtain rfl:=jE (i1 rfl);refine(JF X Z Y AY U n m cO cR cP cY cD p x val y' y k o t b A bq c M F T w ho hr a5 a1 ht a0 hp (fun j G=>jE (i2 j G)) hy (fun j G=>jE (i3 j G)) hn hm a2 a3 a4 hK hq a7 a6 (a9 rfl)).mono ?_;rintro e w' ⟨⟨h,E⟩ | ⟨h,E⟩,R⟩
  ·exact⟨.inl ⟨⟨fun _=>h,fun z=>absurd z dC,fun z=>absurd z dC⟩,E⟩,R⟩
  ·exact⟨.inr ⟨fun z=>h (z.1 rfl),E⟩,R⟩
 ·rw[if_pos rfl] at s1;rw[if_neg dC] at s2 s3;subst np;subst ny;subst nd;refine(JG X Z Y AY U n m cO cR cP cY cD s y' y k o t b A bq c M F T w ho hr a5 a1 ht a0 hy (fun j G=>jE (i3 j G)) hn hm a2 a3 a4 hK hq a7).mono ?_;rintro e w' ⟨⟨h,E⟩ | ⟨h,E⟩,R⟩
  ·exact⟨.inl ⟨⟨fun z=>absurd z dC,fun _=>h,fun z=>absurd z dC⟩,E⟩,R⟩
  ·exact⟨.inr ⟨fun z=>h (z.2.1 rfl),E⟩,R⟩
 ·rw[if_neg dC] at s1;rw[if_pos rfl] at s2 s3;subst np;subst ny;subst nd;refine(JE X Z Y AY U n m cO cR cP cY cD s p d' x d k o t b A bq c M F T w ho hr a5 a1 ht a0 hp hd (fun j G=>jE (i2 j G)) (fun j G=>jE (i4 j G)) hn hm a2 a3 a4 hK hq a6 a8).mono ?_;rintro e w' ⟨⟨h,E⟩ | ⟨h,E⟩,R⟩
  ·exact⟨.inl ⟨⟨fun z=>absurd z dC,fun z=>absurd z dC,fun _=>h⟩,E⟩,R⟩
  ·exact⟨.inr ⟨fun z=>h (z.2.2 rfl),E⟩,R⟩
set_option maxRecDepth 100000 in
set_option maxHeartbeats 6400000 in
theorem JH(AO AR:Option Addr)(n m cO cR:Nat)(k:Nat -> Nat)(o:Nat -> ByteArray)(t:Nat -> Nat -> ByteArray)(b:Nat -> ByteArray)(Ka Kd Kq:Nat)(O:OTx)(AP AY AD:Option Addr)(cP cY cD:Nat)(w:World)(ho:TS w (.slice AO n cO) n o)(hr:fZ w (.slice AR m cR) m k t b)(hn:n <= 1000000000)(hm:m <= 1000000000)
  (am:∀j,j<n -> (o j).size <= Ka) (an:∀i,i<m -> ∀j,j<k i -> (t i j).size <= Ka) (al:∀i,i<m -> (b i).size <= Ka) (ag:Ka <= 65536) (aQ:Kd <= 65536) (ak:O.kk=1) (hp:TSA w (.slice AP O.np cP) O.np O.p) (hy:TSA w (.slice AY O.ny cY) O.ny O.y) (hd:TSA w (.slice AD O.nd cD) O.nd O.d) (hN:O.np <= 100000000 /\ O.ny <= 100000000 /\ O.nd <= 100000000) (hf:O.Fit Kd) (Y:1+ (m+n)* (Ka+Kd+1) <= Kq /\ Ka <= Kq /\ Kd <= Kq) (hq:4*Kq <= 4000000):
  Calls prog 27 #[.agg #[.slice AO n cO, .slice AR m cR], .agg #[.int .i64 O.kk, .string O.s, .slice AP O.np cP, .slice AY O.ny cY, .slice AD O.nd cD]] w fun e w'=>pX n m k o t b O e /\ Below w.heap.size w w':=by
 have G:=lH ak;rw[ak];clear ak;have aN:=lH (fun(wx:World) (aA:Below w.heap.size w wx)=>ry AO AR n m cO cR k o t b wx (ho.below aA) (hr.below aA) hn hm (fun j T=>Nat.le_trans (am j T) ag) (fun i hi j T=>Nat.le_trans (an i hi j T) ag) (fun i hi=>Nat.le_trans (al i hi) ag));have HO:=lH ho;have HR:=lH hr;have HS:=lH (And.intro am (And.intro an al));have HP:=lH hp;have HY:=lH hy;have HD:=lH hd;have HN:=lH hN;have HF:=lH hf;have HK:=lH Y;clear ho hr am an al hp hy hd hN hf Y;obtain⟨W,hW,X,M,E⟩:=eN2 w [.slice AO n cO, .slice AR m cR] 25 [.int .i64 1, .string O.s, .slice AP O.np cP, .slice AY O.ny cY, .slice AD O.nd cD] 32;go_enter func27,ntmps27;obtain⟨p0,p1⟩:=aT2 X.o;have pl:=X.o.lt;rw[hW] at p0 p1 pl;go_wp2_with fail
 rw[<- hW];clear hW p0 p1 pl;refine(aN.o _ E.o).mono ?_;rintro e w1 ⟨rfl,a3⟩;replace X:=rW X a3;replace M:=rW M a3;replace E:=bT E a3;clear a3;obtain⟨R,U⟩:=eX (fD n m k o t b);rw[<- U];by_cases h0:R≠0
 ·have aa:((R:Nat):Int)≠0:=oM
  have aE:(((R:Nat):Int) !=0)=true:=by simpa using aa
  have aF:(R !=0)=true:=by simpa using h0
  have a8:=lH h0;have a9:=lH U;clear h0 U;go_wp2_with fail
  go_returns;exact⟨⟨R,rfl, .inl ⟨by rw[<- a9.o];exact a8.o,a9.o⟩⟩,E.o⟩
 ·replace h0:R=0:=Classical.not_not.1 h0;subst h0;have a0:Hid (fD n m k o t b=0):=lH U.symm;clear U;have o0:=aI 0 M;obtain⟨p0,p1⟩:=aT2 X.o;have ol:=M.o.lt;have pl:=X.o.lt
  go_upto_region 6 with (fail)
  go_region
  clear o0 p0 p1 ol pl;obtain⟨wd,aq⟩:=eX (w1.drew);rw[<- aq];have ac:Below w1.heap.size w1 wd:=by rw[aq];exact(Below.refl _ _).drew
  clear aq;replace X:=rW X ac;replace M:=rW M ac;replace E:=bT E ac;clear ac;obtain⟨o0,o1,o2,o3,o4⟩:=aT5 M.o;have ol:=M.o.lt;obtain⟨p0,p1⟩:=aT2 X.o;have pl:=X.o.lt;by_cases a1:O.np=n
  ·have ay:(((O.np:Nat):Int) != ((n:Nat):Int))=false:=by simp;omega
   have aB:(O.np !=n)=false:=by simpa using a1
   by_cases a5:O.ny=m
   ·have a3:(((O.ny:Nat):Int) != ((m:Nat):Int))=false:=by simp;omega
    have aC:(O.ny !=m)=false:=by simpa using a5
    by_cases a7:O.nd=0
    ·have a4:(((O.nd:Nat):Int) !=0)=false:=by simp;omega
     have aD:(O.nd !=0)=false:=by simpa using a7
     have HZ:Hid (O.iE n m):=lH ⟨by rw[G.o,if_neg dC];exact a1,by rw[G.o,if_neg dC];exact a5,by rw[G.o,if_neg dC];exact a7, .inl G.o⟩;clear a1 a5 a7;go_wp2_with fail
     clear o0 o1 o2 o3 o4 ol p0 p1 pl ay a3 a4 aB aC aD;refine(vM O.s _ (by have:=HF.o.1;omega)).mono ?_;rintro e w2 ⟨rfl,a4⟩;replace X:=rW X a4;replace M:=rW M a4;replace E:=bT E a4;clear a4;obtain⟨R,U⟩:=eX (sE O.s);rw[<- U];by_cases h0:R≠0
     ·have aa:((R:Nat):Int)≠0:=oM
      have aE:(((R:Nat):Int) !=0)=true:=by simpa using aa
      have aF:(R !=0)=true:=by simpa using h0
      have HE:Hid (O.err=R):=lH (by unfold OTx.err;rw[if_pos ⟨G.o,by rw[<- U];exact h0⟩];exact U.symm);have a8:=lH h0;clear h0 U;go_wp2_with fail
      go_returns;exact⟨⟨R,rfl, .inr ⟨a0.o, .inr ⟨⟨by rw[G.o];decide,by rw[G.o];decide⟩, .inr ⟨HZ.o, .inl ⟨by rw[HE.o];exact a8.o,HE.o.symm⟩⟩⟩⟩⟩,E.o⟩
     ·replace h0:R=0:=Classical.not_not.1 h0;subst h0;have HE:Hid (O.err=O.ja):=lH (by unfold OTx.err;rw[if_neg (fun h=>h.2 U.symm)]);clear U;obtain⟨o0,o1,o2,o3,o4⟩:=aT5 M.o;have ol:=M.o.lt
      go_upto_region 19 with (fail)
      clear o0 o1 o2 o3 o4 ol;go_wp2_with fail
      have F:=rG w2;have aP:=M.o.lt;have ar:=aI 2 M;have au:=aI 3 M;have av:=aI 4 M;have KS:=lH (kC ar (kC au (kN av)));clear aP ar au av;refine rL KS.o (fun i=>false) ?_;have Z:=KS.o _ F.o;obtain⟨wD,ao⟩:=eX (w2.drew);rw[<- ao];replace F:Hid (Below w2.heap.size w2 wD):=lH (by rw[ao];exact(Below.refl _ _).drew);clear ao Z;have Z:=KS.o _ F.o;refine tKs 1 80 Z ?_;refine tKs 2 81 Z ?_;refine tKs 4 83 Z ?_;refine tKs 5 84 Z ?_;refine tKs 7 86 Z ?_;refine tKs 8 87 Z ?_;obtain⟨B,hB⟩:=eX (w2.heap.size);refine rD 0 (fun K Y=> ?_);go_simp;refine Y.out _ _ (fun _=>KS.o _ (F.o.trans ((eD _ _).mono F.o.size))) ?_;clear Y K Z;have hE:Row (wD.alloc (.cells #[] 30)) wD.heap.size 30 []:=eP _ _;have ah:=eD wD (.cells #[] 30);obtain⟨wE,ap⟩:=eX (wD.alloc (.cells #[] 30));obtain⟨gE,aj⟩:=eX (wD.heap.size);rw[<- ap, <- aj] at hE ⊢;rw[<- ap] at ah;have b0:w2.heap.size <= gE:=by rw[aj];exact F.o.size
      replace F:=bT F ah;clear ap aj ah;have aW:fH wE (.slice (some ⟨gE,0,none⟩) 0 0) 0 (fun _=>⟨#[]⟩):=⟨[],⟨rfl, .inr ⟨gE,0, #[],rfl,Nat.zero_le _,hE,Nat.le_refl _,Nat.zero_le _,rfl,rfl⟩⟩,fun j T=>absurd T oM⟩;have aK:∀g,(Value.slice (some ⟨gE,0,none⟩) 0 0).ownBlock=some g -> w2.heap.size <= g:=fun g hg=>by simp only[Value.ownBlock,Option.some.injEq] at hg;omega
      refine jL 3 kR rfl (by rfl) (fun K Y=> ?_);refine mG _ (.tmp 79) (.tmp 81) rfl _ _ _ O.np _ O.p rfl aW rfl (HP.o.below (E.o.trans (F.o.mono E.o.size))) ⟨by have:=HN.o;omega,by have:=HN.o;omega⟩ ?_;intro v1 x1 aX aG;have aS:=aG.below (B:=w2.heap.size) F.o.size aK;have aL:=aG.base (B:=w2.heap.size) F.o.size aK;replace F:=lH (F.o.trans aS);refine Y.out _ _ (fun _=>KS.o _ F.o) ?_;clear Y K;refine jL 6 kR rfl (by rfl) (fun K Y=> ?_);refine mG _ (.tmp 82) (.tmp 84) rfl _ _ _ O.ny _ O.y rfl aX rfl (HY.o.below (E.o.trans (F.o.mono E.o.size))) ⟨by have:=HN.o;omega,by have:=HN.o;omega⟩ ?_;intro v2 x2 aY aH;have aT:=aH.below (B:=w2.heap.size) F.o.size aL;have aM:=aH.base (B:=w2.heap.size) F.o.size aL;replace F:=lH (F.o.trans aT);refine Y.out _ _ (fun _=>KS.o _ F.o) ?_;clear Y K;refine jL 9 kR rfl (by rfl) (fun K Y=> ?_);refine mG _ (.tmp 85) (.tmp 87) rfl _ _ _ O.nd _ O.d rfl aY rfl (HD.o.below (E.o.trans (F.o.mono E.o.size))) ⟨by have:=HN.o;omega,by have:=HN.o;omega⟩ ?_;intro v3 x3 aZ aJ;have aU:=aJ.below (B:=w2.heap.size) F.o.size aM;have b1:=aJ.base (B:=w2.heap.size) F.o.size aM;replace F:=lH (F.o.trans aU);refine Y.out _ _ (fun _=>KS.o _ F.o) ?_;clear Y K;refine rD 10 (fun K Y=> ?_);go_simp;refine(qX _ _ _ _ aZ.ts (by have:=HN.o;omega) (fun j T=>wK HF.o aQ j T)).mono ?_;rintro e w8 ⟨he,aR⟩;have aV:e= .returned (.int .i64 (O.ja:Nat)):=he.trans (by rw[<- wJ O]);clear he;subst aV;replace F:=bT F aR;have Z:=KS.o _ F.o;refine kH Y Z ?_;clear Y K;refine tKs 11 12 Z ?_;have ab:=F;refine dN ?_ _;clear Z KS F
      skip
      replace X:=lH (X.o.below ab.o X.o.lt);replace M:=lH (M.o.below ab.o M.o.lt);replace E:=lH (E.o.trans (ab.o.mono E.o.size));clear ab;obtain⟨R,U⟩:=eX (O.ja);rw[<- U];by_cases h0:R≠0
      ·have aa:((R:Nat):Int)≠0:=oM
       have aE:(((R:Nat):Int) !=0)=true:=by simpa using aa
       have aF:(R !=0)=true:=by simpa using h0
       have a8:=lH h0;have a9:=lH U;clear h0 U;go_wp2_with fail
       go_returns;exact⟨⟨R,rfl, .inr ⟨a0.o, .inr ⟨⟨by rw[G.o];decide,by rw[G.o];decide⟩, .inr ⟨HZ.o, .inl ⟨by rw[HE.o, <- a9.o];exact a8.o,by rw[HE.o];exact a9.o⟩⟩⟩⟩⟩,E.o⟩
      ·replace h0:R=0:=Classical.not_not.1 h0;subst h0;have af:Hid (O.err=0):=lH (by rw[HE.o];exact U.symm);clear U;obtain⟨A,bq,c,ax⟩:=wL a0.o;obtain⟨val,x,y,d,aw⟩:=wM af.o;have a6:=lH ax;have a2:=lH aw;clear ax aw;obtain⟨o0,o1,o2,o3,o4⟩:=aT5 M.o;have ol:=M.o.lt;obtain⟨p0,p1⟩:=aT2 X.o;have pl:=X.o.lt;go_wp2_with fail
       clear o0 o1 o2 o3 o4 ol p0 p1 pl;have ad:=lH (pO a0.o a6.o HS.o.1 HS.o.2.1 HS.o.2.2);have aO:=lH (mo a0.o);have ai:=wN AO AR n m cO cR k o t b A bq c Ka Kd Kq O AP AY AD cP cY cD val x y d _ (HO.o.below E.o) (HR.o.below E.o) (fun j T=>jE (a6.o.obj j T)) aO.o.2.2.1 (fun i hi j T=>jE (a6.o.rows i hi j T)) (fun i hi=>jE (a6.o.bounds i hi)) hn hm ad.o.2.1 ad.o.2.2 ad.o.1 HK.o hq ⟨by rw[G.o];decide,by rw[G.o];decide⟩ HZ.o (HP.o.1.below E.o) (HY.o.1.below E.o) (HD.o.1.below E.o) a2.o (fun h=>iU (a2.o.val h) HF.o.1) (fun j T=>iU (a2.o.pt j T) (HF.o.2.1 j T)) (fun j T=>iU (a2.o.du j T) (HF.o.2.2.1 j T)) (fun j T=>iU (a2.o.ray j T) (HF.o.2.2.2 j T));rw[G.o] at ai;refine ai.mono ?_;rintro e w9 ⟨hp,az⟩;clear ai;replace E:=bT E az;clear az
       rcases hp with ⟨hp,rfl⟩ | ⟨hp,rfl⟩
       ·have ae:=lH hp;clear hp;go_wp2_with fail
        go_returns;exact⟨⟨0,rfl, .inr ⟨a0.o, .inr ⟨⟨by rw[G.o];decide,by rw[G.o];decide⟩, .inr ⟨HZ.o, .inr ⟨af.o,A,bq,c,val,x,y,d,a6.o,a2.o, .inl ⟨by rw[G.o];exact ae.o,rfl⟩⟩⟩⟩⟩⟩,E.o⟩
       ·have ae:=lH hp;clear hp;go_wp2_with fail
        go_returns;exact⟨⟨27,rfl, .inr ⟨a0.o, .inr ⟨⟨by rw[G.o];decide,by rw[G.o];decide⟩, .inr ⟨HZ.o, .inr ⟨af.o,A,bq,c,val,x,y,d,a6.o,a2.o, .inr ⟨by rw[G.o];exact ae.o,rfl⟩⟩⟩⟩⟩⟩,E.o⟩
    ·have a4:(((O.nd:Nat):Int) !=0)=true:=by simp;omega
     have aD:(O.nd !=0)=true:=by simpa using a7
     have HZ:Hid (¬O.iE n m):=lH (fun h=>a7 (by have:=h.2.2.1;rw[G.o,if_neg dC] at this;exact this));clear a1 a5 a7;go_wp2_with fail
     go_returns;exact⟨⟨13,rfl, .inr ⟨a0.o, .inr ⟨⟨by rw[G.o];decide,by rw[G.o];decide⟩, .inl ⟨HZ.o,rfl⟩⟩⟩⟩,E.o⟩
   ·have a3:(((O.ny:Nat):Int) != ((m:Nat):Int))=true:=by simp;omega
    have aC:(O.ny !=m)=true:=by simpa using a5
    have HZ:Hid (¬O.iE n m):=lH (fun h=>a5 (by have:=h.2.1;rw[G.o,if_neg dC] at this;exact this));clear a1 a5;go_wp2_with fail
    go_returns;exact⟨⟨13,rfl, .inr ⟨a0.o, .inr ⟨⟨by rw[G.o];decide,by rw[G.o];decide⟩, .inl ⟨HZ.o,rfl⟩⟩⟩⟩,E.o⟩
  ·have ay:(((O.np:Nat):Int) != ((n:Nat):Int))=true:=by simp;omega
   have aB:(O.np !=n)=true:=by simpa using a1
   have HZ:Hid (¬O.iE n m):=lH (fun h=>a1 (by have:=h.1;rw[G.o,if_neg dC] at this;exact this));clear a1;go_wp2_with fail
   go_returns;exact⟨⟨13,rfl, .inr ⟨a0.o, .inr ⟨⟨by rw[G.o];decide,by rw[G.o];decide⟩, .inl ⟨HZ.o,rfl⟩⟩⟩⟩,E.o⟩
set_option maxRecDepth 100000 in
set_option maxHeartbeats 6400000 in
theorem JI(AO AR:Option Addr)(n m cO cR:Nat)(k:Nat -> Nat)(o:Nat -> ByteArray)(t:Nat -> Nat -> ByteArray)(b:Nat -> ByteArray)(Ka Kd Kq:Nat)(O:OTx)(AP AY AD:Option Addr)(cP cY cD:Nat)(w:World)(ho:TS w (.slice AO n cO) n o)(hr:fZ w (.slice AR m cR) m k t b)(hn:n <= 1000000000)(hm:m <= 1000000000)
  (an:∀j,j<n -> (o j).size <= Ka) (ao:∀i,i<m -> ∀j,j<k i -> (t i j).size <= Ka) (a9:∀i,i<m -> (b i).size <= Ka) (ah:Ka <= 65536) (aT:Kd <= 65536) (am:O.kk=2) (hp:TSA w (.slice AP O.np cP) O.np O.p) (hy:TSA w (.slice AY O.ny cY) O.ny O.y) (hd:TSA w (.slice AD O.nd cD) O.nd O.d) (hN:O.np <= 100000000 /\ O.ny <= 100000000 /\ O.nd <= 100000000) (hf:O.Fit Kd) (T:1+ (m+n)* (Ka+Kd+1) <= Kq /\ Ka <= Kq /\ Kd <= Kq) (hq:4*Kq <= 4000000):
  Calls prog 27 #[.agg #[.slice AO n cO, .slice AR m cR], .agg #[.int .i64 O.kk, .string O.s, .slice AP O.np cP, .slice AY O.ny cY, .slice AD O.nd cD]] w fun e w'=>pX n m k o t b O e /\ Below w.heap.size w w':=by
 have G:=lH am;rw[am];clear am;have aP:=lH (fun(wx:World) (aC:Below w.heap.size w wx)=>ry AO AR n m cO cR k o t b wx (ho.below aC) (hr.below aC) hn hm (fun j M=>Nat.le_trans (an j M) ah) (fun i hi j M=>Nat.le_trans (ao i hi j M) ah) (fun i hi=>Nat.le_trans (a9 i hi) ah));have HO:=lH ho;have HR:=lH hr;have HS:=lH (And.intro an (And.intro ao a9));have HP:=lH hp;have HY:=lH hy;have HD:=lH hd;have HN:=lH hN;have HF:=lH hf;have HK:=lH T;clear ho hr an ao a9 hp hy hd hN hf T;obtain⟨W,hW,U,R,F⟩:=eN2 w [.slice AO n cO, .slice AR m cR] 25 [.int .i64 2, .string O.s, .slice AP O.np cP, .slice AY O.ny cY, .slice AD O.nd cD] 32;go_enter func27,ntmps27;obtain⟨p0,p1⟩:=aT2 U.o;have pl:=U.o.lt;rw[hW] at p0 p1 pl;go_wp2_with fail
 rw[<- hW];clear hW p0 p1 pl;refine(aP.o _ F.o).mono ?_;rintro e w1 ⟨rfl,a5⟩;replace U:=rW U a5;replace R:=rW R a5;replace F:=bT F a5;clear a5;obtain⟨Y,a0⟩:=eX (fD n m k o t b);rw[<- a0];by_cases h0:Y≠0
 ·have ak:((Y:Nat):Int)≠0:=oM
  have aY:(((Y:Nat):Int) !=0)=true:=by simpa using ak
  have aZ:(Y !=0)=true:=by simpa using h0
  have ad:=lH h0;have aa:=lH a0;clear h0 a0;go_wp2_with fail
  go_returns;exact⟨⟨Y,rfl, .inl ⟨by rw[<- aa.o];exact ad.o,aa.o⟩⟩,F.o⟩
 ·replace h0:Y=0:=Classical.not_not.1 h0;subst h0;have a1:Hid (fD n m k o t b=0):=lH a0.symm;clear a0;have o0:=aI 0 R;obtain⟨p0,p1⟩:=aT2 U.o;have ol:=R.o.lt;have pl:=U.o.lt
  go_upto_region 6 with (fail)
  go_region
  clear o0 p0 p1 ol pl;obtain⟨X,ar⟩:=eX (w1.drew);rw[<- ar];have ac:Below w1.heap.size w1 X:=by rw[ar];exact(Below.refl _ _).drew
  clear ar;replace U:=rW U ac;replace R:=rW R ac;replace F:=bT F ac;clear ac;obtain⟨o0,o1,o2,o3,o4⟩:=aT5 R.o;have ol:=R.o.lt;obtain⟨p0,p1⟩:=aT2 U.o;have pl:=U.o.lt;by_cases a2:O.np=0
  ·have az:(((O.np:Nat):Int) !=0)=false:=by simp;omega
   have aD:(O.np !=0)=false:=by simpa using a2
   by_cases a3:O.ny=m
   ·have a5:(((O.ny:Nat):Int) != ((m:Nat):Int))=false:=by simp;omega
    have aE:(O.ny !=m)=false:=by simpa using a3
    by_cases a6:O.nd=0
    ·have aA:(((O.nd:Nat):Int) !=0)=false:=by simp;omega
     have aF:(O.nd !=0)=false:=by simpa using a6
     by_cases a8:O.s=⟨#[]⟩
     ·have aG:O.s.toList= []:=by rw[a8,ByteArray.toList_eq]
      have a9:(O.s.toList== [])=true:=by rw[aG];rfl
      have aR:=lH a8;clear a8;have HZ:Hid (O.iE n m):=lH ⟨by rw[G.o,if_pos rfl];exact a2,by rw[G.o,if_neg dC];exact a3,by rw[G.o,if_neg dC];exact a6, .inr aR.o⟩;clear a2 a3 a6;have HE:Hid (O.err=O.ja):=lH (by unfold OTx.err;rw[if_neg (fun h=>absurd (G.o.symm.trans h.1) dC)])
      go_upto_region 19 with (fail)
      clear o0 o1 o2 o3 o4 ol p0 p1 pl az a5 aA aD aE aF aG a9;go_wp2_with fail
      have E:=rG X;have aS:=R.o.lt;have au:=aI 2 R;have av:=aI 3 R;have aw:=aI 4 R;have KS:=lH (kC au (kC av (kN aw)));clear aS au av aw;refine rL KS.o (fun i=>false) ?_;have Z:=KS.o _ E.o;obtain⟨wD,ap⟩:=eX (X.drew);rw[<- ap];replace E:Hid (Below X.heap.size X wD):=lH (by rw[ap];exact(Below.refl _ _).drew);clear ap Z;have Z:=KS.o _ E.o;refine tKs 1 80 Z ?_;refine tKs 2 81 Z ?_;refine tKs 4 83 Z ?_;refine tKs 5 84 Z ?_;refine tKs 7 86 Z ?_;refine tKs 8 87 Z ?_;obtain⟨B,hB⟩:=eX (X.heap.size);refine rD 0 (fun K T=> ?_);go_simp;refine T.out _ _ (fun _=>KS.o _ (E.o.trans ((eD _ _).mono E.o.size))) ?_;clear T K Z;have hE:Row (wD.alloc (.cells #[] 30)) wD.heap.size 30 []:=eP _ _;have ai:=eD wD (.cells #[] 30);obtain⟨wE,aq⟩:=eX (wD.alloc (.cells #[] 30));obtain⟨gE,al⟩:=eX (wD.heap.size);rw[<- aq, <- al] at hE ⊢;rw[<- aq] at ai;have b5:X.heap.size <= gE:=by rw[al];exact E.o.size
      replace E:=bT E ai;clear aq al ai;have b1:fH wE (.slice (some ⟨gE,0,none⟩) 0 0) 0 (fun _=>⟨#[]⟩):=⟨[],⟨rfl, .inr ⟨gE,0, #[],rfl,Nat.zero_le _,hE,Nat.le_refl _,Nat.zero_le _,rfl,rfl⟩⟩,fun j M=>absurd M oM⟩;have aM:∀g,(Value.slice (some ⟨gE,0,none⟩) 0 0).ownBlock=some g -> X.heap.size <= g:=fun g hg=>by simp only[Value.ownBlock,Option.some.injEq] at hg;omega
      refine jL 3 kR rfl (by rfl) (fun K T=> ?_);refine mG _ (.tmp 79) (.tmp 81) rfl _ _ _ O.np _ O.p rfl b1 rfl (HP.o.below (F.o.trans (E.o.mono F.o.size))) ⟨by have:=HN.o;omega,by have:=HN.o;omega⟩ ?_;intro v1 x1 b2 aJ;have aV:=aJ.below (B:=X.heap.size) E.o.size aM;have aN:=aJ.base (B:=X.heap.size) E.o.size aM;replace E:=lH (E.o.trans aV);refine T.out _ _ (fun _=>KS.o _ E.o) ?_;clear T K;refine jL 6 kR rfl (by rfl) (fun K T=> ?_);refine mG _ (.tmp 82) (.tmp 84) rfl _ _ _ O.ny _ O.y rfl b2 rfl (HY.o.below (F.o.trans (E.o.mono F.o.size))) ⟨by have:=HN.o;omega,by have:=HN.o;omega⟩ ?_;intro v2 x2 b3 aK;have aW:=aK.below (B:=X.heap.size) E.o.size aN;have aO:=aK.base (B:=X.heap.size) E.o.size aN;replace E:=lH (E.o.trans aW);refine T.out _ _ (fun _=>KS.o _ E.o) ?_;clear T K;refine jL 9 kR rfl (by rfl) (fun K T=> ?_);refine mG _ (.tmp 85) (.tmp 87) rfl _ _ _ O.nd _ O.d rfl b3 rfl (HD.o.below (F.o.trans (E.o.mono F.o.size))) ⟨by have:=HN.o;omega,by have:=HN.o;omega⟩ ?_;intro v3 x3 b4 aL;have aX:=aL.below (B:=X.heap.size) E.o.size aO;have b7:=aL.base (B:=X.heap.size) E.o.size aO;replace E:=lH (E.o.trans aX);refine T.out _ _ (fun _=>KS.o _ E.o) ?_;clear T K;refine rD 10 (fun K T=> ?_);go_simp;refine(qX _ _ _ _ b4.ts (by have:=HN.o;omega) (fun j M=>wK HF.o aT j M)).mono ?_;rintro e w8 ⟨he,aU⟩;have b0:e= .returned (.int .i64 (O.ja:Nat)):=he.trans (by rw[<- wJ O]);clear he;subst b0;replace E:=bT E aU;have Z:=KS.o _ E.o;refine kH T Z ?_;clear T K;refine tKs 11 12 Z ?_;have ab:=E;refine dN ?_ _;clear Z KS E
      skip
      replace U:=lH (U.o.below ab.o U.o.lt);replace R:=lH (R.o.below ab.o R.o.lt);replace F:=lH (F.o.trans (ab.o.mono F.o.size));clear ab;obtain⟨Y,a0⟩:=eX (O.ja);rw[<- a0];by_cases h0:Y≠0
      ·have ak:((Y:Nat):Int)≠0:=oM
       have aY:(((Y:Nat):Int) !=0)=true:=by simpa using ak
       have aZ:(Y !=0)=true:=by simpa using h0
       have ad:=lH h0;have aa:=lH a0;clear h0 a0;go_wp2_with fail
       go_returns;exact⟨⟨Y,rfl, .inr ⟨a1.o, .inr ⟨⟨by rw[G.o];decide,by rw[G.o];decide⟩, .inr ⟨HZ.o, .inl ⟨by rw[HE.o, <- aa.o];exact ad.o,by rw[HE.o];exact aa.o⟩⟩⟩⟩⟩,F.o⟩
      ·replace h0:Y=0:=Classical.not_not.1 h0;subst h0;have ag:Hid (O.err=0):=lH (by rw[HE.o];exact a0.symm);clear a0;obtain⟨A,bq,c,ay⟩:=wL a1.o;obtain⟨val,x,y,d,ax⟩:=wM ag.o;have a7:=lH ay;have a4:=lH ax;clear ay ax;obtain⟨o0,o1,o2,o3,o4⟩:=aT5 R.o;have ol:=R.o.lt;obtain⟨p0,p1⟩:=aT2 U.o;have pl:=U.o.lt;go_wp2_with fail
       clear o0 o1 o2 o3 o4 ol p0 p1 pl;have ae:=lH (pO a1.o a7.o HS.o.1 HS.o.2.1 HS.o.2.2);have aQ:=lH (mo a1.o);have aj:=wN AO AR n m cO cR k o t b A bq c Ka Kd Kq O AP AY AD cP cY cD val x y d _ (HO.o.below F.o) (HR.o.below F.o) (fun j M=>jE (a7.o.obj j M)) aQ.o.2.2.1 (fun i hi j M=>jE (a7.o.rows i hi j M)) (fun i hi=>jE (a7.o.bounds i hi)) hn hm ae.o.2.1 ae.o.2.2 ae.o.1 HK.o hq ⟨by rw[G.o];decide,by rw[G.o];decide⟩ HZ.o (HP.o.1.below F.o) (HY.o.1.below F.o) (HD.o.1.below F.o) a4.o (fun h=>iU (a4.o.val h) HF.o.1) (fun j M=>iU (a4.o.pt j M) (HF.o.2.1 j M)) (fun j M=>iU (a4.o.du j M) (HF.o.2.2.1 j M)) (fun j M=>iU (a4.o.ray j M) (HF.o.2.2.2 j M));rw[G.o] at aj;refine aj.mono ?_;rintro e w9 ⟨hp,aB⟩;clear aj;replace F:=bT F aB;clear aB
       rcases hp with ⟨hp,rfl⟩ | ⟨hp,rfl⟩
       ·have af:=lH hp;clear hp;go_wp2_with fail
        go_returns;exact⟨⟨0,rfl, .inr ⟨a1.o, .inr ⟨⟨by rw[G.o];decide,by rw[G.o];decide⟩, .inr ⟨HZ.o, .inr ⟨ag.o,A,bq,c,val,x,y,d,a7.o,a4.o, .inl ⟨by rw[G.o];exact af.o,rfl⟩⟩⟩⟩⟩⟩,F.o⟩
       ·have af:=lH hp;clear hp;go_wp2_with fail
        go_returns;exact⟨⟨27,rfl, .inr ⟨a1.o, .inr ⟨⟨by rw[G.o];decide,by rw[G.o];decide⟩, .inr ⟨HZ.o, .inr ⟨ag.o,A,bq,c,val,x,y,d,a7.o,a4.o, .inr ⟨by rw[G.o];exact af.o,rfl⟩⟩⟩⟩⟩⟩,F.o⟩
     ·have aH:O.s.toList≠ []:=fun h=>a8 (lY (by rw[<- ByteArray.toList_eq];exact h))
      have a9:(O.s.toList== [])=false:=by simpa using aH
      have b6:¬O.s.toList.isEmpty=true:=by simpa using aH
      have HZ:Hid (¬O.iE n m):=lH (fun h=>a8 (h.2.2.2.resolve_left (by rw[G.o];decide)));clear a2 a3 a6 a8;go_wp2_with fail
      go_returns;exact⟨⟨13,rfl, .inr ⟨a1.o, .inr ⟨⟨by rw[G.o];decide,by rw[G.o];decide⟩, .inl ⟨HZ.o,rfl⟩⟩⟩⟩,F.o⟩
    ·have aA:(((O.nd:Nat):Int) !=0)=true:=by simp;omega
     have aF:(O.nd !=0)=true:=by simpa using a6
     have HZ:Hid (¬O.iE n m):=lH (fun h=>a6 (by have:=h.2.2.1;rw[G.o,if_neg dC] at this;exact this));clear a2 a3 a6;go_wp2_with fail
     go_returns;exact⟨⟨13,rfl, .inr ⟨a1.o, .inr ⟨⟨by rw[G.o];decide,by rw[G.o];decide⟩, .inl ⟨HZ.o,rfl⟩⟩⟩⟩,F.o⟩
   ·have a5:(((O.ny:Nat):Int) != ((m:Nat):Int))=true:=by simp;omega
    have aE:(O.ny !=m)=true:=by simpa using a3
    have HZ:Hid (¬O.iE n m):=lH (fun h=>a3 (by have:=h.2.1;rw[G.o,if_neg dC] at this;exact this));clear a2 a3;go_wp2_with fail
    go_returns;exact⟨⟨13,rfl, .inr ⟨a1.o, .inr ⟨⟨by rw[G.o];decide,by rw[G.o];decide⟩, .inl ⟨HZ.o,rfl⟩⟩⟩⟩,F.o⟩
  ·have az:(((O.np:Nat):Int) !=0)=true:=by simp;omega
   have aD:(O.np !=0)=true:=by simpa using a2
   have HZ:Hid (¬O.iE n m):=lH (fun h=>a2 (by have:=h.1;rw[G.o,if_pos rfl] at this;exact this));clear a2;go_wp2_with fail
   go_returns;exact⟨⟨13,rfl, .inr ⟨a1.o, .inr ⟨⟨by rw[G.o];decide,by rw[G.o];decide⟩, .inl ⟨HZ.o,rfl⟩⟩⟩⟩,F.o⟩
set_option maxRecDepth 100000 in
set_option maxHeartbeats 6400000 in
theorem JJ(AO AR:Option Addr)(n m cO cR:Nat)(k:Nat -> Nat)(o:Nat -> ByteArray)(t:Nat -> Nat -> ByteArray)(b:Nat -> ByteArray)(Ka Kd Kq:Nat)(O:OTx)(AP AY AD:Option Addr)(cP cY cD:Nat)(w:World)(ho:TS w (.slice AO n cO) n o)(hr:fZ w (.slice AR m cR) m k t b)(hn:n <= 1000000000)(hm:m <= 1000000000)
  (an:∀j,j<n -> (o j).size <= Ka) (ao:∀i,i<m -> ∀j,j<k i -> (t i j).size <= Ka) (a9:∀i,i<m -> (b i).size <= Ka) (ah:Ka <= 65536) (aT:Kd <= 65536) (am:O.kk=3) (hp:TSA w (.slice AP O.np cP) O.np O.p) (hy:TSA w (.slice AY O.ny cY) O.ny O.y) (hd:TSA w (.slice AD O.nd cD) O.nd O.d) (hN:O.np <= 100000000 /\ O.ny <= 100000000 /\ O.nd <= 100000000) (hf:O.Fit Kd) (T:1+ (m+n)* (Ka+Kd+1) <= Kq /\ Ka <= Kq /\ Kd <= Kq) (hq:4*Kq <= 4000000):
  Calls prog 27 #[.agg #[.slice AO n cO, .slice AR m cR], .agg #[.int .i64 O.kk, .string O.s, .slice AP O.np cP, .slice AY O.ny cY, .slice AD O.nd cD]] w fun e w'=>pX n m k o t b O e /\ Below w.heap.size w w':=by
 have G:=lH am;rw[am];clear am;have aP:=lH (fun(wx:World) (aC:Below w.heap.size w wx)=>ry AO AR n m cO cR k o t b wx (ho.below aC) (hr.below aC) hn hm (fun j M=>Nat.le_trans (an j M) ah) (fun i hi j M=>Nat.le_trans (ao i hi j M) ah) (fun i hi=>Nat.le_trans (a9 i hi) ah));have HO:=lH ho;have HR:=lH hr;have HS:=lH (And.intro an (And.intro ao a9));have HP:=lH hp;have HY:=lH hy;have HD:=lH hd;have HN:=lH hN;have HF:=lH hf;have HK:=lH T;clear ho hr an ao a9 hp hy hd hN hf T;obtain⟨W,hW,U,R,F⟩:=eN2 w [.slice AO n cO, .slice AR m cR] 25 [.int .i64 3, .string O.s, .slice AP O.np cP, .slice AY O.ny cY, .slice AD O.nd cD] 32;go_enter func27,ntmps27;obtain⟨p0,p1⟩:=aT2 U.o;have pl:=U.o.lt;rw[hW] at p0 p1 pl;go_wp2_with fail
 rw[<- hW];clear hW p0 p1 pl;refine(aP.o _ F.o).mono ?_;rintro e w1 ⟨rfl,a5⟩;replace U:=rW U a5;replace R:=rW R a5;replace F:=bT F a5;clear a5;obtain⟨Y,a0⟩:=eX (fD n m k o t b);rw[<- a0];by_cases h0:Y≠0
 ·have ak:((Y:Nat):Int)≠0:=oM
  have aY:(((Y:Nat):Int) !=0)=true:=by simpa using ak
  have aZ:(Y !=0)=true:=by simpa using h0
  have ad:=lH h0;have aa:=lH a0;clear h0 a0;go_wp2_with fail
  go_returns;exact⟨⟨Y,rfl, .inl ⟨by rw[<- aa.o];exact ad.o,aa.o⟩⟩,F.o⟩
 ·replace h0:Y=0:=Classical.not_not.1 h0;subst h0;have a1:Hid (fD n m k o t b=0):=lH a0.symm;clear a0;have o0:=aI 0 R;obtain⟨p0,p1⟩:=aT2 U.o;have ol:=R.o.lt;have pl:=U.o.lt
  go_upto_region 6 with (fail)
  go_region
  clear o0 p0 p1 ol pl;obtain⟨X,ar⟩:=eX (w1.drew);rw[<- ar];have ac:Below w1.heap.size w1 X:=by rw[ar];exact(Below.refl _ _).drew
  clear ar;replace U:=rW U ac;replace R:=rW R ac;replace F:=bT F ac;clear ac;obtain⟨o0,o1,o2,o3,o4⟩:=aT5 R.o;have ol:=R.o.lt;obtain⟨p0,p1⟩:=aT2 U.o;have pl:=U.o.lt;by_cases a2:O.np=n
  ·have az:(((O.np:Nat):Int) != ((n:Nat):Int))=false:=by simp;omega
   have aD:(O.np !=n)=false:=by simpa using a2
   by_cases a3:O.ny=0
   ·have a5:(((O.ny:Nat):Int) !=0)=false:=by simp;omega
    have aE:(O.ny !=0)=false:=by simpa using a3
    by_cases a6:O.nd=n
    ·have aA:(((O.nd:Nat):Int) != ((n:Nat):Int))=false:=by simp;omega
     have aF:(O.nd !=n)=false:=by simpa using a6
     by_cases a8:O.s=⟨#[]⟩
     ·have aG:O.s.toList= []:=by rw[a8,ByteArray.toList_eq]
      have a9:(O.s.toList== [])=true:=by rw[aG];rfl
      have aR:=lH a8;clear a8;have HZ:Hid (O.iE n m):=lH ⟨by rw[G.o,if_neg dC];exact a2,by rw[G.o,if_pos rfl];exact a3,by rw[G.o,if_pos rfl];exact a6, .inr aR.o⟩;clear a2 a3 a6;have HE:Hid (O.err=O.ja):=lH (by unfold OTx.err;rw[if_neg (fun h=>absurd (G.o.symm.trans h.1) dC)])
      go_upto_region 19 with (fail)
      clear o0 o1 o2 o3 o4 ol p0 p1 pl az a5 aA aD aE aF aG a9;go_wp2_with fail
      have E:=rG X;have aS:=R.o.lt;have au:=aI 2 R;have av:=aI 3 R;have aw:=aI 4 R;have KS:=lH (kC au (kC av (kN aw)));clear aS au av aw;refine rL KS.o (fun i=>false) ?_;have Z:=KS.o _ E.o;obtain⟨wD,ap⟩:=eX (X.drew);rw[<- ap];replace E:Hid (Below X.heap.size X wD):=lH (by rw[ap];exact(Below.refl _ _).drew);clear ap Z;have Z:=KS.o _ E.o;refine tKs 1 80 Z ?_;refine tKs 2 81 Z ?_;refine tKs 4 83 Z ?_;refine tKs 5 84 Z ?_;refine tKs 7 86 Z ?_;refine tKs 8 87 Z ?_;obtain⟨B,hB⟩:=eX (X.heap.size);refine rD 0 (fun K T=> ?_);go_simp;refine T.out _ _ (fun _=>KS.o _ (E.o.trans ((eD _ _).mono E.o.size))) ?_;clear T K Z;have hE:Row (wD.alloc (.cells #[] 30)) wD.heap.size 30 []:=eP _ _;have ai:=eD wD (.cells #[] 30);obtain⟨wE,aq⟩:=eX (wD.alloc (.cells #[] 30));obtain⟨gE,al⟩:=eX (wD.heap.size);rw[<- aq, <- al] at hE ⊢;rw[<- aq] at ai;have b5:X.heap.size <= gE:=by rw[al];exact E.o.size
      replace E:=bT E ai;clear aq al ai;have b1:fH wE (.slice (some ⟨gE,0,none⟩) 0 0) 0 (fun _=>⟨#[]⟩):=⟨[],⟨rfl, .inr ⟨gE,0, #[],rfl,Nat.zero_le _,hE,Nat.le_refl _,Nat.zero_le _,rfl,rfl⟩⟩,fun j M=>absurd M oM⟩;have aM:∀g,(Value.slice (some ⟨gE,0,none⟩) 0 0).ownBlock=some g -> X.heap.size <= g:=fun g hg=>by simp only[Value.ownBlock,Option.some.injEq] at hg;omega
      refine jL 3 kR rfl (by rfl) (fun K T=> ?_);refine mG _ (.tmp 79) (.tmp 81) rfl _ _ _ O.np _ O.p rfl b1 rfl (HP.o.below (F.o.trans (E.o.mono F.o.size))) ⟨by have:=HN.o;omega,by have:=HN.o;omega⟩ ?_;intro v1 x1 b2 aJ;have aV:=aJ.below (B:=X.heap.size) E.o.size aM;have aN:=aJ.base (B:=X.heap.size) E.o.size aM;replace E:=lH (E.o.trans aV);refine T.out _ _ (fun _=>KS.o _ E.o) ?_;clear T K;refine jL 6 kR rfl (by rfl) (fun K T=> ?_);refine mG _ (.tmp 82) (.tmp 84) rfl _ _ _ O.ny _ O.y rfl b2 rfl (HY.o.below (F.o.trans (E.o.mono F.o.size))) ⟨by have:=HN.o;omega,by have:=HN.o;omega⟩ ?_;intro v2 x2 b3 aK;have aW:=aK.below (B:=X.heap.size) E.o.size aN;have aO:=aK.base (B:=X.heap.size) E.o.size aN;replace E:=lH (E.o.trans aW);refine T.out _ _ (fun _=>KS.o _ E.o) ?_;clear T K;refine jL 9 kR rfl (by rfl) (fun K T=> ?_);refine mG _ (.tmp 85) (.tmp 87) rfl _ _ _ O.nd _ O.d rfl b3 rfl (HD.o.below (F.o.trans (E.o.mono F.o.size))) ⟨by have:=HN.o;omega,by have:=HN.o;omega⟩ ?_;intro v3 x3 b4 aL;have aX:=aL.below (B:=X.heap.size) E.o.size aO;have b7:=aL.base (B:=X.heap.size) E.o.size aO;replace E:=lH (E.o.trans aX);refine T.out _ _ (fun _=>KS.o _ E.o) ?_;clear T K;refine rD 10 (fun K T=> ?_);go_simp;refine(qX _ _ _ _ b4.ts (by have:=HN.o;omega) (fun j M=>wK HF.o aT j M)).mono ?_;rintro e w8 ⟨he,aU⟩;have b0:e= .returned (.int .i64 (O.ja:Nat)):=he.trans (by rw[<- wJ O]);clear he;subst b0;replace E:=bT E aU;have Z:=KS.o _ E.o;refine kH T Z ?_;clear T K;refine tKs 11 12 Z ?_;have ab:=E;refine dN ?_ _;clear Z KS E
      skip
      replace U:=lH (U.o.below ab.o U.o.lt);replace R:=lH (R.o.below ab.o R.o.lt);replace F:=lH (F.o.trans (ab.o.mono F.o.size));clear ab;obtain⟨Y,a0⟩:=eX (O.ja);rw[<- a0];by_cases h0:Y≠0
      ·have ak:((Y:Nat):Int)≠0:=oM
       have aY:(((Y:Nat):Int) !=0)=true:=by simpa using ak
       have aZ:(Y !=0)=true:=by simpa using h0
       have ad:=lH h0;have aa:=lH a0;clear h0 a0;go_wp2_with fail
       go_returns;exact⟨⟨Y,rfl, .inr ⟨a1.o, .inr ⟨⟨by rw[G.o];decide,by rw[G.o];decide⟩, .inr ⟨HZ.o, .inl ⟨by rw[HE.o, <- aa.o];exact ad.o,by rw[HE.o];exact aa.o⟩⟩⟩⟩⟩,F.o⟩
      ·replace h0:Y=0:=Classical.not_not.1 h0;subst h0;have ag:Hid (O.err=0):=lH (by rw[HE.o];exact a0.symm);clear a0;obtain⟨A,bq,c,ay⟩:=wL a1.o;obtain⟨val,x,y,d,ax⟩:=wM ag.o;have a7:=lH ay;have a4:=lH ax;clear ay ax;obtain⟨o0,o1,o2,o3,o4⟩:=aT5 R.o;have ol:=R.o.lt;obtain⟨p0,p1⟩:=aT2 U.o;have pl:=U.o.lt;go_wp2_with fail
       clear o0 o1 o2 o3 o4 ol p0 p1 pl;have ae:=lH (pO a1.o a7.o HS.o.1 HS.o.2.1 HS.o.2.2);have aQ:=lH (mo a1.o);have aj:=wN AO AR n m cO cR k o t b A bq c Ka Kd Kq O AP AY AD cP cY cD val x y d _ (HO.o.below F.o) (HR.o.below F.o) (fun j M=>jE (a7.o.obj j M)) aQ.o.2.2.1 (fun i hi j M=>jE (a7.o.rows i hi j M)) (fun i hi=>jE (a7.o.bounds i hi)) hn hm ae.o.2.1 ae.o.2.2 ae.o.1 HK.o hq ⟨by rw[G.o];decide,by rw[G.o];decide⟩ HZ.o (HP.o.1.below F.o) (HY.o.1.below F.o) (HD.o.1.below F.o) a4.o (fun h=>iU (a4.o.val h) HF.o.1) (fun j M=>iU (a4.o.pt j M) (HF.o.2.1 j M)) (fun j M=>iU (a4.o.du j M) (HF.o.2.2.1 j M)) (fun j M=>iU (a4.o.ray j M) (HF.o.2.2.2 j M));rw[G.o] at aj;refine aj.mono ?_;rintro e w9 ⟨hp,aB⟩;clear aj;replace F:=bT F aB;clear aB
       rcases hp with ⟨hp,rfl⟩ | ⟨hp,rfl⟩
       ·have af:=lH hp;clear hp;go_wp2_with fail
        go_returns;exact⟨⟨0,rfl, .inr ⟨a1.o, .inr ⟨⟨by rw[G.o];decide,by rw[G.o];decide⟩, .inr ⟨HZ.o, .inr ⟨ag.o,A,bq,c,val,x,y,d,a7.o,a4.o, .inl ⟨by rw[G.o];exact af.o,rfl⟩⟩⟩⟩⟩⟩,F.o⟩
       ·have af:=lH hp;clear hp;go_wp2_with fail
        go_returns;exact⟨⟨27,rfl, .inr ⟨a1.o, .inr ⟨⟨by rw[G.o];decide,by rw[G.o];decide⟩, .inr ⟨HZ.o, .inr ⟨ag.o,A,bq,c,val,x,y,d,a7.o,a4.o, .inr ⟨by rw[G.o];exact af.o,rfl⟩⟩⟩⟩⟩⟩,F.o⟩
     ·have aH:O.s.toList≠ []:=fun h=>a8 (lY (by rw[<- ByteArray.toList_eq];exact h))
      have a9:(O.s.toList== [])=false:=by simpa using aH
      have b6:¬O.s.toList.isEmpty=true:=by simpa using aH
      have HZ:Hid (¬O.iE n m):=lH (fun h=>a8 (h.2.2.2.resolve_left (by rw[G.o];decide)));clear a2 a3 a6 a8;go_wp2_with fail
      go_returns;exact⟨⟨13,rfl, .inr ⟨a1.o, .inr ⟨⟨by rw[G.o];decide,by rw[G.o];decide⟩, .inl ⟨HZ.o,rfl⟩⟩⟩⟩,F.o⟩
    ·have aA:(((O.nd:Nat):Int) != ((n:Nat):Int))=true:=by simp;omega
     have aF:(O.nd !=n)=true:=by simpa using a6
     have HZ:Hid (¬O.iE n m):=lH (fun h=>a6 (by have:=h.2.2.1;rw[G.o,if_pos rfl] at this;exact this));clear a2 a3 a6;go_wp2_with fail
     go_returns;exact⟨⟨13,rfl, .inr ⟨a1.o, .inr ⟨⟨by rw[G.o];decide,by rw[G.o];decide⟩, .inl ⟨HZ.o,rfl⟩⟩⟩⟩,F.o⟩
   ·have a5:(((O.ny:Nat):Int) !=0)=true:=by simp;omega
    have aE:(O.ny !=0)=true:=by simpa using a3
    have HZ:Hid (¬O.iE n m):=lH (fun h=>a3 (by have:=h.2.1;rw[G.o,if_pos rfl] at this;exact this));clear a2 a3;go_wp2_with fail
    go_returns;exact⟨⟨13,rfl, .inr ⟨a1.o, .inr ⟨⟨by rw[G.o];decide,by rw[G.o];decide⟩, .inl ⟨HZ.o,rfl⟩⟩⟩⟩,F.o⟩
  ·have az:(((O.np:Nat):Int) != ((n:Nat):Int))=true:=by simp;omega
   have aD:(O.np !=n)=true:=by simpa using a2
   have HZ:Hid (¬O.iE n m):=lH (fun h=>a2 (by have:=h.1;rw[G.o,if_neg dC] at this;exact this));clear a2;go_wp2_with fail
   go_returns;exact⟨⟨13,rfl, .inr ⟨a1.o, .inr ⟨⟨by rw[G.o];decide,by rw[G.o];decide⟩, .inl ⟨HZ.o,rfl⟩⟩⟩⟩,F.o⟩
set_option maxRecDepth 100000 in
set_option maxHeartbeats 6400000 in
theorem JK(R T:Option Addr)(n m Z cR:Nat)(k:Nat -> Nat)(o:Nat -> ByteArray)(t:Nat -> Nat -> ByteArray)(b:Nat -> ByteArray)(E U X:Nat)(O:OTx)(AP AY AD:Option Addr)(cP cY cD:Nat)(w:World)(ho:TS w (.slice R n Z) n o)(hr:fZ w (.slice T m cR) m k t b)(hn:n <= 1000000000)(hm:m <= 1000000000)
  (a8:∀j,j<n -> (o j).size <= E) (a9:∀i,i<m -> ∀j,j<k i -> (t i j).size <= E) (a7:∀i,i<m -> (b i).size <= E) (a1:E <= 65536) (_:U <= 65536) (a6:O.kk<1 \/ 3<O.kk) (_:TSA w (.slice AP O.np cP) O.np O.p) (_:TSA w (.slice AY O.ny cY) O.ny O.y) (_:TSA w (.slice AD O.nd cD) O.nd O.d) (_:O.np <= 100000000 /\ O.ny <= 100000000 /\ O.nd <= 100000000) (_:O.Fit U) (_:1+ (m+n)* (E+U+1) <= X /\ E <= X /\ U <= X) (_:4*X <= 4000000):
  Calls prog 27 #[.agg #[.slice R n Z, .slice T m cR], .agg #[.int .i64 O.kk, .string O.s, .slice AP O.np cP, .slice AY O.ny cY, .slice AD O.nd cD]] w fun e w'=>pX n m k o t b O e /\ Below w.heap.size w w':=by
 have a0:=lH a6;clear a6;have ab:=lH (fun(wx:World) (a5:Below w.heap.size w wx)=>ry R T n m Z cR k o t b wx (ho.below a5) (hr.below a5) hn hm (fun j hj=>Nat.le_trans (a8 j hj) a1) (fun i hi j hj=>Nat.le_trans (a9 i hi j hj) a1) (fun i hi=>Nat.le_trans (a7 i hi) a1));clear ho hr a8 a9 a7;obtain⟨W,hW,PB,Y,h⟩:=eN2 w [.slice R n Z, .slice T m cR] 25 [.int .i64 O.kk, .string O.s, .slice AP O.np cP, .slice AY O.ny cY, .slice AD O.nd cD] 32;go_enter func27,ntmps27;obtain⟨p0,p1⟩:=aT2 PB.o;have pl:=PB.o.lt;rw[hW] at p0 p1 pl;go_wp2_with fail
 rw[<- hW];clear hW p0 p1 pl;refine(ab.o _ h.o).mono ?_;rintro e w1 ⟨rfl,a2⟩;replace Y:=rW Y a2;replace h:=bT h a2;clear a2;obtain⟨F,G⟩:=eX (fD n m k o t b);rw[<- G];by_cases h0:F≠0
 ·have ac:((F:Nat):Int)≠0:=oM
  have ae:(((F:Nat):Int) !=0)=true:=by simpa using ac
  have af:(F !=0)=true:=by simpa using h0
  have aa:=lH h0;have a3:=lH G;clear h0 G;go_wp2_with fail
  go_returns;exact⟨⟨F,rfl, .inl ⟨by rw[<- a3.o];exact aa.o,a3.o⟩⟩,h.o⟩
 ·replace h0:F=0:=Classical.not_not.1 h0;subst h0;have a4:Hid (fD n m k o t b=0):=lH G.symm;clear G;have o0:=aI 0 Y;have ol:=Y.o.lt;by_cases M:O.kk<1
  ·have ad:decide (O.kk<1)=true:=decide_eq_true M;clear M;go_wp2_with fail
   go_returns;exact⟨⟨12,rfl, .inr ⟨a4.o, .inl ⟨a0.o,rfl⟩⟩⟩,h.o⟩
  ·have ad:decide (O.kk<1)=false:=decide_eq_false M;have ag:decide (3<O.kk)=true:=decide_eq_true (a0.o.resolve_left M);clear M;go_wp2_with fail
   go_returns;exact⟨⟨12,rfl, .inr ⟨a4.o, .inl ⟨a0.o,rfl⟩⟩⟩,h.o⟩
theorem wO(R U:Option Addr)(n m Z cR:Nat)(k:Nat -> Nat)(o:Nat -> ByteArray)(t:Nat -> Nat -> ByteArray)(b:Nat -> ByteArray)(E F G:Nat)(O:OTx)(T X M:Option Addr)(cP cY Y:Nat)(w:World)(ho:TS w (.slice R n Z) n o)(hr:fZ w (.slice U m cR) m k t b)(hn:n <= 1000000000)(hm:m <= 1000000000)
  (a3:∀j,j<n -> (o j).size <= E) (a4:∀i,i<m -> ∀j,j<k i -> (t i j).size <= E) (a2:∀i,i<m -> (b i).size <= E) (a0:E <= 65536) (a1:F <= 65536) (hp:TSA w (.slice T O.np cP) O.np O.p) (hy:TSA w (.slice X O.ny cY) O.ny O.y) (hd:TSA w (.slice M O.nd Y) O.nd O.d) (hN:O.np <= 100000000 /\ O.ny <= 100000000 /\ O.nd <= 100000000) (hf:O.Fit F) (hK:1+ (m+n)* (E+F+1) <= G /\ E <= G /\ F <= G) (hq:4*G <= 4000000):
  Calls prog 27 #[.agg #[.slice R n Z, .slice U m cR], .agg #[.int .i64 O.kk, .string O.s, .slice T O.np cP, .slice X O.ny cY, .slice M O.nd Y]] w fun e w'=>pX n m k o t b O e /\ Below w.heap.size w w':=by
 by_cases h1:O.kk<1 \/ 3<O.kk
 ·exact JK R U n m Z cR k o t b E F G O T X M cP cY Y w ho hr hn hm a3 a4 a2 a0 a1 h1 hp hy hd hN hf hK hq
 ·obtain h | h | h:O.kk=1 \/ O.kk=2 \/ O.kk=3:=oM
  ·exact JH R U n m Z cR k o t b E F G O T X M cP cY Y w ho hr hn hm a3 a4 a2 a0 a1 h hp hy hd hN hf hK hq
  ·exact JI R U n m Z cR k o t b E F G O T X M cP cY Y w ho hr hn hm a3 a4 a2 a0 a1 h hp hy hd hN hf hK hq
  ·exact JJ R U n m Z cR k o t b E F G O T X M cP cY Y w ho hr hn hm a3 a4 a2 a0 a1 h hp hy hd hN hf hK hq
end Go.Proofs.YtdefghfjhgmpfaaGreatDoor
