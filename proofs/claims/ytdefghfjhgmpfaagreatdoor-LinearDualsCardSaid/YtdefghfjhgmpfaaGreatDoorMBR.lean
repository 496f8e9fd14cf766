/- Parts of this proof: RVer. -/
import Derived.Test.YtdefghfjhgmpfaaGreatDoorMAE
import Derived.Test.YtdefghfjhgmpfaaGreatDoorMBP
import Derived.Test.YtdefghfjhgmpfaaGreatDoorMCH
import Derived.Test.YtdefghfjhgmpfaaGreatDoorMBQ
import Derived.Test.YtdefghfjhgmpfaaGreatDoorMAZ
import Derived.Test.YtdefghfjhgmpfaaGreatDoorMBO
namespace Go.Proofs.YtdefghfjhgmpfaaGreatDoor
open Go.Proofs.Tryz
open Go.RowKit
open Lp (RL upd eu)
theorem Cy(a b:Nat)(e e':Nat -> Nat):fo (a+b) (fun j=>if j<a then e j else e' (j-a))=if fo a e≠0 then fo a e else fo b e':=by
 have h0:fo a (fun j=>if j<a then e j else e' (j-a))=fo a e:=by
  have t:∀q,q <= a -> fo q (fun j=>if j<a then e j else e' (j-a))=fo q e:=by
   intro q
   induction q with
   | zero=>intro _;rfl
   | succ q r=>intro C;simp only[fo];rw[r oM,if_pos (show q<a by omega)]
  exact t a (Nat.le_refl _)
 induction b with
 | zero=>
  show fo a _=_;rw[h0];by_cases h:fo a e≠0
  ·rw[if_pos h]
  ·rw[if_neg h];show fo a e=0;exact Classical.not_not.1 h
 | succ b r=>
  rw[<- Nat.add_assoc];show(if fo (a+b) _≠0 then fo (a+b) _ else(if a+b<a then e (a+b) else e' (a+b-a)))=_;rw[r,if_neg (show ¬a+b<a by omega),show a+b-a=b by omega];by_cases h:fo a e≠0
  ·rw[if_pos h,if_pos h,if_pos h]
  ·rw[if_neg h,if_neg h];rfl
theorem wJ(O:OTx):fo (0+O.np+O.ny+O.nd) (fun j=>sE ((fun j=>if j<0+O.np+O.ny then(fun j=>if j<0+O.np then(fun j=>if j<0 then(fun _=>(⟨#[]⟩:ByteArray)) j else O.p (j-0)) j else O.y (j-(0+O.np))) j else O.d (j-(0+O.np+O.ny))) j))=O.ja:=by
 have t:∀j,sE ((fun j=>if j<0+O.np+O.ny then(fun j=>if j<0+O.np then(fun j=>if j<0 then(fun _=>(⟨#[]⟩:ByteArray)) j else O.p (j-0)) j else O.y (j-(0+O.np))) j else O.d (j-(0+O.np+O.ny))) j)=if j<O.np+O.ny then(if j<O.np then sE (O.p j) else sE (O.y (j-O.np))) else sE (O.d (j-(O.np+O.ny))):=by
  intro j;simp only[Nat.zero_add,Nat.not_lt_zero,if_false,Nat.sub_zero];by_cases h1:j<O.np+O.ny
  ·rw[if_pos h1,if_pos h1];by_cases r:j<O.np
   ·rw[if_pos r,if_pos r]
   ·rw[if_neg r,if_neg r]
  ·rw[if_neg h1,if_neg h1]
 rw[funext t,Nat.zero_add];rw[Cy (O.np+O.ny) O.nd (fun j=>if j<O.np then sE (O.p j) else sE (O.y (j-O.np))) (fun j=>sE (O.d j)),Cy O.np O.ny (fun j=>sE (O.p j)) (fun j=>sE (O.y j))];unfold OTx.ja;by_cases h:fo O.np (fun j=>sE (O.p j))≠0
 ·rw[if_pos h,if_pos h,if_pos h]
 ·rw[if_neg h,if_neg h]
theorem wK{O:OTx}{C:Nat}(t:O.Fit C)(r:C <= 65536)(j:Nat)(E:j<0+O.np+O.ny+O.nd):((fun j=>if j<0+O.np+O.ny then(fun j=>if j<0+O.np then(fun j=>if j<0 then(fun _=>(⟨#[]⟩:ByteArray)) j else O.p (j-0)) j else O.y (j-(0+O.np))) j else O.d (j-(0+O.np+O.ny))) j).size <= 65536:=by
 simp only[Nat.zero_add,Nat.not_lt_zero,if_false,Nat.sub_zero] at E ⊢;by_cases h1:j<O.np+O.ny
 ·rw[if_pos h1];by_cases h:j<O.np
  ·rw[if_pos h];exact Nat.le_trans (t.2.1 j h) r
  ·rw[if_neg h];exact Nat.le_trans (t.2.2.1 _ oM) r
 ·rw[if_neg h1];exact Nat.le_trans (t.2.2.2 _ oM) r
theorem pY{n:Nat}{s:Nat -> ByteArray}(h:∀j,j<n -> sE (s j)=0):∃f:Nat -> Rat,∀j,j<n -> (s j).data.toList=fA (f j):=by
 have t:∀j,∃q:Rat,j<n -> (s j).data.toList=fA q:=fun j=>if r:j<n then(by obtain⟨q,E⟩:=xQ (h j r);exact⟨q,fun _=>E⟩) else⟨0,fun C=>absurd C r⟩
 exact⟨fun j=>Classical.choose (t j),fun j r=>Classical.choose_spec (t j) r⟩
theorem wL{n m:Nat}{k:Nat -> Nat}{o:Nat -> ByteArray}{t:Nat -> Nat -> ByteArray}{b:Nat -> ByteArray}(h:fD n m k o t b=0):∃A C c,jk n m o t b A C c:=by
 obtain⟨_,_,_,T,F⟩:=mo h;obtain⟨c,M⟩:=pY T;obtain⟨C,G⟩:=pY (fun i r=>(BX (F i r)).2);have E:∀i,∃f:Nat -> Rat,i<m -> ∀j,j<n -> (t i j).data.toList=fA (f j):=fun i=>if r:i<m then(by obtain⟨f,O⟩:=pY (BX (F i r)).1;exact⟨f,fun _=>O⟩) else⟨fun _=>0,fun R=>absurd R r⟩
 exact⟨fun i=>Classical.choose (E i),C,c,⟨M,fun i r=>Classical.choose_spec (E i) r,G⟩⟩
theorem wM{O:OTx}(h:O.err=0):∃val x y d,O.Is val x y d:=by
 unfold OTx.err at h;by_cases h1:O.kk=1 /\ sE O.s≠0
 ·rw[if_pos h1] at h;exact absurd h h1.2
 ·rw[if_neg h1] at h;unfold OTx.ja at h;by_cases r:fo O.np (fun j=>sE (O.p j))≠0
  ·rw[if_pos r] at h;exact absurd h r
  ·rw[if_neg r] at h;by_cases t:fo O.ny (fun j=>sE (O.y j))≠0
   ·rw[if_pos t] at h;exact absurd h t
   ·rw[if_neg t] at h;obtain⟨x,F⟩:=pY (kF.1 (Classical.not_not.1 r));obtain⟨y,G⟩:=pY (kF.1 (Classical.not_not.1 t));obtain⟨d,C⟩:=pY (kF.1 h);by_cases E:O.kk=1
    ·obtain⟨v,M⟩:=xQ (l:=O.s.data.toList) (Classical.not_not.1 (fun R=>h1 ⟨E,R⟩));exact⟨v,x,y,d,fun _=>M,F,G,C⟩
    ·exact⟨0,x,y,d,fun h=>absurd h E,F,G,C⟩
theorem wN(U W:Option Addr)(n m Z cR:Nat)(k:Nat -> Nat)(o:Nat -> ByteArray)(t:Nat -> Nat -> ByteArray)(b:Nat -> ByteArray)(A:Nat -> Nat -> Rat)(R c:Nat -> Rat)(F C M:Nat)(O:OTx)(V X T:Option Addr)(cP cY Y:Nat)(val:Rat)(x y d:Nat -> Rat)(w:World)(ho:TS w (.slice U n Z) n o)(hr:fZ w (.slice W m cR) m k t b)(a5:∀j,j<n -> o j=eF (c j))(a1:∀i,i<m -> k i=n)(ht:∀i,i<m -> ∀j,j<n -> t i j=eF (A i j))(a0:∀i,i<m -> b i=eF (R i))
  (hn:n <= 1000000000) (hm:m <= 1000000000) (a2:∀i,i<m -> ∀j,j<n -> RL F (A i j)) (a3:∀i,i<m -> RL F (R i)) (a4:∀j,j<n -> RL F (c j)) (hK:1+ (m+n)* (F+C+1) <= M /\ F <= M /\ C <= M) (hq:4*M <= 1000000)
  (hk:1 <= O.kk /\ O.kk <= 3) (hS:O.iE n m) (hp:TS w (.slice V O.np cP) O.np O.p) (hy:TS w (.slice X O.ny cY) O.ny O.y) (hd:TS w (.slice T O.nd Y) O.nd O.d) (hI:O.Is val x y d) (a9:O.kk=1 -> RL C val) (a6:∀j,j<O.np -> RL C (x j)) (a7:∀j,j<O.ny -> RL C (y j)) (a8:∀j,j<O.nd -> RL C (d j)):
  Calls prog 66 #[.agg #[.slice U n Z, .slice W m cR], .agg #[.int .i64 O.kk, .string O.s, .slice V O.np cP, .slice X O.ny cY, .slice T O.nd Y]] w fun e w'=>((kI m n O.kk A R c val x y d /\ e= .returned (.bool true)) \/ (¬kI m n O.kk A R c val x y d /\ e= .returned (.bool false))) /\ Below w.heap.size w w':=by
 obtain⟨kk,s,np,p,ny,y',nd,d'⟩:=O;obtain⟨s1,s2,s3,_⟩:=hS;obtain⟨i1,i2,i3,i4⟩:=hI;simp only at*;obtain rfl | rfl | rfl:kk=1 \/ kk=2 \/ kk=3:=oM
 ·rw[if_neg dC] at s1 s2 s3;subst np;subst ny;subst nd;obtain rfl:=jE (i1 rfl);refine(JF U W V X T n m Z cR cP cY Y p x val y' y k o t b A R c F C M w ho hr a5 a1 ht a0 hp (fun j E=>jE (i2 j E)) hy (fun j E=>jE (i3 j E)) hn hm a2 a3 a4 hK hq a7 a6 (a9 rfl)).mono ?_;rintro e w' ⟨⟨h,r⟩ | ⟨h,r⟩,G⟩
  ·exact⟨.inl ⟨⟨fun _=>h,fun z=>absurd z dC,fun z=>absurd z dC⟩,r⟩,G⟩
  ·exact⟨.inr ⟨fun z=>h (z.1 rfl),r⟩,G⟩
 ·rw[if_pos rfl] at s1;rw[if_neg dC] at s2 s3;subst np;subst ny;subst nd;refine(JG U W V X T n m Z cR cP cY Y s y' y k o t b A R c F C M w ho hr a5 a1 ht a0 hy (fun j E=>jE (i3 j E)) hn hm a2 a3 a4 hK hq a7).mono ?_;rintro e w' ⟨⟨h,r⟩ | ⟨h,r⟩,G⟩
  ·exact⟨.inl ⟨⟨fun z=>absurd z dC,fun _=>h,fun z=>absurd z dC⟩,r⟩,G⟩
  ·exact⟨.inr ⟨fun z=>h (z.2.1 rfl),r⟩,G⟩
 ·rw[if_neg dC] at s1;rw[if_pos rfl] at s2 s3;subst np;subst ny;subst nd;refine(JE U W V X T n m Z cR cP cY Y s p d' x d k o t b A R c F C M w ho hr a5 a1 ht a0 hp hd (fun j E=>jE (i2 j E)) (fun j E=>jE (i4 j E)) hn hm a2 a3 a4 hK hq a6 a8).mono ?_;rintro e w' ⟨⟨h,r⟩ | ⟨h,r⟩,G⟩
  ·exact⟨.inl ⟨⟨fun z=>absurd z dC,fun z=>absurd z dC,fun _=>h⟩,r⟩,G⟩
  ·exact⟨.inr ⟨fun z=>h (z.2.2 rfl),r⟩,G⟩
set_option maxRecDepth 100000 in
set_option maxHeartbeats 6400000 in
theorem JH(AO AR:Option Addr)(n m cO cR:Nat)(k:Nat -> Nat)(o:Nat -> ByteArray)(t:Nat -> Nat -> ByteArray)(b:Nat -> ByteArray)(Ka Kd Kq:Nat)(O:OTx)(AP AY AD:Option Addr)(cP cY cD:Nat)(w:World)(ho:TS w (.slice AO n cO) n o)(hr:fZ w (.slice AR m cR) m k t b)(hn:n <= 1000000000)(hm:m <= 1000000000)
  (al:∀j,j<n -> (o j).size <= Ka) (am:∀i,i<m -> ∀j,j<k i -> (t i j).size <= Ka) (ak:∀i,i<m -> (b i).size <= Ka) (af:Ka <= 65536) (aP:Kd <= 65536) (aj:O.kk=1) (hp:TSA w (.slice AP O.np cP) O.np O.p) (hy:TSA w (.slice AY O.ny cY) O.ny O.y) (hd:TSA w (.slice AD O.nd cD) O.nd O.d) (hN:O.np <= 100000000 /\ O.ny <= 100000000 /\ O.nd <= 100000000) (hf:O.Fit Kd) (U:1+ (m+n)* (Ka+Kd+1) <= Kq /\ Ka <= Kq /\ Kd <= Kq) (hq:4*Kq <= 1000000):
  Calls prog 27 #[.agg #[.slice AO n cO, .slice AR m cR], .agg #[.int .i64 O.kk, .string O.s, .slice AP O.np cP, .slice AY O.ny cY, .slice AD O.nd cD]] w fun e w'=>pX n m k o t b O e /\ Below w.heap.size w w':=by
 have E:=lH aj;rw[aj];clear aj;have aM:=lH (fun(wx:World) (az:Below w.heap.size w wx)=>ry AO AR n m cO cR k o t b wx (ho.below az) (hr.below az) hn hm (fun j M=>Nat.le_trans (al j M) af) (fun i hi j M=>Nat.le_trans (am i hi j M) af) (fun i hi=>Nat.le_trans (ak i hi) af));have HO:=lH ho;have HR:=lH hr;have HS:=lH (And.intro al (And.intro am ak));have HP:=lH hp;have HY:=lH hy;have HD:=lH hd;have HN:=lH hN;have HF:=lH hf;have HK:=lH U;clear ho hr al am ak hp hy hd hN hf U;obtain⟨W,hW,T,F,r⟩:=eN2 w [.slice AO n cO, .slice AR m cR] 25 [.int .i64 1, .string O.s, .slice AP O.np cP, .slice AY O.ny cY, .slice AD O.nd cD] 32;go_enter func27,ntmps27;obtain⟨p0,p1⟩:=aT2 T.o;have pl:=T.o.lt;rw[hW] at p0 p1 pl;go_wp2_with fail
 rw[<- hW];clear hW p0 p1 pl;refine(aM.o _ r.o).mono ?_;rintro e w1 ⟨rfl,a2⟩;replace T:=rW T a2;replace F:=rW F a2;replace r:=bT r a2;clear a2;obtain⟨G,R⟩:=eX (fD n m k o t b);rw[<- R];by_cases h0:G≠0
 ·have a9:((G:Nat):Int)≠0:=oM
  have aD:(((G:Nat):Int) !=0)=true:=by simpa using a9
  have aE:(G !=0)=true:=by simpa using h0
  have a7:=lH h0;have a8:=lH R;clear h0 R;go_wp2_with fail
  go_returns;exact⟨⟨G,rfl, .inl ⟨by rw[<- a8.o];exact a7.o,a8.o⟩⟩,r.o⟩
 ·replace h0:G=0:=Classical.not_not.1 h0;subst h0;have Z:Hid (fD n m k o t b=0):=lH R.symm;clear R;have o0:=aI 0 F;obtain⟨p0,p1⟩:=aT2 T.o;have ol:=F.o.lt;have pl:=T.o.lt
  go_upto_region 6 with (fail)
  go_region
  clear o0 p0 p1 ol pl;obtain⟨wd,ap⟩:=eX (w1.drew);rw[<- ap];have ab:Below w1.heap.size w1 wd:=by rw[ap];exact(Below.refl _ _).drew
  clear ap;replace T:=rW T ab;replace F:=rW F ab;replace r:=bT r ab;clear ab;obtain⟨o0,o1,o2,o3,o4⟩:=aT5 F.o;have ol:=F.o.lt;obtain⟨p0,p1⟩:=aT2 T.o;have pl:=T.o.lt;by_cases a0:O.np=n
  ·have ax:(((O.np:Nat):Int) != ((n:Nat):Int))=false:=by simp;omega
   have aA:(O.np !=n)=false:=by simpa using a0
   by_cases a4:O.ny=m
   ·have a2:(((O.ny:Nat):Int) != ((m:Nat):Int))=false:=by simp;omega
    have aB:(O.ny !=m)=false:=by simpa using a4
    by_cases a6:O.nd=0
    ·have a3:(((O.nd:Nat):Int) !=0)=false:=by simp;omega
     have aC:(O.nd !=0)=false:=by simpa using a6
     have Y:Hid (O.iE n m):=lH ⟨by rw[E.o,if_neg dC];exact a0,by rw[E.o,if_neg dC];exact a4,by rw[E.o,if_neg dC];exact a6, .inl E.o⟩;clear a0 a4 a6;go_wp2_with fail
     clear o0 o1 o2 o3 o4 ol p0 p1 pl ax a2 a3 aA aB aC;refine(vM O.s _ (by have:=HF.o.1;omega)).mono ?_;rintro e X ⟨rfl,a3⟩;replace T:=rW T a3;replace F:=rW F a3;replace r:=bT r a3;clear a3;obtain⟨G,R⟩:=eX (sE O.s);rw[<- R];by_cases h0:G≠0
     ·have a9:((G:Nat):Int)≠0:=oM
      have aD:(((G:Nat):Int) !=0)=true:=by simpa using a9
      have aE:(G !=0)=true:=by simpa using h0
      have HE:Hid (O.err=G):=lH (by unfold OTx.err;rw[if_pos ⟨E.o,by rw[<- R];exact h0⟩];exact R.symm);have a7:=lH h0;clear h0 R;go_wp2_with fail
      go_returns;exact⟨⟨G,rfl, .inr ⟨Z.o, .inr ⟨⟨by rw[E.o];decide,by rw[E.o];decide⟩, .inr ⟨Y.o, .inl ⟨by rw[HE.o];exact a7.o,HE.o.symm⟩⟩⟩⟩⟩,r.o⟩
     ·replace h0:G=0:=Classical.not_not.1 h0;subst h0;have HE:Hid (O.err=O.ja):=lH (by unfold OTx.err;rw[if_neg (fun h=>h.2 R.symm)]);clear R;obtain⟨o0,o1,o2,o3,o4⟩:=aT5 F.o;have ol:=F.o.lt
      go_upto_region 19 with (fail)
      clear o0 o1 o2 o3 o4 ol;go_wp2_with fail
      have C:=rG X;have aO:=F.o.lt;have aq:=aI 2 F;have ar:=aI 3 F;have au:=aI 4 F;have KS:=lH (kC aq (kC ar (kN au)));clear aO aq ar au;refine rL KS.o (fun i=>false) ?_;have V:=KS.o _ C.o;obtain⟨wD,an⟩:=eX (X.drew);rw[<- an];replace C:Hid (Below X.heap.size X wD):=lH (by rw[an];exact(Below.refl _ _).drew);clear an V;have V:=KS.o _ C.o;refine tKs 1 80 V ?_;refine tKs 2 81 V ?_;refine tKs 4 83 V ?_;refine tKs 5 84 V ?_;refine tKs 7 86 V ?_;refine tKs 8 87 V ?_;obtain⟨B,hB⟩:=eX (X.heap.size);refine rD 0 (fun K U=> ?_);go_simp;refine U.out _ _ (fun _=>KS.o _ (C.o.trans ((eD _ _).mono C.o.size))) ?_;clear U K V;have hE:Row (wD.alloc (.cells #[] 30)) wD.heap.size 30 []:=eP _ _;have ag:=eD wD (.cells #[] 30);obtain⟨wE,ao⟩:=eX (wD.alloc (.cells #[] 30));obtain⟨gE,ai⟩:=eX (wD.heap.size);rw[<- ao, <- ai] at hE ⊢;rw[<- ao] at ag;have aZ:X.heap.size <= gE:=by rw[ai];exact C.o.size
      replace C:=bT C ag;clear ao ai ag;have aV:fH wE (.slice (some ⟨gE,0,none⟩) 0 0) 0 (fun _=>⟨#[]⟩):=⟨[],⟨rfl, .inr ⟨gE,0, #[],rfl,Nat.zero_le _,hE,Nat.le_refl _,Nat.zero_le _,rfl,rfl⟩⟩,fun j M=>absurd M oM⟩;have aJ:∀g,(Value.slice (some ⟨gE,0,none⟩) 0 0).ownBlock=some g -> X.heap.size <= g:=fun g hg=>by simp only[Value.ownBlock,Option.some.injEq] at hg;omega
      refine jL 3 kR rfl (by rfl) (fun K U=> ?_);refine mG _ (.tmp 79) (.tmp 81) rfl _ _ _ O.np _ O.p rfl aV rfl (HP.o.below (r.o.trans (C.o.mono r.o.size))) ⟨by have:=HN.o;omega,by have:=HN.o;omega⟩ ?_;intro v1 x1 aW aF;have aR:=aF.below (B:=X.heap.size) C.o.size aJ;have aK:=aF.base (B:=X.heap.size) C.o.size aJ;replace C:=lH (C.o.trans aR);refine U.out _ _ (fun _=>KS.o _ C.o) ?_;clear U K;refine jL 6 kR rfl (by rfl) (fun K U=> ?_);refine mG _ (.tmp 82) (.tmp 84) rfl _ _ _ O.ny _ O.y rfl aW rfl (HY.o.below (r.o.trans (C.o.mono r.o.size))) ⟨by have:=HN.o;omega,by have:=HN.o;omega⟩ ?_;intro v2 x2 aX aG;have aS:=aG.below (B:=X.heap.size) C.o.size aK;have aL:=aG.base (B:=X.heap.size) C.o.size aK;replace C:=lH (C.o.trans aS);refine U.out _ _ (fun _=>KS.o _ C.o) ?_;clear U K;refine jL 9 kR rfl (by rfl) (fun K U=> ?_);refine mG _ (.tmp 85) (.tmp 87) rfl _ _ _ O.nd _ O.d rfl aX rfl (HD.o.below (r.o.trans (C.o.mono r.o.size))) ⟨by have:=HN.o;omega,by have:=HN.o;omega⟩ ?_;intro v3 x3 aY aH;have aT:=aH.below (B:=X.heap.size) C.o.size aL;have b0:=aH.base (B:=X.heap.size) C.o.size aL;replace C:=lH (C.o.trans aT);refine U.out _ _ (fun _=>KS.o _ C.o) ?_;clear U K;refine rD 10 (fun K U=> ?_);go_simp;refine(qX _ _ _ _ aY.ts (by have:=HN.o;omega) (fun j M=>wK HF.o aP j M)).mono ?_;rintro e w8 ⟨he,aQ⟩;have aU:e= .returned (.int .i64 (O.ja:Nat)):=he.trans (by rw[<- wJ O]);clear he;subst aU;replace C:=bT C aQ;have V:=KS.o _ C.o;refine kH U V ?_;clear U K;refine tKs 11 12 V ?_;have aa:=C;refine dN ?_ _;clear V KS C
      skip
      replace T:=lH (T.o.below aa.o T.o.lt);replace F:=lH (F.o.below aa.o F.o.lt);replace r:=lH (r.o.trans (aa.o.mono r.o.size));clear aa;obtain⟨G,R⟩:=eX (O.ja);rw[<- R];by_cases h0:G≠0
      ·have a9:((G:Nat):Int)≠0:=oM
       have aD:(((G:Nat):Int) !=0)=true:=by simpa using a9
       have aE:(G !=0)=true:=by simpa using h0
       have a7:=lH h0;have a8:=lH R;clear h0 R;go_wp2_with fail
       go_returns;exact⟨⟨G,rfl, .inr ⟨Z.o, .inr ⟨⟨by rw[E.o];decide,by rw[E.o];decide⟩, .inr ⟨Y.o, .inl ⟨by rw[HE.o, <- a8.o];exact a7.o,by rw[HE.o];exact a8.o⟩⟩⟩⟩⟩,r.o⟩
      ·replace h0:G=0:=Classical.not_not.1 h0;subst h0;have ae:Hid (O.err=0):=lH (by rw[HE.o];exact R.symm);clear R;obtain⟨A,bq,c,aw⟩:=wL Z.o;obtain⟨val,x,y,d,av⟩:=wM ae.o;have a5:=lH aw;have a1:=lH av;clear aw av;obtain⟨o0,o1,o2,o3,o4⟩:=aT5 F.o;have ol:=F.o.lt;obtain⟨p0,p1⟩:=aT2 T.o;have pl:=T.o.lt;go_wp2_with fail
       clear o0 o1 o2 o3 o4 ol p0 p1 pl;have ac:=lH (pO Z.o a5.o HS.o.1 HS.o.2.1 HS.o.2.2);have aN:=lH (mo Z.o);have ah:=wN AO AR n m cO cR k o t b A bq c Ka Kd Kq O AP AY AD cP cY cD val x y d _ (HO.o.below r.o) (HR.o.below r.o) (fun j M=>jE (a5.o.obj j M)) aN.o.2.2.1 (fun i hi j M=>jE (a5.o.rows i hi j M)) (fun i hi=>jE (a5.o.bounds i hi)) hn hm ac.o.2.1 ac.o.2.2 ac.o.1 HK.o hq ⟨by rw[E.o];decide,by rw[E.o];decide⟩ Y.o (HP.o.1.below r.o) (HY.o.1.below r.o) (HD.o.1.below r.o) a1.o (fun h=>iU (a1.o.val h) HF.o.1) (fun j M=>iU (a1.o.pt j M) (HF.o.2.1 j M)) (fun j M=>iU (a1.o.du j M) (HF.o.2.2.1 j M)) (fun j M=>iU (a1.o.ray j M) (HF.o.2.2.2 j M));rw[E.o] at ah;refine ah.mono ?_;rintro e w9 ⟨hp,ay⟩;clear ah;replace r:=bT r ay;clear ay
       rcases hp with ⟨hp,rfl⟩ | ⟨hp,rfl⟩
       ·have ad:=lH hp;clear hp;go_wp2_with fail
        go_returns;exact⟨⟨0,rfl, .inr ⟨Z.o, .inr ⟨⟨by rw[E.o];decide,by rw[E.o];decide⟩, .inr ⟨Y.o, .inr ⟨ae.o,A,bq,c,val,x,y,d,a5.o,a1.o, .inl ⟨by rw[E.o];exact ad.o,rfl⟩⟩⟩⟩⟩⟩,r.o⟩
       ·have ad:=lH hp;clear hp;go_wp2_with fail
        go_returns;exact⟨⟨27,rfl, .inr ⟨Z.o, .inr ⟨⟨by rw[E.o];decide,by rw[E.o];decide⟩, .inr ⟨Y.o, .inr ⟨ae.o,A,bq,c,val,x,y,d,a5.o,a1.o, .inr ⟨by rw[E.o];exact ad.o,rfl⟩⟩⟩⟩⟩⟩,r.o⟩
    ·have a3:(((O.nd:Nat):Int) !=0)=true:=by simp;omega
     have aC:(O.nd !=0)=true:=by simpa using a6
     have Y:Hid (¬O.iE n m):=lH (fun h=>a6 (by have:=h.2.2.1;rw[E.o,if_neg dC] at this;exact this));clear a0 a4 a6;go_wp2_with fail
     go_returns;exact⟨⟨13,rfl, .inr ⟨Z.o, .inr ⟨⟨by rw[E.o];decide,by rw[E.o];decide⟩, .inl ⟨Y.o,rfl⟩⟩⟩⟩,r.o⟩
   ·have a2:(((O.ny:Nat):Int) != ((m:Nat):Int))=true:=by simp;omega
    have aB:(O.ny !=m)=true:=by simpa using a4
    have Y:Hid (¬O.iE n m):=lH (fun h=>a4 (by have:=h.2.1;rw[E.o,if_neg dC] at this;exact this));clear a0 a4;go_wp2_with fail
    go_returns;exact⟨⟨13,rfl, .inr ⟨Z.o, .inr ⟨⟨by rw[E.o];decide,by rw[E.o];decide⟩, .inl ⟨Y.o,rfl⟩⟩⟩⟩,r.o⟩
  ·have ax:(((O.np:Nat):Int) != ((n:Nat):Int))=true:=by simp;omega
   have aA:(O.np !=n)=true:=by simpa using a0
   have Y:Hid (¬O.iE n m):=lH (fun h=>a0 (by have:=h.1;rw[E.o,if_neg dC] at this;exact this));clear a0;go_wp2_with fail
   go_returns;exact⟨⟨13,rfl, .inr ⟨Z.o, .inr ⟨⟨by rw[E.o];decide,by rw[E.o];decide⟩, .inl ⟨Y.o,rfl⟩⟩⟩⟩,r.o⟩
set_option maxRecDepth 100000 in
set_option maxHeartbeats 6400000 in
theorem JI(AO AR:Option Addr)(n m cO cR:Nat)(k:Nat -> Nat)(o:Nat -> ByteArray)(t:Nat -> Nat -> ByteArray)(b:Nat -> ByteArray)(Ka Kd Kq:Nat)(O:OTx)(AP AY AD:Option Addr)(cP cY cD:Nat)(w:World)(ho:TS w (.slice AO n cO) n o)(hr:fZ w (.slice AR m cR) m k t b)(hn:n <= 1000000000)(hm:m <= 1000000000)
  (al:∀j,j<n -> (o j).size <= Ka) (am:∀i,i<m -> ∀j,j<k i -> (t i j).size <= Ka) (a7:∀i,i<m -> (b i).size <= Ka) (af:Ka <= 65536) (aR:Kd <= 65536) (ak:O.kk=2) (hp:TSA w (.slice AP O.np cP) O.np O.p) (hy:TSA w (.slice AY O.ny cY) O.ny O.y) (hd:TSA w (.slice AD O.nd cD) O.nd O.d) (hN:O.np <= 100000000 /\ O.ny <= 100000000 /\ O.nd <= 100000000) (hf:O.Fit Kd) (M:1+ (m+n)* (Ka+Kd+1) <= Kq /\ Ka <= Kq /\ Kd <= Kq) (hq:4*Kq <= 1000000):
  Calls prog 27 #[.agg #[.slice AO n cO, .slice AR m cR], .agg #[.int .i64 O.kk, .string O.s, .slice AP O.np cP, .slice AY O.ny cY, .slice AD O.nd cD]] w fun e w'=>pX n m k o t b O e /\ Below w.heap.size w w':=by
 have E:=lH ak;rw[ak];clear ak;have aN:=lH (fun(wx:World) (aA:Below w.heap.size w wx)=>ry AO AR n m cO cR k o t b wx (ho.below aA) (hr.below aA) hn hm (fun j F=>Nat.le_trans (al j F) af) (fun i hi j F=>Nat.le_trans (am i hi j F) af) (fun i hi=>Nat.le_trans (a7 i hi) af));have HO:=lH ho;have HR:=lH hr;have HS:=lH (And.intro al (And.intro am a7));have HP:=lH hp;have HY:=lH hy;have HD:=lH hd;have HN:=lH hN;have HF:=lH hf;have HK:=lH M;clear ho hr al am a7 hp hy hd hN hf M;obtain⟨W,hW,R,G,C⟩:=eN2 w [.slice AO n cO, .slice AR m cR] 25 [.int .i64 2, .string O.s, .slice AP O.np cP, .slice AY O.ny cY, .slice AD O.nd cD] 32;go_enter func27,ntmps27;obtain⟨p0,p1⟩:=aT2 R.o;have pl:=R.o.lt;rw[hW] at p0 p1 pl;go_wp2_with fail
 rw[<- hW];clear hW p0 p1 pl;refine(aN.o _ C.o).mono ?_;rintro e w1 ⟨rfl,a3⟩;replace R:=rW R a3;replace G:=rW G a3;replace C:=bT C a3;clear a3;obtain⟨U,Y⟩:=eX (fD n m k o t b);rw[<- Y];by_cases h0:U≠0
 ·have ai:((U:Nat):Int)≠0:=oM
  have aW:(((U:Nat):Int) !=0)=true:=by simpa using ai
  have aX:(U !=0)=true:=by simpa using h0
  have ab:=lH h0;have a8:=lH Y;clear h0 Y;go_wp2_with fail
  go_returns;exact⟨⟨U,rfl, .inl ⟨by rw[<- a8.o];exact ab.o,a8.o⟩⟩,C.o⟩
 ·replace h0:U=0:=Classical.not_not.1 h0;subst h0;have Z:Hid (fD n m k o t b=0):=lH Y.symm;clear Y;have o0:=aI 0 G;obtain⟨p0,p1⟩:=aT2 R.o;have ol:=G.o.lt;have pl:=R.o.lt
  go_upto_region 6 with (fail)
  go_region
  clear o0 p0 p1 ol pl;obtain⟨T,ap⟩:=eX (w1.drew);rw[<- ap];have aa:Below w1.heap.size w1 T:=by rw[ap];exact(Below.refl _ _).drew
  clear ap;replace R:=rW R aa;replace G:=rW G aa;replace C:=bT C aa;clear aa;obtain⟨o0,o1,o2,o3,o4⟩:=aT5 G.o;have ol:=G.o.lt;obtain⟨p0,p1⟩:=aT2 R.o;have pl:=R.o.lt;by_cases a0:O.np=0
  ·have ax:(((O.np:Nat):Int) !=0)=false:=by simp;omega
   have aB:(O.np !=0)=false:=by simpa using a0
   by_cases a1:O.ny=m
   ·have a3:(((O.ny:Nat):Int) != ((m:Nat):Int))=false:=by simp;omega
    have aC:(O.ny !=m)=false:=by simpa using a1
    by_cases a4:O.nd=0
    ·have ay:(((O.nd:Nat):Int) !=0)=false:=by simp;omega
     have aD:(O.nd !=0)=false:=by simpa using a4
     by_cases a6:O.s=⟨#[]⟩
     ·have aE:O.s.toList= []:=by rw[a6,ByteArray.toList_eq]
      have a7:(O.s.toList== [])=true:=by rw[aE];rfl
      have aP:=lH a6;clear a6;have X:Hid (O.iE n m):=lH ⟨by rw[E.o,if_pos rfl];exact a0,by rw[E.o,if_neg dC];exact a1,by rw[E.o,if_neg dC];exact a4, .inr aP.o⟩;clear a0 a1 a4;have HE:Hid (O.err=O.ja):=lH (by unfold OTx.err;rw[if_neg (fun h=>absurd (E.o.symm.trans h.1) dC)])
      go_upto_region 19 with (fail)
      clear o0 o1 o2 o3 o4 ol p0 p1 pl ax a3 ay aB aC aD aE a7;go_wp2_with fail
      have r:=rG T;have aQ:=G.o.lt;have aq:=aI 2 G;have ar:=aI 3 G;have au:=aI 4 G;have KS:=lH (kC aq (kC ar (kN au)));clear aQ aq ar au;refine rL KS.o (fun i=>false) ?_;have V:=KS.o _ r.o;obtain⟨wD,an⟩:=eX (T.drew);rw[<- an];replace r:Hid (Below T.heap.size T wD):=lH (by rw[an];exact(Below.refl _ _).drew);clear an V;have V:=KS.o _ r.o;refine tKs 1 80 V ?_;refine tKs 2 81 V ?_;refine tKs 4 83 V ?_;refine tKs 5 84 V ?_;refine tKs 7 86 V ?_;refine tKs 8 87 V ?_;obtain⟨B,hB⟩:=eX (T.heap.size);refine rD 0 (fun K M=> ?_);go_simp;refine M.out _ _ (fun _=>KS.o _ (r.o.trans ((eD _ _).mono r.o.size))) ?_;clear M K V;have hE:Row (wD.alloc (.cells #[] 30)) wD.heap.size 30 []:=eP _ _;have ag:=eD wD (.cells #[] 30);obtain⟨wE,ao⟩:=eX (wD.alloc (.cells #[] 30));obtain⟨gE,aj⟩:=eX (wD.heap.size);rw[<- ao, <- aj] at hE ⊢;rw[<- ao] at ag;have b3:T.heap.size <= gE:=by rw[aj];exact r.o.size
      replace r:=bT r ag;clear ao aj ag;have aZ:fH wE (.slice (some ⟨gE,0,none⟩) 0 0) 0 (fun _=>⟨#[]⟩):=⟨[],⟨rfl, .inr ⟨gE,0, #[],rfl,Nat.zero_le _,hE,Nat.le_refl _,Nat.zero_le _,rfl,rfl⟩⟩,fun j F=>absurd F oM⟩;have aK:∀g,(Value.slice (some ⟨gE,0,none⟩) 0 0).ownBlock=some g -> T.heap.size <= g:=fun g hg=>by simp only[Value.ownBlock,Option.some.injEq] at hg;omega
      refine jL 3 kR rfl (by rfl) (fun K M=> ?_);refine mG _ (.tmp 79) (.tmp 81) rfl _ _ _ O.np _ O.p rfl aZ rfl (HP.o.below (C.o.trans (r.o.mono C.o.size))) ⟨by have:=HN.o;omega,by have:=HN.o;omega⟩ ?_;intro v1 x1 b0 aG;have aT:=aG.below (B:=T.heap.size) r.o.size aK;have aL:=aG.base (B:=T.heap.size) r.o.size aK;replace r:=lH (r.o.trans aT);refine M.out _ _ (fun _=>KS.o _ r.o) ?_;clear M K;refine jL 6 kR rfl (by rfl) (fun K M=> ?_);refine mG _ (.tmp 82) (.tmp 84) rfl _ _ _ O.ny _ O.y rfl b0 rfl (HY.o.below (C.o.trans (r.o.mono C.o.size))) ⟨by have:=HN.o;omega,by have:=HN.o;omega⟩ ?_;intro v2 x2 b1 aH;have aU:=aH.below (B:=T.heap.size) r.o.size aL;have aM:=aH.base (B:=T.heap.size) r.o.size aL;replace r:=lH (r.o.trans aU);refine M.out _ _ (fun _=>KS.o _ r.o) ?_;clear M K;refine jL 9 kR rfl (by rfl) (fun K M=> ?_);refine mG _ (.tmp 85) (.tmp 87) rfl _ _ _ O.nd _ O.d rfl b1 rfl (HD.o.below (C.o.trans (r.o.mono C.o.size))) ⟨by have:=HN.o;omega,by have:=HN.o;omega⟩ ?_;intro v3 x3 b2 aJ;have aV:=aJ.below (B:=T.heap.size) r.o.size aM;have b5:=aJ.base (B:=T.heap.size) r.o.size aM;replace r:=lH (r.o.trans aV);refine M.out _ _ (fun _=>KS.o _ r.o) ?_;clear M K;refine rD 10 (fun K M=> ?_);go_simp;refine(qX _ _ _ _ b2.ts (by have:=HN.o;omega) (fun j F=>wK HF.o aR j F)).mono ?_;rintro e w8 ⟨he,aS⟩;have aY:e= .returned (.int .i64 (O.ja:Nat)):=he.trans (by rw[<- wJ O]);clear he;subst aY;replace r:=bT r aS;have V:=KS.o _ r.o;refine kH M V ?_;clear M K;refine tKs 11 12 V ?_;have a9:=r;refine dN ?_ _;clear V KS r
      skip
      replace R:=lH (R.o.below a9.o R.o.lt);replace G:=lH (G.o.below a9.o G.o.lt);replace C:=lH (C.o.trans (a9.o.mono C.o.size));clear a9;obtain⟨U,Y⟩:=eX (O.ja);rw[<- Y];by_cases h0:U≠0
      ·have ai:((U:Nat):Int)≠0:=oM
       have aW:(((U:Nat):Int) !=0)=true:=by simpa using ai
       have aX:(U !=0)=true:=by simpa using h0
       have ab:=lH h0;have a8:=lH Y;clear h0 Y;go_wp2_with fail
       go_returns;exact⟨⟨U,rfl, .inr ⟨Z.o, .inr ⟨⟨by rw[E.o];decide,by rw[E.o];decide⟩, .inr ⟨X.o, .inl ⟨by rw[HE.o, <- a8.o];exact ab.o,by rw[HE.o];exact a8.o⟩⟩⟩⟩⟩,C.o⟩
      ·replace h0:U=0:=Classical.not_not.1 h0;subst h0;have ae:Hid (O.err=0):=lH (by rw[HE.o];exact Y.symm);clear Y;obtain⟨A,bq,c,aw⟩:=wL Z.o;obtain⟨val,x,y,d,av⟩:=wM ae.o;have a5:=lH aw;have a2:=lH av;clear aw av;obtain⟨o0,o1,o2,o3,o4⟩:=aT5 G.o;have ol:=G.o.lt;obtain⟨p0,p1⟩:=aT2 R.o;have pl:=R.o.lt;go_wp2_with fail
       clear o0 o1 o2 o3 o4 ol p0 p1 pl;have ac:=lH (pO Z.o a5.o HS.o.1 HS.o.2.1 HS.o.2.2);have aO:=lH (mo Z.o);have ah:=wN AO AR n m cO cR k o t b A bq c Ka Kd Kq O AP AY AD cP cY cD val x y d _ (HO.o.below C.o) (HR.o.below C.o) (fun j F=>jE (a5.o.obj j F)) aO.o.2.2.1 (fun i hi j F=>jE (a5.o.rows i hi j F)) (fun i hi=>jE (a5.o.bounds i hi)) hn hm ac.o.2.1 ac.o.2.2 ac.o.1 HK.o hq ⟨by rw[E.o];decide,by rw[E.o];decide⟩ X.o (HP.o.1.below C.o) (HY.o.1.below C.o) (HD.o.1.below C.o) a2.o (fun h=>iU (a2.o.val h) HF.o.1) (fun j F=>iU (a2.o.pt j F) (HF.o.2.1 j F)) (fun j F=>iU (a2.o.du j F) (HF.o.2.2.1 j F)) (fun j F=>iU (a2.o.ray j F) (HF.o.2.2.2 j F));rw[E.o] at ah;refine ah.mono ?_;rintro e w9 ⟨hp,az⟩;clear ah;replace C:=bT C az;clear az
       rcases hp with ⟨hp,rfl⟩ | ⟨hp,rfl⟩
       ·have ad:=lH hp;clear hp;go_wp2_with fail
        go_returns;exact⟨⟨0,rfl, .inr ⟨Z.o, .inr ⟨⟨by rw[E.o];decide,by rw[E.o];decide⟩, .inr ⟨X.o, .inr ⟨ae.o,A,bq,c,val,x,y,d,a5.o,a2.o, .inl ⟨by rw[E.o];exact ad.o,rfl⟩⟩⟩⟩⟩⟩,C.o⟩
       ·have ad:=lH hp;clear hp;go_wp2_with fail
        go_returns;exact⟨⟨27,rfl, .inr ⟨Z.o, .inr ⟨⟨by rw[E.o];decide,by rw[E.o];decide⟩, .inr ⟨X.o, .inr ⟨ae.o,A,bq,c,val,x,y,d,a5.o,a2.o, .inr ⟨by rw[E.o];exact ad.o,rfl⟩⟩⟩⟩⟩⟩,C.o⟩
     ·have aF:O.s.toList≠ []:=fun h=>a6 (lY (by rw[<- ByteArray.toList_eq];exact h))
      have a7:(O.s.toList== [])=false:=by simpa using aF
      have b4:¬O.s.toList.isEmpty=true:=by simpa using aF
      have X:Hid (¬O.iE n m):=lH (fun h=>a6 (h.2.2.2.resolve_left (by rw[E.o];decide)));clear a0 a1 a4 a6;go_wp2_with fail
      go_returns;exact⟨⟨13,rfl, .inr ⟨Z.o, .inr ⟨⟨by rw[E.o];decide,by rw[E.o];decide⟩, .inl ⟨X.o,rfl⟩⟩⟩⟩,C.o⟩
    ·have ay:(((O.nd:Nat):Int) !=0)=true:=by simp;omega
     have aD:(O.nd !=0)=true:=by simpa using a4
     have X:Hid (¬O.iE n m):=lH (fun h=>a4 (by have:=h.2.2.1;rw[E.o,if_neg dC] at this;exact this));clear a0 a1 a4;go_wp2_with fail
     go_returns;exact⟨⟨13,rfl, .inr ⟨Z.o, .inr ⟨⟨by rw[E.o];decide,by rw[E.o];decide⟩, .inl ⟨X.o,rfl⟩⟩⟩⟩,C.o⟩
   ·have a3:(((O.ny:Nat):Int) != ((m:Nat):Int))=true:=by simp;omega
    have aC:(O.ny !=m)=true:=by simpa using a1
    have X:Hid (¬O.iE n m):=lH (fun h=>a1 (by have:=h.2.1;rw[E.o,if_neg dC] at this;exact this));clear a0 a1;go_wp2_with fail
    go_returns;exact⟨⟨13,rfl, .inr ⟨Z.o, .inr ⟨⟨by rw[E.o];decide,by rw[E.o];decide⟩, .inl ⟨X.o,rfl⟩⟩⟩⟩,C.o⟩
  ·have ax:(((O.np:Nat):Int) !=0)=true:=by simp;omega
   have aB:(O.np !=0)=true:=by simpa using a0
   have X:Hid (¬O.iE n m):=lH (fun h=>a0 (by have:=h.1;rw[E.o,if_pos rfl] at this;exact this));clear a0;go_wp2_with fail
   go_returns;exact⟨⟨13,rfl, .inr ⟨Z.o, .inr ⟨⟨by rw[E.o];decide,by rw[E.o];decide⟩, .inl ⟨X.o,rfl⟩⟩⟩⟩,C.o⟩
set_option maxRecDepth 100000 in
set_option maxHeartbeats 6400000 in
theorem JJ(AO AR:Option Addr)(n m cO cR:Nat)(k:Nat -> Nat)(o:Nat -> ByteArray)(t:Nat -> Nat -> ByteArray)(b:Nat -> ByteArray)(Ka Kd Kq:Nat)(O:OTx)(AP AY AD:Option Addr)(cP cY cD:Nat)(w:World)(ho:TS w (.slice AO n cO) n o)(hr:fZ w (.slice AR m cR) m k t b)(hn:n <= 1000000000)(hm:m <= 1000000000)
  (al:∀j,j<n -> (o j).size <= Ka) (am:∀i,i<m -> ∀j,j<k i -> (t i j).size <= Ka) (a7:∀i,i<m -> (b i).size <= Ka) (af:Ka <= 65536) (aR:Kd <= 65536) (ak:O.kk=3) (hp:TSA w (.slice AP O.np cP) O.np O.p) (hy:TSA w (.slice AY O.ny cY) O.ny O.y) (hd:TSA w (.slice AD O.nd cD) O.nd O.d) (hN:O.np <= 100000000 /\ O.ny <= 100000000 /\ O.nd <= 100000000) (hf:O.Fit Kd) (M:1+ (m+n)* (Ka+Kd+1) <= Kq /\ Ka <= Kq /\ Kd <= Kq) (hq:4*Kq <= 1000000):
  Calls prog 27 #[.agg #[.slice AO n cO, .slice AR m cR], .agg #[.int .i64 O.kk, .string O.s, .slice AP O.np cP, .slice AY O.ny cY, .slice AD O.nd cD]] w fun e w'=>pX n m k o t b O e /\ Below w.heap.size w w':=by
 have E:=lH ak;rw[ak];clear ak;have aN:=lH (fun(wx:World) (aA:Below w.heap.size w wx)=>ry AO AR n m cO cR k o t b wx (ho.below aA) (hr.below aA) hn hm (fun j F=>Nat.le_trans (al j F) af) (fun i hi j F=>Nat.le_trans (am i hi j F) af) (fun i hi=>Nat.le_trans (a7 i hi) af));have HO:=lH ho;have HR:=lH hr;have HS:=lH (And.intro al (And.intro am a7));have HP:=lH hp;have HY:=lH hy;have HD:=lH hd;have HN:=lH hN;have HF:=lH hf;have HK:=lH M;clear ho hr al am a7 hp hy hd hN hf M;obtain⟨W,hW,R,G,C⟩:=eN2 w [.slice AO n cO, .slice AR m cR] 25 [.int .i64 3, .string O.s, .slice AP O.np cP, .slice AY O.ny cY, .slice AD O.nd cD] 32;go_enter func27,ntmps27;obtain⟨p0,p1⟩:=aT2 R.o;have pl:=R.o.lt;rw[hW] at p0 p1 pl;go_wp2_with fail
 rw[<- hW];clear hW p0 p1 pl;refine(aN.o _ C.o).mono ?_;rintro e w1 ⟨rfl,a3⟩;replace R:=rW R a3;replace G:=rW G a3;replace C:=bT C a3;clear a3;obtain⟨U,Y⟩:=eX (fD n m k o t b);rw[<- Y];by_cases h0:U≠0
 ·have ai:((U:Nat):Int)≠0:=oM
  have aW:(((U:Nat):Int) !=0)=true:=by simpa using ai
  have aX:(U !=0)=true:=by simpa using h0
  have ab:=lH h0;have a8:=lH Y;clear h0 Y;go_wp2_with fail
  go_returns;exact⟨⟨U,rfl, .inl ⟨by rw[<- a8.o];exact ab.o,a8.o⟩⟩,C.o⟩
 ·replace h0:U=0:=Classical.not_not.1 h0;subst h0;have Z:Hid (fD n m k o t b=0):=lH Y.symm;clear Y;have o0:=aI 0 G;obtain⟨p0,p1⟩:=aT2 R.o;have ol:=G.o.lt;have pl:=R.o.lt
  go_upto_region 6 with (fail)
  go_region
  clear o0 p0 p1 ol pl;obtain⟨T,ap⟩:=eX (w1.drew);rw[<- ap];have aa:Below w1.heap.size w1 T:=by rw[ap];exact(Below.refl _ _).drew
  clear ap;replace R:=rW R aa;replace G:=rW G aa;replace C:=bT C aa;clear aa;obtain⟨o0,o1,o2,o3,o4⟩:=aT5 G.o;have ol:=G.o.lt;obtain⟨p0,p1⟩:=aT2 R.o;have pl:=R.o.lt;by_cases a0:O.np=n
  ·have ax:(((O.np:Nat):Int) != ((n:Nat):Int))=false:=by simp;omega
   have aB:(O.np !=n)=false:=by simpa using a0
   by_cases a1:O.ny=0
   ·have a3:(((O.ny:Nat):Int) !=0)=false:=by simp;omega
    have aC:(O.ny !=0)=false:=by simpa using a1
    by_cases a4:O.nd=n
    ·have ay:(((O.nd:Nat):Int) != ((n:Nat):Int))=false:=by simp;omega
     have aD:(O.nd !=n)=false:=by simpa using a4
     by_cases a6:O.s=⟨#[]⟩
     ·have aE:O.s.toList= []:=by rw[a6,ByteArray.toList_eq]
      have a7:(O.s.toList== [])=true:=by rw[aE];rfl
      have aP:=lH a6;clear a6;have X:Hid (O.iE n m):=lH ⟨by rw[E.o,if_neg dC];exact a0,by rw[E.o,if_pos rfl];exact a1,by rw[E.o,if_pos rfl];exact a4, .inr aP.o⟩;clear a0 a1 a4;have HE:Hid (O.err=O.ja):=lH (by unfold OTx.err;rw[if_neg (fun h=>absurd (E.o.symm.trans h.1) dC)])
      go_upto_region 19 with (fail)
      clear o0 o1 o2 o3 o4 ol p0 p1 pl ax a3 ay aB aC aD aE a7;go_wp2_with fail
      have r:=rG T;have aQ:=G.o.lt;have aq:=aI 2 G;have ar:=aI 3 G;have au:=aI 4 G;have KS:=lH (kC aq (kC ar (kN au)));clear aQ aq ar au;refine rL KS.o (fun i=>false) ?_;have V:=KS.o _ r.o;obtain⟨wD,an⟩:=eX (T.drew);rw[<- an];replace r:Hid (Below T.heap.size T wD):=lH (by rw[an];exact(Below.refl _ _).drew);clear an V;have V:=KS.o _ r.o;refine tKs 1 80 V ?_;refine tKs 2 81 V ?_;refine tKs 4 83 V ?_;refine tKs 5 84 V ?_;refine tKs 7 86 V ?_;refine tKs 8 87 V ?_;obtain⟨B,hB⟩:=eX (T.heap.size);refine rD 0 (fun K M=> ?_);go_simp;refine M.out _ _ (fun _=>KS.o _ (r.o.trans ((eD _ _).mono r.o.size))) ?_;clear M K V;have hE:Row (wD.alloc (.cells #[] 30)) wD.heap.size 30 []:=eP _ _;have ag:=eD wD (.cells #[] 30);obtain⟨wE,ao⟩:=eX (wD.alloc (.cells #[] 30));obtain⟨gE,aj⟩:=eX (wD.heap.size);rw[<- ao, <- aj] at hE ⊢;rw[<- ao] at ag;have b3:T.heap.size <= gE:=by rw[aj];exact r.o.size
      replace r:=bT r ag;clear ao aj ag;have aZ:fH wE (.slice (some ⟨gE,0,none⟩) 0 0) 0 (fun _=>⟨#[]⟩):=⟨[],⟨rfl, .inr ⟨gE,0, #[],rfl,Nat.zero_le _,hE,Nat.le_refl _,Nat.zero_le _,rfl,rfl⟩⟩,fun j F=>absurd F oM⟩;have aK:∀g,(Value.slice (some ⟨gE,0,none⟩) 0 0).ownBlock=some g -> T.heap.size <= g:=fun g hg=>by simp only[Value.ownBlock,Option.some.injEq] at hg;omega
      refine jL 3 kR rfl (by rfl) (fun K M=> ?_);refine mG _ (.tmp 79) (.tmp 81) rfl _ _ _ O.np _ O.p rfl aZ rfl (HP.o.below (C.o.trans (r.o.mono C.o.size))) ⟨by have:=HN.o;omega,by have:=HN.o;omega⟩ ?_;intro v1 x1 b0 aG;have aT:=aG.below (B:=T.heap.size) r.o.size aK;have aL:=aG.base (B:=T.heap.size) r.o.size aK;replace r:=lH (r.o.trans aT);refine M.out _ _ (fun _=>KS.o _ r.o) ?_;clear M K;refine jL 6 kR rfl (by rfl) (fun K M=> ?_);refine mG _ (.tmp 82) (.tmp 84) rfl _ _ _ O.ny _ O.y rfl b0 rfl (HY.o.below (C.o.trans (r.o.mono C.o.size))) ⟨by have:=HN.o;omega,by have:=HN.o;omega⟩ ?_;intro v2 x2 b1 aH;have aU:=aH.below (B:=T.heap.size) r.o.size aL;have aM:=aH.base (B:=T.heap.size) r.o.size aL;replace r:=lH (r.o.trans aU);refine M.out _ _ (fun _=>KS.o _ r.o) ?_;clear M K;refine jL 9 kR rfl (by rfl) (fun K M=> ?_);refine mG _ (.tmp 85) (.tmp 87) rfl _ _ _ O.nd _ O.d rfl b1 rfl (HD.o.below (C.o.trans (r.o.mono C.o.size))) ⟨by have:=HN.o;omega,by have:=HN.o;omega⟩ ?_;intro v3 x3 b2 aJ;have aV:=aJ.below (B:=T.heap.size) r.o.size aM;have b5:=aJ.base (B:=T.heap.size) r.o.size aM;replace r:=lH (r.o.trans aV);refine M.out _ _ (fun _=>KS.o _ r.o) ?_;clear M K;refine rD 10 (fun K M=> ?_);go_simp;refine(qX _ _ _ _ b2.ts (by have:=HN.o;omega) (fun j F=>wK HF.o aR j F)).mono ?_;rintro e w8 ⟨he,aS⟩;have aY:e= .returned (.int .i64 (O.ja:Nat)):=he.trans (by rw[<- wJ O]);clear he;subst aY;replace r:=bT r aS;have V:=KS.o _ r.o;refine kH M V ?_;clear M K;refine tKs 11 12 V ?_;have a9:=r;refine dN ?_ _;clear V KS r
      skip
      replace R:=lH (R.o.below a9.o R.o.lt);replace G:=lH (G.o.below a9.o G.o.lt);replace C:=lH (C.o.trans (a9.o.mono C.o.size));clear a9;obtain⟨U,Y⟩:=eX (O.ja);rw[<- Y];by_cases h0:U≠0
      ·have ai:((U:Nat):Int)≠0:=oM
       have aW:(((U:Nat):Int) !=0)=true:=by simpa using ai
       have aX:(U !=0)=true:=by simpa using h0
       have ab:=lH h0;have a8:=lH Y;clear h0 Y;go_wp2_with fail
       go_returns;exact⟨⟨U,rfl, .inr ⟨Z.o, .inr ⟨⟨by rw[E.o];decide,by rw[E.o];decide⟩, .inr ⟨X.o, .inl ⟨by rw[HE.o, <- a8.o];exact ab.o,by rw[HE.o];exact a8.o⟩⟩⟩⟩⟩,C.o⟩
      ·replace h0:U=0:=Classical.not_not.1 h0;subst h0;have ae:Hid (O.err=0):=lH (by rw[HE.o];exact Y.symm);clear Y;obtain⟨A,bq,c,aw⟩:=wL Z.o;obtain⟨val,x,y,d,av⟩:=wM ae.o;have a5:=lH aw;have a2:=lH av;clear aw av;obtain⟨o0,o1,o2,o3,o4⟩:=aT5 G.o;have ol:=G.o.lt;obtain⟨p0,p1⟩:=aT2 R.o;have pl:=R.o.lt;go_wp2_with fail
       clear o0 o1 o2 o3 o4 ol p0 p1 pl;have ac:=lH (pO Z.o a5.o HS.o.1 HS.o.2.1 HS.o.2.2);have aO:=lH (mo Z.o);have ah:=wN AO AR n m cO cR k o t b A bq c Ka Kd Kq O AP AY AD cP cY cD val x y d _ (HO.o.below C.o) (HR.o.below C.o) (fun j F=>jE (a5.o.obj j F)) aO.o.2.2.1 (fun i hi j F=>jE (a5.o.rows i hi j F)) (fun i hi=>jE (a5.o.bounds i hi)) hn hm ac.o.2.1 ac.o.2.2 ac.o.1 HK.o hq ⟨by rw[E.o];decide,by rw[E.o];decide⟩ X.o (HP.o.1.below C.o) (HY.o.1.below C.o) (HD.o.1.below C.o) a2.o (fun h=>iU (a2.o.val h) HF.o.1) (fun j F=>iU (a2.o.pt j F) (HF.o.2.1 j F)) (fun j F=>iU (a2.o.du j F) (HF.o.2.2.1 j F)) (fun j F=>iU (a2.o.ray j F) (HF.o.2.2.2 j F));rw[E.o] at ah;refine ah.mono ?_;rintro e w9 ⟨hp,az⟩;clear ah;replace C:=bT C az;clear az
       rcases hp with ⟨hp,rfl⟩ | ⟨hp,rfl⟩
       ·have ad:=lH hp;clear hp;go_wp2_with fail
        go_returns;exact⟨⟨0,rfl, .inr ⟨Z.o, .inr ⟨⟨by rw[E.o];decide,by rw[E.o];decide⟩, .inr ⟨X.o, .inr ⟨ae.o,A,bq,c,val,x,y,d,a5.o,a2.o, .inl ⟨by rw[E.o];exact ad.o,rfl⟩⟩⟩⟩⟩⟩,C.o⟩
       ·have ad:=lH hp;clear hp;go_wp2_with fail
        go_returns;exact⟨⟨27,rfl, .inr ⟨Z.o, .inr ⟨⟨by rw[E.o];decide,by rw[E.o];decide⟩, .inr ⟨X.o, .inr ⟨ae.o,A,bq,c,val,x,y,d,a5.o,a2.o, .inr ⟨by rw[E.o];exact ad.o,rfl⟩⟩⟩⟩⟩⟩,C.o⟩
     ·have aF:O.s.toList≠ []:=fun h=>a6 (lY (by rw[<- ByteArray.toList_eq];exact h))
      have a7:(O.s.toList== [])=false:=by simpa using aF
      have b4:¬O.s.toList.isEmpty=true:=by simpa using aF
      have X:Hid (¬O.iE n m):=lH (fun h=>a6 (h.2.2.2.resolve_left (by rw[E.o];decide)));clear a0 a1 a4 a6;go_wp2_with fail
      go_returns;exact⟨⟨13,rfl, .inr ⟨Z.o, .inr ⟨⟨by rw[E.o];decide,by rw[E.o];decide⟩, .inl ⟨X.o,rfl⟩⟩⟩⟩,C.o⟩
    ·have ay:(((O.nd:Nat):Int) != ((n:Nat):Int))=true:=by simp;omega
     have aD:(O.nd !=n)=true:=by simpa using a4
     have X:Hid (¬O.iE n m):=lH (fun h=>a4 (by have:=h.2.2.1;rw[E.o,if_pos rfl] at this;exact this));clear a0 a1 a4;go_wp2_with fail
     go_returns;exact⟨⟨13,rfl, .inr ⟨Z.o, .inr ⟨⟨by rw[E.o];decide,by rw[E.o];decide⟩, .inl ⟨X.o,rfl⟩⟩⟩⟩,C.o⟩
   ·have a3:(((O.ny:Nat):Int) !=0)=true:=by simp;omega
    have aC:(O.ny !=0)=true:=by simpa using a1
    have X:Hid (¬O.iE n m):=lH (fun h=>a1 (by have:=h.2.1;rw[E.o,if_pos rfl] at this;exact this));clear a0 a1;go_wp2_with fail
    go_returns;exact⟨⟨13,rfl, .inr ⟨Z.o, .inr ⟨⟨by rw[E.o];decide,by rw[E.o];decide⟩, .inl ⟨X.o,rfl⟩⟩⟩⟩,C.o⟩
  ·have ax:(((O.np:Nat):Int) != ((n:Nat):Int))=true:=by simp;omega
   have aB:(O.np !=n)=true:=by simpa using a0
   have X:Hid (¬O.iE n m):=lH (fun h=>a0 (by have:=h.1;rw[E.o,if_neg dC] at this;exact this));clear a0;go_wp2_with fail
   go_returns;exact⟨⟨13,rfl, .inr ⟨Z.o, .inr ⟨⟨by rw[E.o];decide,by rw[E.o];decide⟩, .inl ⟨X.o,rfl⟩⟩⟩⟩,C.o⟩
set_option maxRecDepth 100000 in
set_option maxHeartbeats 6400000 in
theorem JK(G M:Option Addr)(n m V X:Nat)(k:Nat -> Nat)(o:Nat -> ByteArray)(t:Nat -> Nat -> ByteArray)(b:Nat -> ByteArray)(r R T:Nat)(O:OTx)(Z AY Y:Option Addr)(cP cY cD:Nat)(w:World)(ho:TS w (.slice G n V) n o)(hr:fZ w (.slice M m X) m k t b)(hn:n <= 1000000000)(hm:m <= 1000000000)
  (a8:∀j,j<n -> (o j).size <= r) (a9:∀i,i<m -> ∀j,j<k i -> (t i j).size <= r) (a7:∀i,i<m -> (b i).size <= r) (a1:r <= 65536) (_:R <= 65536) (a6:O.kk<1 \/ 3<O.kk) (_:TSA w (.slice Z O.np cP) O.np O.p) (_:TSA w (.slice AY O.ny cY) O.ny O.y) (_:TSA w (.slice Y O.nd cD) O.nd O.d) (_:O.np <= 100000000 /\ O.ny <= 100000000 /\ O.nd <= 100000000) (_:O.Fit R) (_:1+ (m+n)* (r+R+1) <= T /\ r <= T /\ R <= T) (_:4*T <= 1000000):
  Calls prog 27 #[.agg #[.slice G n V, .slice M m X], .agg #[.int .i64 O.kk, .string O.s, .slice Z O.np cP, .slice AY O.ny cY, .slice Y O.nd cD]] w fun e w'=>pX n m k o t b O e /\ Below w.heap.size w w':=by
 have a0:=lH a6;clear a6;have ab:=lH (fun(wx:World) (a5:Below w.heap.size w wx)=>ry G M n m V X k o t b wx (ho.below a5) (hr.below a5) hn hm (fun j hj=>Nat.le_trans (a8 j hj) a1) (fun i hi j hj=>Nat.le_trans (a9 i hi j hj) a1) (fun i hi=>Nat.le_trans (a7 i hi) a1));clear ho hr a8 a9 a7;obtain⟨W,hW,PB,U,h⟩:=eN2 w [.slice G n V, .slice M m X] 25 [.int .i64 O.kk, .string O.s, .slice Z O.np cP, .slice AY O.ny cY, .slice Y O.nd cD] 32;go_enter func27,ntmps27;obtain⟨p0,p1⟩:=aT2 PB.o;have pl:=PB.o.lt;rw[hW] at p0 p1 pl;go_wp2_with fail
 rw[<- hW];clear hW p0 p1 pl;refine(ab.o _ h.o).mono ?_;rintro e w1 ⟨rfl,a2⟩;replace U:=rW U a2;replace h:=bT h a2;clear a2;obtain⟨C,E⟩:=eX (fD n m k o t b);rw[<- E];by_cases h0:C≠0
 ·have ac:((C:Nat):Int)≠0:=oM
  have ae:(((C:Nat):Int) !=0)=true:=by simpa using ac
  have af:(C !=0)=true:=by simpa using h0
  have aa:=lH h0;have a3:=lH E;clear h0 E;go_wp2_with fail
  go_returns;exact⟨⟨C,rfl, .inl ⟨by rw[<- a3.o];exact aa.o,a3.o⟩⟩,h.o⟩
 ·replace h0:C=0:=Classical.not_not.1 h0;subst h0;have a4:Hid (fD n m k o t b=0):=lH E.symm;clear E;have o0:=aI 0 U;have ol:=U.o.lt;by_cases F:O.kk<1
  ·have ad:decide (O.kk<1)=true:=decide_eq_true F;clear F;go_wp2_with fail
   go_returns;exact⟨⟨12,rfl, .inr ⟨a4.o, .inl ⟨a0.o,rfl⟩⟩⟩,h.o⟩
  ·have ad:decide (O.kk<1)=false:=decide_eq_false F;have ag:decide (3<O.kk)=true:=decide_eq_true (a0.o.resolve_left F);clear F;go_wp2_with fail
   go_returns;exact⟨⟨12,rfl, .inr ⟨a4.o, .inl ⟨a0.o,rfl⟩⟩⟩,h.o⟩
theorem wO(G R:Option Addr)(n m V X:Nat)(k:Nat -> Nat)(o:Nat -> ByteArray)(t:Nat -> Nat -> ByteArray)(b:Nat -> ByteArray)(r C E:Nat)(O:OTx)(M T F:Option Addr)(W Y U:Nat)(w:World)(ho:TS w (.slice G n V) n o)(hr:fZ w (.slice R m X) m k t b)(hn:n <= 1000000000)(hm:m <= 1000000000)
  (a3:∀j,j<n -> (o j).size <= r) (a4:∀i,i<m -> ∀j,j<k i -> (t i j).size <= r) (a2:∀i,i<m -> (b i).size <= r) (a0:r <= 65536) (a1:C <= 65536) (hp:TSA w (.slice M O.np W) O.np O.p) (hy:TSA w (.slice T O.ny Y) O.ny O.y) (hd:TSA w (.slice F O.nd U) O.nd O.d) (hN:O.np <= 100000000 /\ O.ny <= 100000000 /\ O.nd <= 100000000) (hf:O.Fit C) (Z:1+ (m+n)* (r+C+1) <= E /\ r <= E /\ C <= E) (hq:4*E <= 1000000):
  Calls prog 27 #[.agg #[.slice G n V, .slice R m X], .agg #[.int .i64 O.kk, .string O.s, .slice M O.np W, .slice T O.ny Y, .slice F O.nd U]] w fun e w'=>pX n m k o t b O e /\ Below w.heap.size w w':=by
 by_cases h1:O.kk<1 \/ 3<O.kk
 ·exact JK G R n m V X k o t b r C E O M T F W Y U w ho hr hn hm a3 a4 a2 a0 a1 h1 hp hy hd hN hf Z hq
 ·obtain h | h | h:O.kk=1 \/ O.kk=2 \/ O.kk=3:=oM
  ·exact JH G R n m V X k o t b r C E O M T F W Y U w ho hr hn hm a3 a4 a2 a0 a1 h hp hy hd hN hf Z hq
  ·exact JI G R n m V X k o t b r C E O M T F W Y U w ho hr hn hm a3 a4 a2 a0 a1 h hp hy hd hN hf Z hq
  ·exact JJ G R n m V X k o t b r C E O M T F W Y U w ho hr hn hm a3 a4 a2 a0 a1 h hp hy hd hN hf Z hq
end Go.Proofs.YtdefghfjhgmpfaaGreatDoor
