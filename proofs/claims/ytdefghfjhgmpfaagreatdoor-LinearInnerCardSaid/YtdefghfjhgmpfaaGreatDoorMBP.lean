/- Parts of this proof: TProve. -/
import Derived.Test.YtdefghfjhgmpfaaGreatDoorMAE
import Derived.Test.YtdefghfjhgmpfaaGreatDoorMBO
import Derived.Test.YtdefghfjhgmpfaaGreatDoorMBM
import Derived.Test.YtdefghfjhgmpfaaGreatDoorMCH
namespace Go.Proofs.YtdefghfjhgmpfaaGreatDoor
open Go.Proofs.Tryz
open Go.RowKit
open Lp (RL upd eu)
theorem kY{m n q h t E:Nat}(G:1+ (m+n)* (h+t+1) <= E)(F:q <= m+n):1+q* (h+t+1) <= E:=by
 have:=Nat.mul_le_mul_right (h+t+1) F;omega
theorem ut{a b:Rat}(h:a≠b):((eF a).toList== (eF b).toList)=false:=by
 rw[beq_eq_false_iff_ne];intro e;exact h (xR (lY (by rw[<- ByteArray.toList_eq, <- ByteArray.toList_eq];exact e)))
theorem JD{a:Rat}(h:a≠0):¬(eF a).toList= [48]:=fun e=>h (xR (lY (by rw[<- ByteArray.toList_eq,e,mF])))
def Okz(z:Bool)(q m _n:Nat)(A:Nat -> Nat -> Rat)(y c:Nat -> Rat):Prop:=z=true↔((∀i,i<m -> 0 <= y i) /\ ∀j,j<q -> Lp.eB m y (fun i=>A i j)=c j)
set_option maxRecDepth 100000 in
set_option maxHeartbeats 6400000 in
theorem JE(AO AR AP AY AD:Option Addr)(n m cO cR cP cY cD:Nat)(s:ByteArray)(p d:Nat -> ByteArray)(x F:Nat -> Rat)(k:Nat -> Nat)(o:Nat -> ByteArray)(t:Nat -> Nat -> ByteArray)(b:Nat -> ByteArray)(A:Nat -> Nat -> Rat)(bq c:Nat -> Rat)(U X R:Nat)(w:World)(ho:TS w (.slice AO n cO) n o)(hr:fZ w (.slice AR m cR) m k t b)(aB:∀j,j<n -> o j=eF (c j))(ae:∀i,i<m -> k i=n)(ht:∀i,i<m -> ∀j,j<n -> t i j=eF (A i j))(ad:∀i,i<m -> b i=eF (bq i))(hx:TS w (.slice AP n cP) n p)(hd:TS w (.slice AD n cD) n d)(aC:∀j,j<n -> p j=eF (x j))(az:∀j,j<n -> d j=eF (F j))
  (hn:n <= 1000000000) (hm:m <= 1000000000) (a7:∀i,i<m -> ∀j,j<n -> RL U (A i j)) (aA:∀i,i<m -> RL U (bq i)) (af:∀j,j<n -> RL U (c j)) (G:1+ (m+n)* (U+X+1) <= R /\ U <= R /\ X <= R) (hk:4*R <= 4000000) (aP:∀j,j<n -> RL X (x j)) (a8:∀j,j<n -> RL X (F j)):
  Calls prog 66 #[.agg #[.slice AO n cO, .slice AR m cR], .agg #[.int .i64 3, .string s, .slice AP n cP, .slice AY 0 cY, .slice AD n cD]] w fun e w'=>((Lp.Unb m n A bq c x F /\ e= .returned (.bool true)) \/ (¬Lp.Unb m n A bq c x F /\ e= .returned (.bool false))) /\ Below w.heap.size w w':=by
 have aH:=lH (fun(wx:World) (aw:Below w.heap.size w wx)=>Cv (.slice AP n cP) (.slice AR m cR) n m k p t b x A bq U X R wx (hx.below aw) (hr.below aw) aC ae ht ad hn hm a7 aP (fun i hi=>(aA i hi).mono G.2.1) ⟨kY G.1 oM,G.2.1,G.2.2⟩ hk);have aF:Hid (∀i,i<m -> RL R (Lp.eB n (A i) F)):=lH (fun i hi=>(jy (a7 i hi) a8 n (Nat.le_refl _)).mono (kY G.1 oM));have aG:Hid (RL R (Lp.eB n c F)):=lH ((jy af a8 n (Nat.le_refl _)).mono (kY G.1 oM));have ai:=lH (hd.congr az);have aJ:=lH (ho.congr aB);have HT:=lH (And.intro ae (And.intro ht ad));have ak:Hid (1+n* (U+X+1) <= R /\ U <= R /\ X <= R):=lH ⟨kY G.1 oM,G.2.1,G.2.2⟩;clear hx aC aB hd az ho ae ht ad aA G;have HR:=lH hr;have aD:=lH a7;have aE:=lH af;have al:=lH a8;have HK:=lH hk;clear hr a7 af a8 hk;obtain⟨W,hW,O,T,E⟩:=eN2 w [.slice AO n cO, .slice AR m cR] 25 [.int .i64 3, .string s, .slice AP n cP, .slice AY 0 cY, .slice AD n cD] 32;go_enter func66,ntmps66;obtain⟨p0,p1⟩:=aT2 O.o;obtain⟨o0,o1,o2,o3,o4⟩:=aT5 T.o;have pl:=O.o.lt;have ol:=T.o.lt;rw[hW] at p0 p1 o0 o1 o2 o3 o4 pl ol;go_wp2_with fail
 rw[<- hW];clear hW p0 p1 o0 o1 o2 o3 o4 pl ol;have ao:=O;have an:=T;have ah:=E;clear O T E
 go_loopw [5] (fun iv wr=>∃q:Nat,q <= m /\ iv= .int .i64 q /\ Hid (∀i,i<q -> Lp.eB n (A i) F <= 0) /\ Below W.heap.size W wr)
  (fun iv _=>m-(intOf iv).toNat)
 case atStart=>exact⟨0,Nat.zero_le _,rfl,lH (fun i hi=>absurd hi oM),Below.refl _ _⟩
 case round=>
  obtain⟨q,hq,rfl,hz,a5⟩:=hrel;have HZ:=lH hz.o;have Z:=lH a5;have O:=lH (ao.o.below a5 ao.o.lt);have T:=lH (an.o.below a5 an.o.lt);have E:=lH (ah.o.trans (a5.mono ah.o.size));clear hz a5;by_cases aR:((q:Nat):Int)<((m:Nat):Int)
  ·have a4:q<m:=oM
   have aQ:((q:Nat):Int) <= 1000000000:=oM
   obtain⟨gR,oR,rfl,ay⟩:=HR.o.at_ oM;obtain⟨u,ax,aO,a9⟩:=ay q a4;rw[HT.o.1 q a4] at a9;obtain⟨Y,y,rfl,_,_⟩:=a9.shape;have am:=lH ((a9.congr (HT.o.2.1 q a4)).below E.o);have c1:=cell_below E.o ax;have cl:=eG c1;have aj:=lH (ai.o.below E.o);clear ay ax aO a9;have p1:=aI 1 O;have pl:=O.o.lt
   go_upto_region 5 with (fail)
   clear p1 pl cl;have C1:=lH c1;clear c1;go_wp2_with fail
   have a0:=rG wr;have aM:=O.o.lt;have ar:=aI 1 O;have aL:=T.o.lt;have aq:=aI 4 T;have aK:=eG C1.o;have ap:=C1.o;have KS:=lH (kC ar (kC aq (kN ap)));clear aM ar aL aq aK ap;refine rL KS.o (fun i=>false) ?_;have M:=KS.o _ a0.o;refine tKs 0 21 M ?_;refine tKs 1 22 M ?_;refine tKs 2 23 M ?_;refine tKs 3 24 M ?_;refine tKs 4 25 M ?_;refine tKs 5 26 M ?_;refine tKs 6 27 M ?_;refine tKs 7 28 M ?_;refine rD 8 (fun K G=> ?_);go_simp;refine(ul _ _ n n (A q) F U X R _ (by exact am.o) (by exact aj.o) (Nat.le_refl _) hn (aD.o q a4) al.o ak.o HK.o).mono ?_;rintro e w3 ⟨rfl,a2⟩;have a2:Below wr.heap.size wr w3:=bD a2;replace E:=bT E a2;replace a0:=bT a0 a2;replace Z:=lH (Z.o.trans (a2.mono Z.o.size));clear M a2;have M:=KS.o _ a0.o;refine kH G M ?_;clear G K;refine rD 9 (fun K G=> ?_);go_simp;refine(tO (Lp.eB n (A q) F) R _ (aF.o q a4) HK.o).mono ?_;rintro e w4 ⟨rfl,a3⟩;have a3:Below w3.heap.size w3 w4:=bD a3;replace E:=bT E a3;replace a0:=bT a0 a3;replace Z:=lH (Z.o.trans (a3.mono Z.o.size));clear M a3;have M:=KS.o _ a0.o;refine kH G M ?_;clear G K;obtain⟨zb,a1⟩:∃z:Bool,z=decide (0<sgI (Lp.eB n (A q) F).num):=⟨_,rfl⟩
   refine jf (i:=10) (v:= .bool zb) (some 31) rfl (by rfl) kR kR kR kR (fun _ _ _ h=>h) (Or.inl ⟨by rfl,?_⟩) M ?_
   ·(intro w' aN;clear aN;go_simp;(first | done | (rw[a1];done) | (rw[a1];rfl) | (simp[a1];done)))
   simp only[Act.put,List.setIfInBounds_toArray,List.set_cons_zero,List.set_cons_succ];rw[oD] at a1;refine dN ?_ _;clear M KS a0;clear am aj C1;by_cases h0:Lp.eB n (A q) F <= 0
   ·rw[decide_eq_false (Rat.not_lt.2 h0)] at a1;subst a1;have ab:=lH h0;clear h0;go_wp2_with fail
    go_roundw
    case rel=>exact⟨q+1,by omega,by go_num,lH (fun i hi=>by by_cases e:i=q;subst e;exact ab.o;exact HZ.o i oM),Z.o⟩
    case measure=>exact mZ
   ·rw[decide_eq_true (Rat.not_le.1 h0)] at a1;subst a1;have ab:Hid (¬Lp.Unb m n A bq c x F):=lH (fun h=>h0 (h.ray q a4));clear h0;go_wp2_with fail
    go_returns;exact⟨.inr ⟨ab.o,rfl⟩,E.o⟩
  ·obtain rfl:m=q:=oM
   have p1:=aI 1 O;have pl:=O.o.lt;have o2:=aI 2 T;have ol:=T.o.lt;go_wp2_with fail
   clear p1 pl o2 ol;refine(aH.o _ E.o).mono ?_;rintro e w5 ⟨hp,a6⟩;replace O:=rW O a6;replace T:=rW T a6;replace E:=bT E a6;clear a6;clear Z
   rcases hp with ⟨hp,rfl⟩ | ⟨hp,rfl⟩
   ·have ac:=lH hp;clear hp;have p0:=aI 0 O;have pl:=O.o.lt;have o4:=aI 4 T;have ol:=T.o.lt;go_wp2_with fail
    clear p0 pl o4 ol;refine(ul _ _ n n c F U X R _ (aJ.o.below E.o) (ai.o.below E.o) (Nat.le_refl _) hn aE.o al.o ak.o HK.o).mono ?_;rintro e w6 ⟨rfl,au⟩;replace E:=bT E au;clear au;go_wp2_with fail
    refine(tO (Lp.eB n c F) R _ aG.o HK.o).mono ?_;rintro e w7 ⟨rfl,av⟩;replace E:=bT E av;clear av;by_cases h0:0<Lp.eB n c F
    ·have ag:decide (0<sgI (Lp.eB n c F).num)=true:=by rw[oD];exact decide_eq_true h0
     have aa:=lH h0;clear h0;go_wp2_with fail
     go_returns;exact⟨.inl ⟨⟨ac.o,HZ.o,aa.o⟩,by first | rfl | (simp[ag])⟩,E.o⟩
    ·have ag:decide (0<sgI (Lp.eB n c F).num)=false:=by rw[oD];exact decide_eq_false h0
     have aa:=lH h0;clear h0;go_wp2_with fail
     go_returns;exact⟨.inr ⟨fun h=>aa.o h.up,by first | rfl | (simp[ag])⟩,E.o⟩
   ·have ac:=lH hp;clear hp;go_wp2_with fail
    go_returns;exact⟨.inr ⟨fun h=>ac.o h.holds,rfl⟩,E.o⟩
set_option maxRecDepth 100000 in
set_option maxHeartbeats 6400000 in
theorem JF(AO AR AP AY AD:Option Addr)(n m cO cR cP cY cD:Nat)(p:Nat -> ByteArray)(x:Nat -> Rat)(val:Rat)(y:Nat -> ByteArray)(X:Nat -> Rat)(k:Nat -> Nat)(o:Nat -> ByteArray)(t:Nat -> Nat -> ByteArray)(b:Nat -> ByteArray)(A:Nat -> Nat -> Rat)(bq c:Nat -> Rat)(Y Z Kq:Nat)(w:World)(ho:TS w (.slice AO n cO) n o)(hr:fZ w (.slice AR m cR) m k t b)(ax:∀j,j<n -> o j=eF (c j))(aj:∀i,i<m -> k i=n)(ht:∀i,i<m -> ∀j,j<n -> t i j=eF (A i j))(ai:∀i,i<m -> b i=eF (bq i))(hx:TS w (.slice AP n cP) n p)(an:∀j,j<n -> p j=eF (x j))(hy:TS w (.slice AY m cY) m y)(aA:∀i,i<m -> y i=eF (X i))
  (hn:n <= 1000000000) (hm:m <= 1000000000) (ak:∀i,i<m -> ∀j,j<n -> RL Y (A i j)) (ac:∀i,i<m -> RL Y (bq i)) (av:∀j,j<n -> RL Y (c j)) (M:1+ (m+n)* (Y+Z+1) <= Kq /\ Y <= Kq /\ Z <= Kq) (hk:4*Kq <= 4000000) (am:∀i,i<m -> RL Z (X i)) (al:∀j,j<n -> RL Z (x j)) (aw:RL Z val):
  Calls prog 66 #[.agg #[.slice AO n cO, .slice AR m cR], .agg #[.int .i64 1, .string (eF val), .slice AP n cP, .slice AY m cY, .slice AD 0 cD]] w fun e w'=>((Lp.Opt m n A bq c val x X /\ e= .returned (.bool true)) \/ (¬Lp.Opt m n A bq c val x X /\ e= .returned (.bool false))) /\ Below w.heap.size w w':=by
 have aF:=lH (fun(wx:World) (a9:Below w.heap.size w wx)=>Cv (.slice AP n cP) (.slice AR m cR) n m k p t b x A bq Y Z Kq wx (hx.below a9) (hr.below a9) an aj ht ai hn hm ak al (fun i hi=>(ac i hi).mono M.2.1) ⟨kY M.1 oM,M.2.1,M.2.2⟩ hk);have aJ:=lH (hx.congr an);have aH:=lH al;have aM:=lH (aw.mono M.2.2);have aG:=lH (fun(wx:World) (a9:Below w.heap.size w wx)=>Cx AR AY n m cR cY k t b y A bq X Y Z Kq wx (hr.below a9) (hy.below a9) aj ht ai aA hn hm ak ac am ⟨by have:=kY M.1 (show m <= m+n by omega);rw[show Z+Y+1=Y+Z+1 by omega];exact this,M.2.1,M.2.2⟩ hk);have aL:Hid (RL Kq (Lp.eB m X bq)):=lH ((jy am ac m (Nat.le_refl _)).mono (by have:=kY M.1 (show m <= m+n by omega);rw[show Z+Y+1=Y+Z+1 by omega];exact this));have ap:=lH (ho.congr ax);have aD:Hid (1+n* (Y+Z+1) <= Kq /\ Y <= Kq /\ Z <= Kq):=lH ⟨kY M.1 oM,M.2.1,M.2.2⟩;clear hy aA ax ho aj ht ai ac M am hr ak hx an al aw;have aE:=lH av;have HK:=lH hk;clear av hk;obtain⟨W,hW,U,R,G⟩:=eN2 w [.slice AO n cO, .slice AR m cR] 25 [.int .i64 1, .string (eF val), .slice AP n cP, .slice AY m cY, .slice AD 0 cD] 32;go_enter func66,ntmps66;obtain⟨p0,p1⟩:=aT2 U.o;obtain⟨o0,o1,o2,o3,o4⟩:=aT5 R.o;have pl:=U.o.lt;have ol:=R.o.lt;rw[hW] at p0 p1 o0 o1 o2 o3 o4 pl ol;go_wp2_with fail
 rw[<- hW];clear hW p0 p1 o0 o1 o2 o3 o4 pl ol;refine(aG.o _ G.o).mono ?_;rintro e w1 ⟨⟨gS,z,rfl,hz,az⟩,F⟩;replace U:=rW U F;replace R:=rW R F;replace G:=bT G F;clear F;have aK:=lH az;have au:=U;have ar:=R;have ao:=G;have aq:Hid (Okz z 0 m n A X c):=lH ⟨fun h=>⟨hz.1 h,fun j hj=>absurd hj oM⟩,fun h=>hz.2 h.1⟩;clear az hz U R G;go_wp2_with fail
 go_loopw [8,9] (fun rv iv wr=>∃ (q:Nat) (z:Bool),q <= n /\ rv= .bool z /\ iv= .int .i64 q /\ Okz z q m n A X c /\ Below w1.heap.size w1 wr)
  (fun _ iv _=>n-(intOf iv).toNat)
 case atStart=>exact⟨0,z,Nat.zero_le _,rfl,rfl,aq.o,Below.refl _ _⟩
 case round=>
  clear aq;obtain⟨q,z2,hq,rfl,rfl,hz,a4⟩:=hrel;have HZ:=lH hz;have aa:=lH a4;have U:=lH (au.o.below a4 au.o.lt);have R:=lH (ar.o.below a4 ar.o.lt);have G:=lH (ao.o.trans (a4.mono ao.o.size));have SB:=lH (aK.o.below a4);clear hz a4;by_cases aN:((q:Nat):Int)<((n:Nat):Int)
  ·have ay:q<n:=oM
   have o0:=aI 0 R;have ol:=R.o.lt;have sk:=SB.o.at_ ay;have p0:=aI 0 U;have pl:=U.o.lt;obtain⟨gC,oC,rfl,ab⟩:=ap.o.at_ oM;have c1:=cell_below G.o (ab q ay);have cl:=eG c1;cases z2 with
   | false=>
    go_wp2_with fail
    clear o0 ol sk p0 pl c1 cl ab;go_roundw
    case rel=>exact⟨q+1,false,by omega,rfl,by go_num,⟨fun h=>(by cases h),fun h=>HZ.o.2 ⟨h.1,fun j hj=>h.2 j oM⟩⟩,aa.o⟩
    case measure=>exact mZ
   | true=>
    by_cases h0:Lp.eB m X (fun i=>A i q)=c q
    ·have F:((eF (Lp.eB m X (fun i=>A i q))).toList== (eF (c q)).toList)=true:=by rw[h0];simp
     have ae:=lH h0;clear h0;go_wp2_with fail
     clear o0 ol sk p0 pl c1 cl ab;go_roundw
     case rel=>exact⟨q+1,true,by omega,rfl,by go_num,⟨fun _=>⟨(HZ.o.1 rfl).1,fun j hj=>if e:j=q then(by subst e;exact ae.o) else(HZ.o.1 rfl).2 j oM⟩,fun _=>rfl⟩,aa.o⟩
     case measure=>exact mZ
    ·have F:((eF (Lp.eB m X (fun i=>A i q))).toList== (eF (c q)).toList)=false:=ut h0;have ae:=lH h0;clear h0;go_wp2_with fail
     clear o0 ol sk p0 pl c1 cl ab;go_roundw
     case rel=>exact⟨q+1,false,by omega,rfl,by go_num,⟨fun h=>(by cases h),fun h=>absurd (h.2 q oM) ae.o⟩,aa.o⟩
     case measure=>exact mZ
  ·obtain rfl:n=q:=oM
   have o0:=aI 0 R;have ol:=R.o.lt
   go_upto_region 18 with (fail)
   clear o0 ol aa SB;cases z2 with
   | false=>
    go_wp2_with fail
    have O:=rG wr;have a7:=U.o.lt;obtain⟨a1,a2⟩:=aT2 U.o;have T:=lH (kC a1 (kN a2));clear a7 a1 a2;refine rL T.o (fun i=>false) ?_;have E:=T.o _ O.o;refine tKs 0 90 E ?_;refine tKs 1 91 E ?_;refine tUs 2 92 E ?_;refine tUs 3 93 E ?_;refine tUs 4 94 E ?_;refine tUs 5 95 E ?_;refine tKs 6 96 E ?_;refine tKs 7 97 E ?_;refine tUs 8 98 E ?_;refine tUs 9 99 E ?_;refine tUs 10 100 E ?_;refine tUs 11 101 E ?_;refine tUs 12 102 E ?_;refine tKs 13 103 E ?_;refine tKs 14 104 E ?_;refine tUs 15 105 E ?_;refine tUs 16 106 E ?_;refine tUs 17 107 E ?_;refine tUs 18 108 E ?_;refine tUs 19 109 E ?_;refine tUs 20 110 E ?_;refine tUs 21 111 E ?_;refine tUs 22 112 E ?_;refine tKs 23 113 E ?_;refine tKs 24 4 E ?_;refine dN ?_ _;clear E T O;go_wp2_with fail
    go_returns;exact⟨.inr ⟨fun h=>(by cases HZ.o.2 ⟨h.du.pos,h.du.sum⟩),rfl⟩,G.o.drew⟩
   | true=>
    have aC:Hid (Lp.jc m n A X c):=lH ⟨(HZ.o.1 rfl).1,(HZ.o.1 rfl).2⟩;by_cases h0:Lp.eB m X bq=val
    ·have F:((eF (Lp.eB m X bq)).toList== (eF val).toList)=true:=by rw[h0];simp
     have ad:=lH h0;clear h0;have aB:=lH G.o.drew;go_wp2_with fail
     have O:=rG wr;have a7:=U.o.lt;obtain⟨a1,a2⟩:=aT2 U.o;have ah:=R.o.lt;have a5:=aI 1 R;have a6:=aI 2 R;have T:=lH (kC a1 (kC a2 (kC a5 (kN a6))));clear a7 a1 a2 ah a5 a6;refine rL T.o (fun i=>false) ?_;have E:=T.o _ O.o;refine tKs 0 90 E ?_;refine tKs 1 91 E ?_;refine tKs 2 92 E ?_;refine tKs 3 93 E ?_;refine tKs 4 94 E ?_;refine jf (i:=5) (v:= .bool true) (some 95) rfl (by rfl) kR kR kR kR (fun _ _ _ h=>h) (Or.inl ⟨by rfl,?_⟩) E ?_
     ·(intro w' a3;clear a3;go_simp;(first | done | (rw[F];done) | (rw[F];rfl) | (simp[F];done)))
     simp only[Act.put,List.setIfInBounds_toArray,List.set_cons_zero,List.set_cons_succ];clear F;refine tKs 6 96 E ?_;refine tKs 7 97 E ?_;refine tKs 8 98 E ?_;refine tKs 9 99 E ?_;refine tKs 10 100 E ?_;refine tKs 11 101 E ?_;refine rD 12 (fun K M=> ?_);go_simp;refine(aF.o _ aB.o).mono ?_;rintro e w5 ⟨⟨hp,rfl⟩ | ⟨hp,rfl⟩,a0⟩
     ·have a0:Below wr.heap.size wr w5:=bD a0;replace G:=bT G a0;replace O:=bT O a0;clear E a0;have E:=T.o _ O.o;refine kH M E ?_;clear M K;have af:=lH hp;clear hp;refine tKs 13 103 E ?_;refine tKs 14 104 E ?_;refine tKs 15 105 E ?_;refine tKs 16 106 E ?_;refine tKs 17 107 E ?_;refine tKs 18 108 E ?_;refine tKs 20 110 E ?_;refine tKs 21 111 E ?_;refine rD 19 (fun K M=> ?_);go_simp;refine(ul _ _ n n c x Y Z Kq _ (by exact ap.o.below G.o) (by exact aJ.o.below G.o) (Nat.le_refl _) hn aE.o aH.o aD.o HK.o).mono ?_;rintro e w6 ⟨rfl,a8⟩;have a8:Below w5.heap.size w5 w6:=bD a8;replace G:=bT G a8;replace O:=bT O a8;clear E a8;have E:=T.o _ O.o;refine kH M E ?_;clear M K;by_cases h0:Lp.eB n c x=val
      ·have F:((eF (Lp.eB n c x)).toList== (eF val).toList)=true:=by rw[h0];simp
       have ag:=lH h0;clear h0;refine jf (i:=22) (v:= .bool true) (some 112) rfl (by rfl) kR kR kR kR (fun _ _ _ h=>h) (Or.inl ⟨by rfl,?_⟩) E ?_
       ·(intro w' a3;clear a3;go_simp;(first | done | (rw[F];done) | (rw[F];rfl) | (simp[F];done)))
       simp only[Act.put,List.setIfInBounds_toArray,List.set_cons_zero,List.set_cons_succ];clear F;refine tKs 23 113 E ?_;refine tKs 24 4 E ?_;refine dN ?_ _;clear E T O;go_wp2_with fail
       go_returns;exact⟨.inl ⟨⟨aC.o,ad.o,af.o,ag.o⟩,rfl⟩,G.o⟩
      ·have F:((eF (Lp.eB n c x)).toList== (eF val).toList)=false:=ut h0;have ag:=lH h0;clear h0;refine jf (i:=22) (v:= .bool false) (some 112) rfl (by rfl) kR kR kR kR (fun _ _ _ h=>h) (Or.inl ⟨by rfl,?_⟩) E ?_
       ·(intro w' a3;clear a3;go_simp;(first | done | (rw[F];done) | (rw[F];rfl) | (simp[F];done)))
       simp only[Act.put,List.setIfInBounds_toArray,List.set_cons_zero,List.set_cons_succ];clear F;refine tKs 23 113 E ?_;refine tKs 24 4 E ?_;refine dN ?_ _;clear E T O;go_wp2_with fail
       go_returns;exact⟨.inr ⟨fun h=>ag.o h.value,rfl⟩,G.o⟩
     ·have a0:Below wr.heap.size wr w5:=bD a0;replace G:=bT G a0;replace O:=bT O a0;clear E a0;have E:=T.o _ O.o;refine kH M E ?_;clear M K;have af:=lH hp;clear hp;refine tKs 13 103 E ?_;refine tKs 14 104 E ?_;refine tUs 15 105 E ?_;refine tUs 16 106 E ?_;refine tUs 17 107 E ?_;refine tUs 18 108 E ?_;refine tUs 19 109 E ?_;refine tUs 20 110 E ?_;refine tUs 21 111 E ?_;refine tUs 22 112 E ?_;refine tKs 23 113 E ?_;refine tKs 24 4 E ?_;refine dN ?_ _;clear E T O;go_wp2_with fail
      go_returns;exact⟨.inr ⟨fun h=>af.o h.holds,rfl⟩,G.o⟩
    ·have F:((eF (Lp.eB m X bq)).toList== (eF val).toList)=false:=ut h0;have ad:=lH h0;clear h0;go_wp2_with fail
     have O:=rG wr;have a7:=U.o.lt;obtain⟨a1,a2⟩:=aT2 U.o;have ah:=R.o.lt;have a5:=aI 1 R;have a6:=aI 2 R;have T:=lH (kC a1 (kC a2 (kC a5 (kN a6))));clear a7 a1 a2 ah a5 a6;refine rL T.o (fun i=>false) ?_;have E:=T.o _ O.o;refine tKs 0 90 E ?_;refine tKs 1 91 E ?_;refine tKs 2 92 E ?_;refine tKs 3 93 E ?_;refine tKs 4 94 E ?_;refine jf (i:=5) (v:= .bool false) (some 95) rfl (by rfl) kR kR kR kR (fun _ _ _ h=>h) (Or.inl ⟨by rfl,?_⟩) E ?_
     ·(intro w' a3;clear a3;go_simp;(first | done | (rw[F];done) | (rw[F];rfl) | (simp[F];done)))
     simp only[Act.put,List.setIfInBounds_toArray,List.set_cons_zero,List.set_cons_succ];clear F;refine tKs 6 96 E ?_;refine tKs 7 97 E ?_;refine tUs 8 98 E ?_;refine tUs 9 99 E ?_;refine tUs 10 100 E ?_;refine tUs 11 101 E ?_;refine tUs 12 102 E ?_;refine tKs 13 103 E ?_;refine tKs 14 104 E ?_;refine tUs 15 105 E ?_;refine tUs 16 106 E ?_;refine tUs 17 107 E ?_;refine tUs 18 108 E ?_;refine tUs 19 109 E ?_;refine tUs 20 110 E ?_;refine tUs 21 111 E ?_;refine tUs 22 112 E ?_;refine tKs 23 113 E ?_;refine tKs 24 4 E ?_;refine dN ?_ _;clear E T O;go_wp2_with fail
     go_returns;exact⟨.inr ⟨fun h=>ad.o h.bound,rfl⟩,G.o.drew⟩
set_option maxRecDepth 100000 in
set_option maxHeartbeats 6400000 in
theorem JG(AO AR AP AY AD:Option Addr)(n m cO cR cP cY cD:Nat)(s:ByteArray)(y:Nat -> ByteArray)(E:Nat -> Rat)(k:Nat -> Nat)(o:Nat -> ByteArray)(t:Nat -> Nat -> ByteArray)(b:Nat -> ByteArray)(A:Nat -> Nat -> Rat)(bq c:Nat -> Rat)(F O R:Nat)(w:World)(ho:TS w (.slice AO n cO) n o)(hr:fZ w (.slice AR m cR) m k t b)(aj:∀j,j<n -> o j=eF (c j))(ag:∀i,i<m -> k i=n)(ht:∀i,i<m -> ∀j,j<n -> t i j=eF (A i j))(ae:∀i,i<m -> b i=eF (bq i))(hy:TS w (.slice AY m cY) m y)(al:∀i,i<m -> y i=eF (E i))
  (hn:n <= 1000000000) (hm:m <= 1000000000) (ah:∀i,i<m -> ∀j,j<n -> RL F (A i j)) (a6:∀i,i<m -> RL F (bq i)) (ai:∀j,j<n -> RL F (c j)) (T:1+ (m+n)* (F+O+1) <= R /\ F <= R /\ O <= R) (hk:4*R <= 4000000) (a7:∀i,i<m -> RL O (E i)):
  Calls prog 66 #[.agg #[.slice AO n cO, .slice AR m cR], .agg #[.int .i64 2, .string s, .slice AP 0 cP, .slice AY m cY, .slice AD 0 cD]] w fun e w'=>((Lp.Inf m n A bq E /\ e= .returned (.bool true)) \/ (¬Lp.Inf m n A bq E /\ e= .returned (.bool false))) /\ Below w.heap.size w w':=by
 have an:=lH (fun(wx:World) (af:Below w.heap.size w wx)=>Cx AR AY n m cR cY k t b y A bq E F O R wx (hr.below af) (hy.below af) ag ht ae al hn hm ah a6 a7 ⟨by have:=kY T.1 (show m <= m+n by omega);rw[show O+F+1=F+O+1 by omega];exact this,T.2.1,T.2.2⟩ hk);have am:Hid (RL R (Lp.eB m E bq)):=lH ((jy a7 a6 m (Nat.le_refl _)).mono (by have:=kY T.1 (show m <= m+n by omega);rw[show O+F+1=F+O+1 by omega];exact this));have av:=lH (ho.congr aj);have ar:Hid (1+n* (F+O+1) <= R /\ F <= R /\ O <= R):=lH ⟨kY T.1 oM,T.2.1,T.2.2⟩;clear hy al aj ho ag ht ae a6 T a7 hr ah;have au:=lH ai;have HK:=lH hk;clear ai hk;obtain⟨W,hW,Y,M,G⟩:=eN2 w [.slice AO n cO, .slice AR m cR] 25 [.int .i64 2, .string s, .slice AP 0 cP, .slice AY m cY, .slice AD 0 cD] 32;go_enter func66,ntmps66;obtain⟨p0,p1⟩:=aT2 Y.o;obtain⟨U,o1,o2,o3,o4⟩:=aT5 M.o;have pl:=Y.o.lt;have X:=M.o.lt;rw[hW] at p0 p1 U o1 o2 o3 o4 pl X;go_wp2_with fail
 rw[<- hW];clear hW p0 p1 U o1 o2 o3 o4 pl X;refine(an.o _ G.o).mono ?_;rintro e w1 ⟨⟨gS,z,rfl,hz,ak⟩,a0⟩;replace Y:=rW Y a0;replace M:=rW M a0;replace G:=bT G a0;clear a0;have ao:=lH ak;have ac:=Y;have ab:=M;have a9:=G;have aa:Hid (Okz z 0 m n A E (fun _=>0)):=lH ⟨fun h=>⟨hz.1 h,fun j hj=>absurd hj oM⟩,fun h=>hz.2 h.1⟩;clear ak hz Y M G;go_wp2_with fail
 go_loopw [8,9] (fun rv iv wr=>∃ (q:Nat) (z:Bool),q <= n /\ rv= .bool z /\ iv= .int .i64 q /\ Okz z q m n A E (fun _=>0) /\ Below w1.heap.size w1 wr)
  (fun _ iv _=>n-(intOf iv).toNat)
 case atStart=>exact⟨0,z,Nat.zero_le _,rfl,rfl,aa.o,Below.refl _ _⟩
 case round=>
  clear aa;obtain⟨q,z2,hq,rfl,rfl,hz,a1⟩:=hrel;have Z:=lH hz;have a2:=lH a1;have Y:=lH (ac.o.below a1 ac.o.lt);have M:=lH (ab.o.below a1 ab.o.lt);have G:=lH (a9.o.trans (a1.mono a9.o.size));have SB:=lH (ao.o.below a1);clear hz a1;by_cases aw:((q:Nat):Int)<((n:Nat):Int)
  ·have aq:q<n:=oM
   have U:=aI 0 M;have X:=M.o.lt;have sk:=SB.o.at_ aq;cases z2 with
   | false=>
    go_wp2_with fail
    clear U X sk;go_roundw
    case rel=>exact⟨q+1,false,by omega,rfl,by go_num,⟨fun h=>(by cases h),fun h=>Z.o.2 ⟨h.1,fun j hj=>h.2 j oM⟩⟩,a2.o⟩
    case measure=>exact mZ
   | true=>
    by_cases h0:Lp.eB m E (fun i=>A i q)=0
    ·have a0:((eF (Lp.eB m E (fun i=>A i q))).toList== (⟨#[48]⟩:ByteArray).toList)=true:=by rw[h0,mF];simp
     have a5:(eF (Lp.eB m E (fun i=>A i q))).toList= [48]:=by rw[h0,mF,ByteArray.toList_eq]
     have ap:((eF (Lp.eB m E (fun i=>A i q))).toList== [48])=true:=by rw[a5];rfl
     have a4:=lH h0;clear h0;go_wp2_with fail
     clear U X sk;go_roundw
     case rel=>exact⟨q+1,true,by omega,rfl,by go_num,⟨fun _=>⟨(Z.o.1 rfl).1,fun j hj=>if e:j=q then(by subst e;exact a4.o) else(Z.o.1 rfl).2 j oM⟩,fun _=>rfl⟩,a2.o⟩
     case measure=>exact mZ
    ·have a0:((eF (Lp.eB m E (fun i=>A i q))).toList== (⟨#[48]⟩:ByteArray).toList)=false:=by rw[<- mF];exact ut h0
     have a5:¬(eF (Lp.eB m E (fun i=>A i q))).toList= [48]:=JD h0;have ap:((eF (Lp.eB m E (fun i=>A i q))).toList== [48])=false:=by simpa using a5
     have a4:=lH h0;clear h0;go_wp2_with fail
     clear U X sk;go_roundw
     case rel=>exact⟨q+1,false,by omega,rfl,by go_num,⟨fun h=>(by cases h),fun h=>absurd (h.2 q oM) a4.o⟩,a2.o⟩
     case measure=>exact mZ
  ·obtain rfl:n=q:=oM
   have U:=aI 0 M;have X:=M.o.lt;cases z2 with
   | false=>
    go_wp2_with fail
    go_returns;exact⟨.inr ⟨fun h=>(by cases Z.o.2 ⟨h.du.pos,h.du.sum⟩),rfl⟩,G.o⟩
   | true=>
    go_wp2_with fail
    clear U X;refine(tO (Lp.eB m E bq) R _ am.o HK.o).mono ?_;rintro e w7 ⟨rfl,ad⟩;clear a2 SB;replace G:=bT G ad;clear ad;by_cases h0:Lp.eB m E bq<0
    ·have a8:decide (sgI (Lp.eB m E bq).num<0)=true:=by rw[um];exact decide_eq_true h0
     have a3:=lH h0;clear h0;go_wp2_with fail
     go_returns;exact⟨.inl ⟨⟨⟨(Z.o.1 rfl).1,(Z.o.1 rfl).2⟩,a3.o⟩,by first | rfl | (simp[a8])⟩,G.o⟩
    ·have a8:decide (sgI (Lp.eB m E bq).num<0)=false:=by rw[um];exact decide_eq_false h0
     have a3:=lH h0;clear h0;go_wp2_with fail
     go_returns;exact⟨.inr ⟨fun h=>a3.o h.bound,by first | rfl | (simp[a8])⟩,G.o⟩
end Go.Proofs.YtdefghfjhgmpfaaGreatDoor
