/- Parts of this proof: TProve. -/
import Derived.Test.YtdefghfjhgmpfaaGreatDoorMAE
import Derived.Test.YtdefghfjhgmpfaaGreatDoorMBO
import Derived.Test.YtdefghfjhgmpfaaGreatDoorMBM
import Derived.Test.YtdefghfjhgmpfaaGreatDoorMCH
namespace Go.Proofs.YtdefghfjhgmpfaaGreatDoor
open Go.Proofs.Tryz
open Go.RowKit
open Lp (RL upd eu)
theorem kY{m n q h r t:Nat}(E:1+ (m+n)* (h+r+1) <= t)(C:q <= m+n):1+q* (h+r+1) <= t:=by
 have:=Nat.mul_le_mul_right (h+r+1) C;omega
theorem ut{a b:Rat}(h:a≠b):((eF a).toList== (eF b).toList)=false:=by
 rw[beq_eq_false_iff_ne];intro e;exact h (xR (lY (by rw[<- ByteArray.toList_eq, <- ByteArray.toList_eq];exact e)))
theorem JD{a:Rat}(h:a≠0):¬(eF a).toList= [48]:=fun e=>h (xR (lY (by rw[<- ByteArray.toList_eq,e,mF])))
def Okz(z:Bool)(q m _n:Nat)(A:Nat -> Nat -> Rat)(y c:Nat -> Rat):Prop:=z=true↔((∀i,i<m -> 0 <= y i) /\ ∀j,j<q -> Lp.eB m y (fun i=>A i j)=c j)
set_option maxRecDepth 100000 in
set_option maxHeartbeats 6400000 in
theorem JE(AO AR AP AY AD:Option Addr)(n m cO cR cP cY cD:Nat)(s:ByteArray)(p d:Nat -> ByteArray)(x C:Nat -> Rat)(k:Nat -> Nat)(o:Nat -> ByteArray)(t:Nat -> Nat -> ByteArray)(b:Nat -> ByteArray)(A:Nat -> Nat -> Rat)(bq c:Nat -> Rat)(R T M:Nat)(w:World)(ho:TS w (.slice AO n cO) n o)(hr:fZ w (.slice AR m cR) m k t b)(az:∀j,j<n -> o j=eF (c j))(ac:∀i,i<m -> k i=n)(ht:∀i,i<m -> ∀j,j<n -> t i j=eF (A i j))(ab:∀i,i<m -> b i=eF (bq i))(hx:TS w (.slice AP n cP) n p)(hd:TS w (.slice AD n cD) n d)(aA:∀j,j<n -> p j=eF (x j))(ax:∀j,j<n -> d j=eF (C j))
  (hn:n <= 1000000000) (hm:m <= 1000000000) (a5:∀i,i<m -> ∀j,j<n -> RL R (A i j)) (ay:∀i,i<m -> RL R (bq i)) (ad:∀j,j<n -> RL R (c j)) (E:1+ (m+n)* (R+T+1) <= M /\ R <= M /\ T <= M) (hk:4*M <= 1000000) (aN:∀j,j<n -> RL T (x j)) (a6:∀j,j<n -> RL T (C j)):
  Calls prog 66 #[.agg #[.slice AO n cO, .slice AR m cR], .agg #[.int .i64 3, .string s, .slice AP n cP, .slice AY 0 cY, .slice AD n cD]] w fun e w'=>((Lp.Unb m n A bq c x C /\ e= .returned (.bool true)) \/ (¬Lp.Unb m n A bq c x C /\ e= .returned (.bool false))) /\ Below w.heap.size w w':=by
 have aF:=lH (fun(wx:World) (au:Below w.heap.size w wx)=>Cv (.slice AP n cP) (.slice AR m cR) n m k p t b x A bq R T M wx (hx.below au) (hr.below au) aA ac ht ab hn hm a5 aN (fun i hi=>(ay i hi).mono E.2.1) ⟨kY E.1 oM,E.2.1,E.2.2⟩ hk);have aD:Hid (∀i,i<m -> RL M (Lp.eB n (A i) C)):=lH (fun i hi=>(jy (a5 i hi) a6 n (Nat.le_refl _)).mono (kY E.1 oM));have aE:Hid (RL M (Lp.eB n c C)):=lH ((jy ad a6 n (Nat.le_refl _)).mono (kY E.1 oM));have ag:=lH (hd.congr ax);have aG:=lH (ho.congr az);have HT:=lH (And.intro ac (And.intro ht ab));have ai:Hid (1+n* (R+T+1) <= M /\ R <= M /\ T <= M):=lH ⟨kY E.1 oM,E.2.1,E.2.2⟩;clear hx aA az hd ax ho ac ht ab ay E;have HR:=lH hr;have aB:=lH a5;have aC:=lH ad;have aj:=lH a6;have HK:=lH hk;clear hr a5 ad a6 hk;obtain⟨W,hW,G,O,r⟩:=eN2 w [.slice AO n cO, .slice AR m cR] 25 [.int .i64 3, .string s, .slice AP n cP, .slice AY 0 cY, .slice AD n cD] 32;go_enter func66,ntmps66;obtain⟨p0,p1⟩:=aT2 G.o;obtain⟨o0,o1,o2,o3,o4⟩:=aT5 O.o;have Z:=G.o.lt;have ol:=O.o.lt;rw[hW] at p0 p1 o0 o1 o2 o3 o4 Z ol;go_wp2_with fail
 rw[<- hW];clear hW p0 p1 o0 o1 o2 o3 o4 Z ol;have am:=G;have al:=O;have af:=r;clear G O r
 go_loopw [5] (fun iv wr=>∃q:Nat,q <= m /\ iv= .int .i64 q /\ Hid (∀i,i<q -> Lp.eB n (A i) C <= 0) /\ Below W.heap.size W wr)
  (fun iv _=>m-(intOf iv).toNat)
 case atStart=>exact⟨0,Nat.zero_le _,rfl,lH (fun i hi=>absurd hi oM),Below.refl _ _⟩
 case round=>
  obtain⟨q,hq,rfl,hz,a3⟩:=hrel;have HZ:=lH hz.o;have U:=lH a3;have G:=lH (am.o.below a3 am.o.lt);have O:=lH (al.o.below a3 al.o.lt);have r:=lH (af.o.trans (a3.mono af.o.size));clear hz a3;by_cases aP:((q:Nat):Int)<((m:Nat):Int)
  ·have a2:q<m:=oM
   have aO:((q:Nat):Int) <= 1000000000:=oM
   obtain⟨gR,oR,rfl,aw⟩:=HR.o.at_ oM;obtain⟨u,av,aM,a7⟩:=aw q a2;rw[HT.o.1 q a2] at a7;obtain⟨Y,y,rfl,_,_⟩:=a7.shape;have ak:=lH ((a7.congr (HT.o.2.1 q a2)).below r.o);have c1:=cell_below r.o av;have cl:=eG c1;have ah:=lH (ag.o.below r.o);clear aw av aM a7;have p1:=aI 1 G;have Z:=G.o.lt
   go_upto_region 5 with (fail)
   clear p1 Z cl;have C1:=lH c1;clear c1;go_wp2_with fail
   have V:=rG wr;have aK:=G.o.lt;have ap:=aI 1 G;have aJ:=O.o.lt;have ao:=aI 4 O;have aH:=eG C1.o;have an:=C1.o;have KS:=lH (kC ap (kC ao (kN an)));clear aK ap aJ ao aH an;refine rL KS.o (fun i=>false) ?_;have F:=KS.o _ V.o;refine tKs 0 21 F ?_;refine tKs 1 22 F ?_;refine tKs 2 23 F ?_;refine tKs 3 24 F ?_;refine tKs 4 25 F ?_;refine tKs 5 26 F ?_;refine tKs 6 27 F ?_;refine tKs 7 28 F ?_;refine rD 8 (fun K E=> ?_);go_simp;refine(ul _ _ n n (A q) C R T M _ (by exact ak.o) (by exact ah.o) (Nat.le_refl _) hn (aB.o q a2) aj.o ai.o HK.o).mono ?_;rintro e w3 ⟨rfl,a0⟩;have a0:Below wr.heap.size wr w3:=bD a0;replace r:=bT r a0;replace V:=bT V a0;replace U:=lH (U.o.trans (a0.mono U.o.size));clear F a0;have F:=KS.o _ V.o;refine kH E F ?_;clear E K;refine rD 9 (fun K E=> ?_);go_simp;refine(tO (Lp.eB n (A q) C) M _ (aD.o q a2) HK.o).mono ?_;rintro e w4 ⟨rfl,a1⟩;have a1:Below w3.heap.size w3 w4:=bD a1;replace r:=bT r a1;replace V:=bT V a1;replace U:=lH (U.o.trans (a1.mono U.o.size));clear F a1;have F:=KS.o _ V.o;refine kH E F ?_;clear E K;obtain⟨zb,X⟩:∃z:Bool,z=decide (0<sgI (Lp.eB n (A q) C).num):=⟨_,rfl⟩
   refine jf (i:=10) (v:= .bool zb) (some 31) rfl (by rfl) kR kR kR kR (fun _ _ _ h=>h) (Or.inl ⟨by rfl,?_⟩) F ?_
   ·(intro w' aL;clear aL;go_simp;(first | done | (rw[X];done) | (rw[X];rfl) | (simp[X];done)))
   simp only[Act.put,List.setIfInBounds_toArray,List.set_cons_zero,List.set_cons_succ];rw[oD] at X;refine dN ?_ _;clear F KS V;clear ak ah C1;by_cases h0:Lp.eB n (A q) C <= 0
   ·rw[decide_eq_false (Rat.not_lt.2 h0)] at X;subst X;have a9:=lH h0;clear h0;go_wp2_with fail
    go_roundw
    case rel=>exact⟨q+1,by omega,by go_num,lH (fun i hi=>by by_cases e:i=q;subst e;exact a9.o;exact HZ.o i oM),U.o⟩
    case measure=>exact mZ
   ·rw[decide_eq_true (Rat.not_le.1 h0)] at X;subst X;have a9:Hid (¬Lp.Unb m n A bq c x C):=lH (fun h=>h0 (h.ray q a2));clear h0;go_wp2_with fail
    go_returns;exact⟨.inr ⟨a9.o,rfl⟩,r.o⟩
  ·obtain rfl:m=q:=oM
   have p1:=aI 1 G;have Z:=G.o.lt;have o2:=aI 2 O;have ol:=O.o.lt;go_wp2_with fail
   clear p1 Z o2 ol;refine(aF.o _ r.o).mono ?_;rintro e w5 ⟨hp,a4⟩;replace G:=rW G a4;replace O:=rW O a4;replace r:=bT r a4;clear a4;clear U
   rcases hp with ⟨hp,rfl⟩ | ⟨hp,rfl⟩
   ·have aa:=lH hp;clear hp;have p0:=aI 0 G;have Z:=G.o.lt;have o4:=aI 4 O;have ol:=O.o.lt;go_wp2_with fail
    clear p0 Z o4 ol;refine(ul _ _ n n c C R T M _ (aG.o.below r.o) (ag.o.below r.o) (Nat.le_refl _) hn aC.o aj.o ai.o HK.o).mono ?_;rintro e w6 ⟨rfl,aq⟩;replace r:=bT r aq;clear aq;go_wp2_with fail
    refine(tO (Lp.eB n c C) M _ aE.o HK.o).mono ?_;rintro e w7 ⟨rfl,ar⟩;replace r:=bT r ar;clear ar;by_cases h0:0<Lp.eB n c C
    ·have ae:decide (0<sgI (Lp.eB n c C).num)=true:=by rw[oD];exact decide_eq_true h0
     have a8:=lH h0;clear h0;go_wp2_with fail
     go_returns;exact⟨.inl ⟨⟨aa.o,HZ.o,a8.o⟩,by first | rfl | (simp[ae])⟩,r.o⟩
    ·have ae:decide (0<sgI (Lp.eB n c C).num)=false:=by rw[oD];exact decide_eq_false h0
     have a8:=lH h0;clear h0;go_wp2_with fail
     go_returns;exact⟨.inr ⟨fun h=>a8.o h.up,by first | rfl | (simp[ae])⟩,r.o⟩
   ·have aa:=lH hp;clear hp;go_wp2_with fail
    go_returns;exact⟨.inr ⟨fun h=>aa.o h.holds,rfl⟩,r.o⟩
set_option maxRecDepth 100000 in
set_option maxHeartbeats 6400000 in
theorem JF(AO AR AP AY AD:Option Addr)(n m cO cR cP cY cD:Nat)(p:Nat -> ByteArray)(x:Nat -> Rat)(val:Rat)(y:Nat -> ByteArray)(T:Nat -> Rat)(k:Nat -> Nat)(o:Nat -> ByteArray)(t:Nat -> Nat -> ByteArray)(b:Nat -> ByteArray)(A:Nat -> Nat -> Rat)(Y c:Nat -> Rat)(U V X:Nat)(w:World)(ho:TS w (.slice AO n cO) n o)(hr:fZ w (.slice AR m cR) m k t b)(aw:∀j,j<n -> o j=eF (c j))(ai:∀i,i<m -> k i=n)(ht:∀i,i<m -> ∀j,j<n -> t i j=eF (A i j))(ah:∀i,i<m -> b i=eF (Y i))(hx:TS w (.slice AP n cP) n p)(am:∀j,j<n -> p j=eF (x j))(hy:TS w (.slice AY m cY) m y)(az:∀i,i<m -> y i=eF (T i))
  (hn:n <= 1000000000) (hm:m <= 1000000000) (aj:∀i,i<m -> ∀j,j<n -> RL U (A i j)) (ab:∀i,i<m -> RL U (Y i)) (au:∀j,j<n -> RL U (c j)) (F:1+ (m+n)* (U+V+1) <= X /\ U <= X /\ V <= X) (hk:4*X <= 1000000) (al:∀i,i<m -> RL V (T i)) (ak:∀j,j<n -> RL V (x j)) (av:RL V val):
  Calls prog 66 #[.agg #[.slice AO n cO, .slice AR m cR], .agg #[.int .i64 1, .string (eF val), .slice AP n cP, .slice AY m cY, .slice AD 0 cD]] w fun e w'=>((Lp.Opt m n A Y c val x T /\ e= .returned (.bool true)) \/ (¬Lp.Opt m n A Y c val x T /\ e= .returned (.bool false))) /\ Below w.heap.size w w':=by
 have aE:=lH (fun(wx:World) (a8:Below w.heap.size w wx)=>Cv (.slice AP n cP) (.slice AR m cR) n m k p t b x A Y U V X wx (hx.below a8) (hr.below a8) am ai ht ah hn hm aj ak (fun i hi=>(ab i hi).mono F.2.1) ⟨kY F.1 oM,F.2.1,F.2.2⟩ hk);have aH:=lH (hx.congr am);have aG:=lH ak;have aL:=lH (av.mono F.2.2);have aF:=lH (fun(wx:World) (a8:Below w.heap.size w wx)=>Cx AR AY n m cR cY k t b y A Y T U V X wx (hr.below a8) (hy.below a8) ai ht ah az hn hm aj ab al ⟨by have:=kY F.1 (show m <= m+n by omega);rw[show V+U+1=U+V+1 by omega];exact this,F.2.1,F.2.2⟩ hk);have aK:Hid (RL X (Lp.eB m T Y)):=lH ((jy al ab m (Nat.le_refl _)).mono (by have:=kY F.1 (show m <= m+n by omega);rw[show V+U+1=U+V+1 by omega];exact this));have ao:=lH (ho.congr aw);have aC:Hid (1+n* (U+V+1) <= X /\ U <= X /\ V <= X):=lH ⟨kY F.1 oM,F.2.1,F.2.2⟩;clear hy az aw ho ai ht ah ab F al hr aj hx am ak av;have aD:=lH au;have HK:=lH hk;clear au hk;obtain⟨W,hW,R,M,E⟩:=eN2 w [.slice AO n cO, .slice AR m cR] 25 [.int .i64 1, .string (eF val), .slice AP n cP, .slice AY m cY, .slice AD 0 cD] 32;go_enter func66,ntmps66;obtain⟨p0,p1⟩:=aT2 R.o;obtain⟨o0,o1,o2,o3,o4⟩:=aT5 M.o;have pl:=R.o.lt;have ol:=M.o.lt;rw[hW] at p0 p1 o0 o1 o2 o3 o4 pl ol;go_wp2_with fail
 rw[<- hW];clear hW p0 p1 o0 o1 o2 o3 o4 pl ol;refine(aF.o _ E.o).mono ?_;rintro e w1 ⟨⟨gS,z,rfl,hz,ay⟩,C⟩;replace R:=rW R C;replace M:=rW M C;replace E:=bT E C;clear C;have aJ:=lH ay;have ar:=R;have aq:=M;have an:=E;have ap:Hid (Okz z 0 m n A T c):=lH ⟨fun h=>⟨hz.1 h,fun j hj=>absurd hj oM⟩,fun h=>hz.2 h.1⟩;clear ay hz R M E;go_wp2_with fail
 go_loopw [8,9] (fun rv iv wr=>∃ (q:Nat) (z:Bool),q <= n /\ rv= .bool z /\ iv= .int .i64 q /\ Okz z q m n A T c /\ Below w1.heap.size w1 wr)
  (fun _ iv _=>n-(intOf iv).toNat)
 case atStart=>exact⟨0,z,Nat.zero_le _,rfl,rfl,ap.o,Below.refl _ _⟩
 case round=>
  clear ap;obtain⟨q,z2,hq,rfl,rfl,hz,a3⟩:=hrel;have HZ:=lH hz;have a9:=lH a3;have R:=lH (ar.o.below a3 ar.o.lt);have M:=lH (aq.o.below a3 aq.o.lt);have E:=lH (an.o.trans (a3.mono an.o.size));have SB:=lH (aJ.o.below a3);clear hz a3;by_cases aM:((q:Nat):Int)<((n:Nat):Int)
  ·have ax:q<n:=oM
   have o0:=aI 0 M;have ol:=M.o.lt;have sk:=SB.o.at_ ax;have p0:=aI 0 R;have pl:=R.o.lt;obtain⟨gC,oC,rfl,aa⟩:=ao.o.at_ oM;have c1:=cell_below E.o (aa q ax);have cl:=eG c1;cases z2 with
   | false=>
    go_wp2_with fail
    clear o0 ol sk p0 pl c1 cl aa;go_roundw
    case rel=>exact⟨q+1,false,by omega,rfl,by go_num,⟨fun h=>(by cases h),fun h=>HZ.o.2 ⟨h.1,fun j hj=>h.2 j oM⟩⟩,a9.o⟩
    case measure=>exact mZ
   | true=>
    by_cases h0:Lp.eB m T (fun i=>A i q)=c q
    ·have C:((eF (Lp.eB m T (fun i=>A i q))).toList== (eF (c q)).toList)=true:=by rw[h0];simp
     have ad:=lH h0;clear h0;go_wp2_with fail
     clear o0 ol sk p0 pl c1 cl aa;go_roundw
     case rel=>exact⟨q+1,true,by omega,rfl,by go_num,⟨fun _=>⟨(HZ.o.1 rfl).1,fun j hj=>if e:j=q then(by subst e;exact ad.o) else(HZ.o.1 rfl).2 j oM⟩,fun _=>rfl⟩,a9.o⟩
     case measure=>exact mZ
    ·have C:((eF (Lp.eB m T (fun i=>A i q))).toList== (eF (c q)).toList)=false:=ut h0;have ad:=lH h0;clear h0;go_wp2_with fail
     clear o0 ol sk p0 pl c1 cl aa;go_roundw
     case rel=>exact⟨q+1,false,by omega,rfl,by go_num,⟨fun h=>(by cases h),fun h=>absurd (h.2 q oM) ad.o⟩,a9.o⟩
     case measure=>exact mZ
  ·obtain rfl:n=q:=oM
   have o0:=aI 0 M;have ol:=M.o.lt
   go_upto_region 18 with (fail)
   clear o0 ol a9 SB;cases z2 with
   | false=>
    go_wp2_with fail
    have G:=rG wr;have a6:=R.o.lt;obtain⟨a0,a1⟩:=aT2 R.o;have O:=lH (kC a0 (kN a1));clear a6 a0 a1;refine rL O.o (fun i=>false) ?_;have r:=O.o _ G.o;refine tKs 0 90 r ?_;refine tKs 1 91 r ?_;refine tUs 2 92 r ?_;refine tUs 3 93 r ?_;refine tUs 4 94 r ?_;refine tUs 5 95 r ?_;refine tKs 6 96 r ?_;refine tKs 7 97 r ?_;refine tUs 8 98 r ?_;refine tUs 9 99 r ?_;refine tUs 10 100 r ?_;refine tUs 11 101 r ?_;refine tUs 12 102 r ?_;refine tKs 13 103 r ?_;refine tKs 14 104 r ?_;refine tUs 15 105 r ?_;refine tUs 16 106 r ?_;refine tUs 17 107 r ?_;refine tUs 18 108 r ?_;refine tUs 19 109 r ?_;refine tUs 20 110 r ?_;refine tUs 21 111 r ?_;refine tUs 22 112 r ?_;refine tKs 23 113 r ?_;refine tKs 24 4 r ?_;refine dN ?_ _;clear r O G;go_wp2_with fail
    go_returns;exact⟨.inr ⟨fun h=>(by cases HZ.o.2 ⟨h.du.pos,h.du.sum⟩),rfl⟩,E.o.drew⟩
   | true=>
    have aB:Hid (Lp.jc m n A T c):=lH ⟨(HZ.o.1 rfl).1,(HZ.o.1 rfl).2⟩;by_cases h0:Lp.eB m T Y=val
    ·have C:((eF (Lp.eB m T Y)).toList== (eF val).toList)=true:=by rw[h0];simp
     have ac:=lH h0;clear h0;have aA:=lH E.o.drew;go_wp2_with fail
     have G:=rG wr;have a6:=R.o.lt;obtain⟨a0,a1⟩:=aT2 R.o;have ag:=M.o.lt;have a4:=aI 1 M;have a5:=aI 2 M;have O:=lH (kC a0 (kC a1 (kC a4 (kN a5))));clear a6 a0 a1 ag a4 a5;refine rL O.o (fun i=>false) ?_;have r:=O.o _ G.o;refine tKs 0 90 r ?_;refine tKs 1 91 r ?_;refine tKs 2 92 r ?_;refine tKs 3 93 r ?_;refine tKs 4 94 r ?_;refine jf (i:=5) (v:= .bool true) (some 95) rfl (by rfl) kR kR kR kR (fun _ _ _ h=>h) (Or.inl ⟨by rfl,?_⟩) r ?_
     ·(intro w' a2;clear a2;go_simp;(first | done | (rw[C];done) | (rw[C];rfl) | (simp[C];done)))
     simp only[Act.put,List.setIfInBounds_toArray,List.set_cons_zero,List.set_cons_succ];clear C;refine tKs 6 96 r ?_;refine tKs 7 97 r ?_;refine tKs 8 98 r ?_;refine tKs 9 99 r ?_;refine tKs 10 100 r ?_;refine tKs 11 101 r ?_;refine rD 12 (fun K F=> ?_);go_simp;refine(aE.o _ aA.o).mono ?_;rintro e w5 ⟨⟨hp,rfl⟩ | ⟨hp,rfl⟩,Z⟩
     ·have Z:Below wr.heap.size wr w5:=bD Z;replace E:=bT E Z;replace G:=bT G Z;clear r Z;have r:=O.o _ G.o;refine kH F r ?_;clear F K;have ae:=lH hp;clear hp;refine tKs 13 103 r ?_;refine tKs 14 104 r ?_;refine tKs 15 105 r ?_;refine tKs 16 106 r ?_;refine tKs 17 107 r ?_;refine tKs 18 108 r ?_;refine tKs 20 110 r ?_;refine tKs 21 111 r ?_;refine rD 19 (fun K F=> ?_);go_simp;refine(ul _ _ n n c x U V X _ (by exact ao.o.below E.o) (by exact aH.o.below E.o) (Nat.le_refl _) hn aD.o aG.o aC.o HK.o).mono ?_;rintro e w6 ⟨rfl,a7⟩;have a7:Below w5.heap.size w5 w6:=bD a7;replace E:=bT E a7;replace G:=bT G a7;clear r a7;have r:=O.o _ G.o;refine kH F r ?_;clear F K;by_cases h0:Lp.eB n c x=val
      ·have C:((eF (Lp.eB n c x)).toList== (eF val).toList)=true:=by rw[h0];simp
       have af:=lH h0;clear h0;refine jf (i:=22) (v:= .bool true) (some 112) rfl (by rfl) kR kR kR kR (fun _ _ _ h=>h) (Or.inl ⟨by rfl,?_⟩) r ?_
       ·(intro w' a2;clear a2;go_simp;(first | done | (rw[C];done) | (rw[C];rfl) | (simp[C];done)))
       simp only[Act.put,List.setIfInBounds_toArray,List.set_cons_zero,List.set_cons_succ];clear C;refine tKs 23 113 r ?_;refine tKs 24 4 r ?_;refine dN ?_ _;clear r O G;go_wp2_with fail
       go_returns;exact⟨.inl ⟨⟨aB.o,ac.o,ae.o,af.o⟩,rfl⟩,E.o⟩
      ·have C:((eF (Lp.eB n c x)).toList== (eF val).toList)=false:=ut h0;have af:=lH h0;clear h0;refine jf (i:=22) (v:= .bool false) (some 112) rfl (by rfl) kR kR kR kR (fun _ _ _ h=>h) (Or.inl ⟨by rfl,?_⟩) r ?_
       ·(intro w' a2;clear a2;go_simp;(first | done | (rw[C];done) | (rw[C];rfl) | (simp[C];done)))
       simp only[Act.put,List.setIfInBounds_toArray,List.set_cons_zero,List.set_cons_succ];clear C;refine tKs 23 113 r ?_;refine tKs 24 4 r ?_;refine dN ?_ _;clear r O G;go_wp2_with fail
       go_returns;exact⟨.inr ⟨fun h=>af.o h.value,rfl⟩,E.o⟩
     ·have Z:Below wr.heap.size wr w5:=bD Z;replace E:=bT E Z;replace G:=bT G Z;clear r Z;have r:=O.o _ G.o;refine kH F r ?_;clear F K;have ae:=lH hp;clear hp;refine tKs 13 103 r ?_;refine tKs 14 104 r ?_;refine tUs 15 105 r ?_;refine tUs 16 106 r ?_;refine tUs 17 107 r ?_;refine tUs 18 108 r ?_;refine tUs 19 109 r ?_;refine tUs 20 110 r ?_;refine tUs 21 111 r ?_;refine tUs 22 112 r ?_;refine tKs 23 113 r ?_;refine tKs 24 4 r ?_;refine dN ?_ _;clear r O G;go_wp2_with fail
      go_returns;exact⟨.inr ⟨fun h=>ae.o h.holds,rfl⟩,E.o⟩
    ·have C:((eF (Lp.eB m T Y)).toList== (eF val).toList)=false:=ut h0;have ac:=lH h0;clear h0;go_wp2_with fail
     have G:=rG wr;have a6:=R.o.lt;obtain⟨a0,a1⟩:=aT2 R.o;have ag:=M.o.lt;have a4:=aI 1 M;have a5:=aI 2 M;have O:=lH (kC a0 (kC a1 (kC a4 (kN a5))));clear a6 a0 a1 ag a4 a5;refine rL O.o (fun i=>false) ?_;have r:=O.o _ G.o;refine tKs 0 90 r ?_;refine tKs 1 91 r ?_;refine tKs 2 92 r ?_;refine tKs 3 93 r ?_;refine tKs 4 94 r ?_;refine jf (i:=5) (v:= .bool false) (some 95) rfl (by rfl) kR kR kR kR (fun _ _ _ h=>h) (Or.inl ⟨by rfl,?_⟩) r ?_
     ·(intro w' a2;clear a2;go_simp;(first | done | (rw[C];done) | (rw[C];rfl) | (simp[C];done)))
     simp only[Act.put,List.setIfInBounds_toArray,List.set_cons_zero,List.set_cons_succ];clear C;refine tKs 6 96 r ?_;refine tKs 7 97 r ?_;refine tUs 8 98 r ?_;refine tUs 9 99 r ?_;refine tUs 10 100 r ?_;refine tUs 11 101 r ?_;refine tUs 12 102 r ?_;refine tKs 13 103 r ?_;refine tKs 14 104 r ?_;refine tUs 15 105 r ?_;refine tUs 16 106 r ?_;refine tUs 17 107 r ?_;refine tUs 18 108 r ?_;refine tUs 19 109 r ?_;refine tUs 20 110 r ?_;refine tUs 21 111 r ?_;refine tUs 22 112 r ?_;refine tKs 23 113 r ?_;refine tKs 24 4 r ?_;refine dN ?_ _;clear r O G;go_wp2_with fail
     go_returns;exact⟨.inr ⟨fun h=>ac.o h.bound,rfl⟩,E.o.drew⟩
set_option maxRecDepth 100000 in
set_option maxHeartbeats 6400000 in
theorem JG(AO AR AP AY AD:Option Addr)(n m cO cR cP cY cD:Nat)(s:ByteArray)(y:Nat -> ByteArray)(r:Nat -> Rat)(k:Nat -> Nat)(o:Nat -> ByteArray)(t:Nat -> Nat -> ByteArray)(b:Nat -> ByteArray)(A:Nat -> Nat -> Rat)(O c:Nat -> Rat)(C G M:Nat)(w:World)(ho:TS w (.slice AO n cO) n o)(hr:fZ w (.slice AR m cR) m k t b)(ah:∀j,j<n -> o j=eF (c j))(ae:∀i,i<m -> k i=n)(ht:∀i,i<m -> ∀j,j<n -> t i j=eF (A i j))(ac:∀i,i<m -> b i=eF (O i))(hy:TS w (.slice AY m cY) m y)(aj:∀i,i<m -> y i=eF (r i))
  (hn:n <= 1000000000) (hm:m <= 1000000000) (af:∀i,i<m -> ∀j,j<n -> RL C (A i j)) (a4:∀i,i<m -> RL C (O i)) (ag:∀j,j<n -> RL C (c j)) (R:1+ (m+n)* (C+G+1) <= M /\ C <= M /\ G <= M) (hk:4*M <= 1000000) (a5:∀i,i<m -> RL G (r i)):
  Calls prog 66 #[.agg #[.slice AO n cO, .slice AR m cR], .agg #[.int .i64 2, .string s, .slice AP 0 cP, .slice AY m cY, .slice AD 0 cD]] w fun e w'=>((Lp.Inf m n A O r /\ e= .returned (.bool true)) \/ (¬Lp.Inf m n A O r /\ e= .returned (.bool false))) /\ Below w.heap.size w w':=by
 have al:=lH (fun(wx:World) (ad:Below w.heap.size w wx)=>Cx AR AY n m cR cY k t b y A O r C G M wx (hr.below ad) (hy.below ad) ae ht ac aj hn hm af a4 a5 ⟨by have:=kY R.1 (show m <= m+n by omega);rw[show G+C+1=C+G+1 by omega];exact this,R.2.1,R.2.2⟩ hk);have ak:Hid (RL M (Lp.eB m r O)):=lH ((jy a5 a4 m (Nat.le_refl _)).mono (by have:=kY R.1 (show m <= m+n by omega);rw[show G+C+1=C+G+1 by omega];exact this));have ar:=lH (ho.congr ah);have ap:Hid (1+n* (C+G+1) <= M /\ C <= M /\ G <= M):=lH ⟨kY R.1 oM,R.2.1,R.2.2⟩;clear hy aj ah ho ae ht ac a4 R a5 hr af;have aq:=lH ag;have HK:=lH hk;clear ag hk;obtain⟨W,hW,V,F,E⟩:=eN2 w [.slice AO n cO, .slice AR m cR] 25 [.int .i64 2, .string s, .slice AP 0 cP, .slice AY m cY, .slice AD 0 cD] 32;go_enter func66,ntmps66;obtain⟨p0,p1⟩:=aT2 V.o;obtain⟨T,o1,o2,o3,o4⟩:=aT5 F.o;have pl:=V.o.lt;have U:=F.o.lt;rw[hW] at p0 p1 T o1 o2 o3 o4 pl U;go_wp2_with fail
 rw[<- hW];clear hW p0 p1 T o1 o2 o3 o4 pl U;refine(al.o _ E.o).mono ?_;rintro e w1 ⟨⟨gS,z,rfl,hz,ai⟩,Y⟩;replace V:=rW V Y;replace F:=rW F Y;replace E:=bT E Y;clear Y;have am:=lH ai;have aa:=V;have a9:=F;have a7:=E;have a8:Hid (Okz z 0 m n A r (fun _=>0)):=lH ⟨fun h=>⟨hz.1 h,fun j hj=>absurd hj oM⟩,fun h=>hz.2 h.1⟩;clear ai hz V F E;go_wp2_with fail
 go_loopw [8,9] (fun rv iv wr=>∃ (q:Nat) (z:Bool),q <= n /\ rv= .bool z /\ iv= .int .i64 q /\ Okz z q m n A r (fun _=>0) /\ Below w1.heap.size w1 wr)
  (fun _ iv _=>n-(intOf iv).toNat)
 case atStart=>exact⟨0,z,Nat.zero_le _,rfl,rfl,a8.o,Below.refl _ _⟩
 case round=>
  clear a8;obtain⟨q,z2,hq,rfl,rfl,hz,Z⟩:=hrel;have X:=lH hz;have a0:=lH Z;have V:=lH (aa.o.below Z aa.o.lt);have F:=lH (a9.o.below Z a9.o.lt);have E:=lH (a7.o.trans (Z.mono a7.o.size));have SB:=lH (am.o.below Z);clear hz Z;by_cases au:((q:Nat):Int)<((n:Nat):Int)
  ·have ao:q<n:=oM
   have T:=aI 0 F;have U:=F.o.lt;have sk:=SB.o.at_ ao;cases z2 with
   | false=>
    go_wp2_with fail
    clear T U sk;go_roundw
    case rel=>exact⟨q+1,false,by omega,rfl,by go_num,⟨fun h=>(by cases h),fun h=>X.o.2 ⟨h.1,fun j hj=>h.2 j oM⟩⟩,a0.o⟩
    case measure=>exact mZ
   | true=>
    by_cases h0:Lp.eB m r (fun i=>A i q)=0
    ·have Y:((eF (Lp.eB m r (fun i=>A i q))).toList== (⟨#[48]⟩:ByteArray).toList)=true:=by rw[h0,mF];simp
     have a3:(eF (Lp.eB m r (fun i=>A i q))).toList= [48]:=by rw[h0,mF,ByteArray.toList_eq]
     have an:((eF (Lp.eB m r (fun i=>A i q))).toList== [48])=true:=by rw[a3];rfl
     have a2:=lH h0;clear h0;go_wp2_with fail
     clear T U sk;go_roundw
     case rel=>exact⟨q+1,true,by omega,rfl,by go_num,⟨fun _=>⟨(X.o.1 rfl).1,fun j hj=>if e:j=q then(by subst e;exact a2.o) else(X.o.1 rfl).2 j oM⟩,fun _=>rfl⟩,a0.o⟩
     case measure=>exact mZ
    ·have Y:((eF (Lp.eB m r (fun i=>A i q))).toList== (⟨#[48]⟩:ByteArray).toList)=false:=by rw[<- mF];exact ut h0
     have a3:¬(eF (Lp.eB m r (fun i=>A i q))).toList= [48]:=JD h0;have an:((eF (Lp.eB m r (fun i=>A i q))).toList== [48])=false:=by simpa using a3
     have a2:=lH h0;clear h0;go_wp2_with fail
     clear T U sk;go_roundw
     case rel=>exact⟨q+1,false,by omega,rfl,by go_num,⟨fun h=>(by cases h),fun h=>absurd (h.2 q oM) a2.o⟩,a0.o⟩
     case measure=>exact mZ
  ·obtain rfl:n=q:=oM
   have T:=aI 0 F;have U:=F.o.lt;cases z2 with
   | false=>
    go_wp2_with fail
    go_returns;exact⟨.inr ⟨fun h=>(by cases X.o.2 ⟨h.du.pos,h.du.sum⟩),rfl⟩,E.o⟩
   | true=>
    go_wp2_with fail
    clear T U;refine(tO (Lp.eB m r O) M _ ak.o HK.o).mono ?_;rintro e w7 ⟨rfl,ab⟩;clear a0 SB;replace E:=bT E ab;clear ab;by_cases h0:Lp.eB m r O<0
    ·have a6:decide (sgI (Lp.eB m r O).num<0)=true:=by rw[um];exact decide_eq_true h0
     have a1:=lH h0;clear h0;go_wp2_with fail
     go_returns;exact⟨.inl ⟨⟨⟨(X.o.1 rfl).1,(X.o.1 rfl).2⟩,a1.o⟩,by first | rfl | (simp[a6])⟩,E.o⟩
    ·have a6:decide (sgI (Lp.eB m r O).num<0)=false:=by rw[um];exact decide_eq_false h0
     have a1:=lH h0;clear h0;go_wp2_with fail
     go_returns;exact⟨.inr ⟨fun h=>a1.o h.bound,by first | rfl | (simp[a6])⟩,E.o⟩
end Go.Proofs.YtdefghfjhgmpfaaGreatDoor
