/- Parts of this proof: LVer. -/
import Derived.Test.YtdefghfjhgmpfaaGreatDoorMBL
import Derived.Test.YtdefghfjhgmpfaaGreatDoorMBN
import Derived.Test.YtdefghfjhgmpfaaGreatDoorMBK
import Derived.Test.YtdefghfjhgmpfaaGreatDoorMBB
import Derived.Test.YtdefghfjhgmpfaaGreatDoorMCH
namespace Go.Proofs.YtdefghfjhgmpfaaGreatDoor
open Go.Proofs.Tryz
open Go.RowKit
open Lp (RL upd eu)
theorem Jv(r:Int)(s:ByteArray)(O R M:Option Addr)(F G E U V T n m:Nat)(w:World)(W:1 <= r /\ r <= 3):
  Calls prog 89 #[.agg #[.int .i64 r, .string s, .slice O F U, .slice R G V, .slice M E T], .int .i64 n, .int .i64 m] w fun e w'=>
   (((F=(if r=2 then 0 else n) /\ G=(if r=3 then 0 else m) /\ E=(if r=3 then n else 0) /\ (r=1 \/ s=⟨#[]⟩)) /\ e= .returned (.int .i64 0)) \/ (¬(F=(if r=2 then 0 else n) /\ G=(if r=3 then 0 else m) /\ E=(if r=3 then n else 0) /\ (r=1 \/ s=⟨#[]⟩)) /\ e= .returned (.int .i64 13))) /\ Below w.heap.size w w':=by
 obtain rfl | rfl | rfl:r=1 \/ r=2 \/ r=3:=oM
 ·refine(Ji s O R M F G E U V T n m w).mono ?_;rintro e w' ⟨⟨h,t⟩ | ⟨h,t⟩,C⟩
  ·exact⟨.inl ⟨⟨h.1,h.2.1,h.2.2, .inl rfl⟩,t⟩,C⟩
  ·exact⟨.inr ⟨fun x=>h ⟨x.1,x.2.1,x.2.2.1⟩,t⟩,C⟩
 ·refine(Jj s O R M F G E U V T n m w).mono ?_;rintro e w' ⟨⟨h,t⟩ | ⟨h,t⟩,C⟩
  ·exact⟨.inl ⟨⟨h.1.1,h.1.2.1,h.1.2.2, .inr h.2⟩,t⟩,C⟩
  ·exact⟨.inr ⟨fun x=>h ⟨⟨x.1,x.2.1,x.2.2.1⟩,x.2.2.2.resolve_left dC⟩,t⟩,C⟩
 ·refine(Jk s O R M F G E U V T n m w).mono ?_;rintro e w' ⟨⟨h,t⟩ | ⟨h,t⟩,C⟩
  ·exact⟨.inl ⟨⟨h.1.1,h.1.2.1,h.1.2.2, .inr h.2⟩,t⟩,C⟩
  ·exact⟨.inr ⟨fun x=>h ⟨⟨x.1,x.2.1,x.2.2.1⟩,x.2.2.2.resolve_left dC⟩,t⟩,C⟩
set_option maxRecDepth 100000 in
theorem Jw(O T R:Option Addr)(n m W Y X:Nat)(A:Nat -> Nat -> Rat)(E c:Nat -> Rat)(r:Int)(sv:Bool)(U:Option Addr)(lv Z:Nat)(tv:Bool)(V:Option Addr)(mv dv:Nat)(v5 v6 v7:Value)(G M F:Nat)(val:Rat)(x y d:Nat -> Rat)(w:World)
  (hC:eZ w (.slice O n W) n c) (hA:iD w (.slice T m Y) m n A) (hD:eZ w (.slice R m X) m E) (hk:1 <= r /\ r <= 3) (hS:G=(if r=2 then 0 else n) /\ M=(if r=3 then 0 else m) /\ F=(if r=3 then n else 0))
  (hv:r=1 -> eO w (.agg #[.bool sv, .slice U lv Z, .bool tv, .slice V mv dv]) val /\ RL 65536 val) (h5:eZ w v5 G x) (h6:eZ w v6 M y) (h7:eZ w v7 F d) (hn:n <= 96) (hm:m <= 256)
  (a0:∀i,i<m -> ∀j,j<n -> RL 65536 (A i j)) (a1:∀i,i<m -> RL 65536 (E i)) (a2:∀j,j<n -> RL 65536 (c j)) (a3:∀j,j<G -> RL 65536 (x j)) (a4:∀j,j<M -> RL 65536 (y j)) (a5:∀j,j<F -> RL 65536 (d j)):
  Calls prog 91 #[.agg #[.slice O n W, .slice T m Y, .slice R m X], .agg #[.int .i64 r, .bool sv, .slice U lv Z, .bool tv, .slice V mv dv,v5,v6,v7]] w fun e w'=>((kI m n r A E c val x y d /\ e= .returned (.bool true)) \/ (¬kI m n r A E c val x y d /\ e= .returned (.bool false))) /\ Below w.heap.size w w':=by
 obtain⟨A5,c5,rfl,_,_⟩:=h5.shape;obtain⟨A6,c6,rfl,_,_⟩:=h6.shape;obtain⟨A7,c7,rfl,_,_⟩:=h7.shape;have hK:1+ (m+n)* (65536+65536+1) <= 100000000000 /\ 65536 <= 100000000000:=⟨by omega,by decide⟩;obtain⟨s1,s2,s3⟩:=hS;obtain rfl | rfl | rfl:r=1 \/ r=2 \/ r=3:=oM
 ·rw[if_neg dC] at s1 s2 s3;subst G;subst M;subst F;refine(Js O T R A5 A6 A7 n m W Y X c5 c6 c7 65536 A E c x y val sv U lv Z tv V mv dv w hC hA hD (hv rfl).1 h5 h6 oM oM a0 a1 a2 a3 a4 (hv rfl).2 hK).mono ?_;rintro e w' ⟨⟨h,t⟩ | ⟨h,t⟩,C⟩
  ·exact⟨.inl ⟨⟨fun _=>h,fun z=>absurd z dC,fun z=>absurd z dC⟩,t⟩,C⟩
  ·exact⟨.inr ⟨fun z=>h (z.1 rfl),t⟩,C⟩
 ·rw[if_pos rfl] at s1;rw[if_neg dC] at s2 s3;subst G;subst M;subst F;refine(Jt O T R A5 A6 A7 n m W Y X c5 c6 c7 65536 A E c y sv U lv Z tv V mv dv w hC hA hD h6 oM oM a0 a1 a2 a4 hK dC).mono ?_;rintro e w' ⟨⟨h,t⟩ | ⟨h,t⟩,C⟩
  ·exact⟨.inl ⟨⟨fun z=>absurd z dC,fun _=>h,fun z=>absurd z dC⟩,t⟩,C⟩
  ·exact⟨.inr ⟨fun z=>h (z.2.1 rfl),t⟩,C⟩
 ·rw[if_neg dC] at s1;rw[if_pos rfl] at s2 s3;subst G;subst M;subst F;refine(Ju O T R A5 A6 A7 n m W Y X c5 c6 c7 65536 A E c x d sv U lv Z tv V mv dv w hC hA hD h5 h7 oM oM a0 a1 a2 a3 a5 hK).mono ?_;rintro e w' ⟨⟨h,t⟩ | ⟨h,t⟩,C⟩
  ·exact⟨.inl ⟨⟨fun z=>absurd z dC,fun z=>absurd z dC,fun _=>h⟩,t⟩,C⟩
  ·exact⟨.inr ⟨fun z=>h (z.2.2 rfl),t⟩,C⟩
set_option maxRecDepth 100000 in
set_option maxHeartbeats 6400000 in
theorem Jy(AO AR:Option Addr)(n m cO cR:Nat)(k:Nat -> Nat)(o:Nat -> ByteArray)(t:Nat -> Nat -> ByteArray)(b:Nat -> ByteArray)(O:OTx)(AP AY AD:Option Addr)(cP cY cD:Nat)(w:World)(ho:TS w (.slice AO n cO) n o)(hr:fZ w (.slice AR m cR) m k t b)(hn:n <= 1000000000)(hm:m <= 1000000000)
  (ai:∀j,j<n -> (o j).size <= 65536) (aj:∀i,i<m -> ∀j,j<k i -> (t i j).size <= 65536) (ah:∀i,i<m -> (b i).size <= 65536) (T:TS w (.slice AP O.np cP) O.np O.p) (hy:TS w (.slice AY O.ny cY) O.ny O.y) (hd:TS w (.slice AD O.nd cD) O.nd O.d) (hN:O.np <= 1000000000 /\ O.ny <= 1000000000 /\ O.nd <= 1000000000) (hf:O.Fit 65536) (hg:iG w):
  Calls prog 54 #[.agg #[.slice AO n cO, .slice AR m cR], .agg #[.int .i64 O.kk, .string O.s, .slice AP O.np cP, .slice AY O.ny cY, .slice AD O.nd cD]] w fun e w'=>pX n m k o t b O e /\ Below w.heap.size w w':=by
 have ak:=lH (wm AO AR n m cO cR k o t b);have HO:=lH ho;have HR:=lH hr;have HS:=lH (And.intro ai (And.intro aj ah));have HP:=lH T;have HY:=lH hy;have HD:=lH hd;have HN:=lH hN;have HF:=lH hf;have ac:=lH hg;clear ho hr ai aj ah T hy hd hN hf hg;obtain⟨W,hW,PB,F,r⟩:=eN2 w [.slice AO n cO, .slice AR m cR] 25 [.int .i64 O.kk, .string O.s, .slice AP O.np cP, .slice AY O.ny cY, .slice AD O.nd cD] 32;go_enter func54,ntmps54;obtain⟨p0,p1⟩:=aT2 PB.o;have pl:=PB.o.lt;rw[hW] at p0 p1 pl;go_wp2_with fail
 rw[<- hW];clear hW p0 p1 pl;refine(ak.o _ (HO.o.below r.o) (HR.o.below r.o) hn hm HS.o.1 HS.o.2.1 HS.o.2.2 (ac.o.below r.o)).mono ?_;rintro e w1 ⟨hr,a9⟩;replace F:=rW F a9;replace r:=bT r a9;clear a9 PB
 rcases hr with ⟨h0,rfl⟩ | ⟨h0,AC,AS,AE,cC,cS,cE,A,bq,c,rfl,hc,hA,hE,hP,_⟩
 ·obtain⟨Y,a1⟩:=eX (fD n m k o t b);rw[<- a1] at h0 ⊢;have aa:((Y:Nat):Int)≠0:=oM
  have al:(((Y:Nat):Int) !=0)=true:=by simpa using aa
  have am:(Y !=0)=true:=by simpa using h0
  have a5:=lH h0;have a3:=lH a1;clear h0 a1;obtain⟨w2,E⟩:=eX (w1.alloc (.cells #[.slice none 0 0, .slice none 0 0, .slice none 0 0] 98));obtain⟨gQ,G⟩:=eX (w1.heap.size);have C:Below w1.heap.size w1 w2:=by rw[E];exact eD _ _
  have M:Hid (Row w2 gQ 98 [.slice none 0 0, .slice none 0 0, .slice none 0 0]):=lH (by rw[E,G];exact eP _ _);replace r:=bT r C;go_wp2_with fail
  rw[<- E];clear E C G;go_returns;exact⟨⟨Y,rfl, .inl ⟨by rw[<- a3.o];exact a5.o,a3.o⟩⟩,r.o⟩
 ·have Z:=lH h0;have a7:=lH hP;have V:=lH hc;have U:=lH hA;have X:=lH hE;clear h0 hP hc hA hE;obtain⟨w2,E⟩:=eX (w1.alloc (.cells #[.slice AC n cC, .slice AS m cS, .slice AE m cE] 98));obtain⟨gQ,G⟩:=eX (w1.heap.size);have C:Below w1.heap.size w1 w2:=by rw[E];exact eD _ _
  have M:Hid (Row w2 gQ 98 [.slice AC n cC, .slice AS m cS, .slice AE m cE]):=lH (by rw[E,G];exact eP _ _);replace F:=rW F C;replace r:=bT r C;replace V:=lH (V.o.below C);replace U:=lH (U.o.below C);replace X:=lH (X.o.below C)
  go_upto_region 4 with (fail)
  rw[<- E, <- G];clear E C G;by_cases hk:O.kk<1
  ·have ab:decide (O.kk<1)=true:=decide_eq_true hk;have R:=lH hk;clear hk;have o0:=aI 0 F;have ol:=F.o.lt;go_wp2_with fail
   clear o0 ol;go_returns;exact⟨⟨12,rfl, .inr ⟨Z.o, .inl ⟨.inl R.o,rfl⟩⟩⟩,r.o⟩
  ·by_cases a4:3<O.kk
   ·have ab:decide (O.kk<1)=false:=decide_eq_false hk;have ag:decide (3<O.kk)=true:=decide_eq_true a4;have R:=lH a4;clear hk a4;have o0:=aI 0 F;have ol:=F.o.lt;go_wp2_with fail
    clear o0 ol;go_returns;exact⟨⟨12,rfl, .inr ⟨Z.o, .inl ⟨.inr R.o,rfl⟩⟩⟩,r.o⟩
   ·have ab:decide (O.kk<1)=false:=decide_eq_false hk;have ag:decide (3<O.kk)=false:=decide_eq_false a4;have R:Hid (1 <= O.kk /\ O.kk <= 3):=lH ⟨by omega,by omega⟩;clear hk a4;obtain⟨o0,o1,o2,o3,o4⟩:=aT5 F.o;have ol:=F.o.lt;obtain⟨q0,q1⟩:=aT2 M.o;have ql:=M.o.lt;go_wp2_with fail
    clear ab ag o0 o1 o2 o3 o4 ol q0 q1 ql;refine(Jv O.kk O.s AP AY AD O.np O.ny O.nd cP cY cD n m _ R.o).mono ?_;rintro e w3 ⟨hs,a0⟩;replace F:=rW F a0;replace M:=rW M a0;replace V:=lH (V.o.below a0);replace U:=lH (U.o.below a0);replace X:=lH (X.o.below a0);replace r:=bT r a0;clear a0
    rcases hs with ⟨hs,rfl⟩ | ⟨hs,rfl⟩
    ·have HZ:Hid (O.iE n m):=lH hs;clear hs;obtain⟨o0,o1,o2,o3,o4⟩:=aT5 F.o;have ol:=F.o.lt;go_wp2_with fail
     clear o0 o1 o2 o3 o4 ol;refine(Jo O AP AY AD cP cY cD _ (HP.o.below r.o) (HY.o.below r.o) (HD.o.below r.o) HN.o HF.o (ac.o.below r.o)).mono ?_;rintro e w4 ⟨hr,a2⟩;replace M:=rW M a2;replace V:=lH (V.o.below a2);replace U:=lH (U.o.below a2);replace X:=lH (X.o.below a2);replace r:=bT r a2;clear a2
     rcases hr with ⟨h0,sv,Av,lv,cv,tv,Bv,mv,dv,A5,n5,c5,A6,n6,c6,A7,n7,c7,rfl⟩ | ⟨h0,sv,Av,lv,cv,tv,Bv,mv,dv,v5,v6,v7,val,rfl,hv,⟨x,h5,hx⟩,⟨y,h6,hy⟩,⟨d,h7,hd⟩⟩
     ·obtain⟨Y,a1⟩:=eX (O.err);rw[<- a1] at h0 ⊢;have aa:((Y:Nat):Int)≠0:=oM
      have al:(((Y:Nat):Int) !=0)=true:=by simpa using aa
      have am:(Y !=0)=true:=by simpa using h0
      have a5:=lH h0;have a3:=lH a1;clear h0 a1;obtain⟨w5,E⟩:=eX (w4.alloc (.cells #[.int .i64 O.kk, .bool sv, .slice Av lv cv, .bool tv, .slice Bv mv dv, .slice A5 n5 c5, .slice A6 n6 c6, .slice A7 n7 c7] 107));obtain⟨gX,G⟩:=eX (w4.heap.size);have C:Below w4.heap.size w4 w5:=by rw[E];exact eD _ _
      have XB:Hid (Row w5 gX 107 [.int .i64 O.kk, .bool sv, .slice Av lv cv, .bool tv, .slice Bv mv dv, .slice A5 n5 c5, .slice A6 n6 c6, .slice A7 n7 c7]):=lH (by rw[E,G];exact eP _ _);replace r:=bT r C;go_wp2_with fail
      rw[<- E];clear E C G;go_returns;exact⟨⟨Y,rfl, .inr ⟨Z.o, .inr ⟨R.o, .inr ⟨HZ.o, .inl ⟨by rw[<- a3.o];exact a5.o,a3.o⟩⟩⟩⟩⟩,r.o⟩
     ·have ae:=lH h0;have HV:=lH hv;have H5:=lH h5;have H6:=lH h6;have H7:=lH h7;have HI:Hid (O.Is val x y d):=lH ⟨fun h=>(hv h).2,hx,hy,hd⟩;clear h0 hv h5 h6 h7 hx hy hd;obtain⟨A5,c5,rfl,_,_⟩:=H5.o.shape;obtain⟨A6,c6,rfl,_,_⟩:=H6.o.shape;obtain⟨A7,c7,rfl,_,_⟩:=H7.o.shape;obtain⟨w5,E⟩:=eX (w4.alloc (.cells #[.int .i64 O.kk, .bool sv, .slice Av lv cv, .bool tv, .slice Bv mv dv, .slice A5 O.np c5, .slice A6 O.ny c6, .slice A7 O.nd c7] 107));obtain⟨gX,G⟩:=eX (w4.heap.size);have C:Below w4.heap.size w4 w5:=by rw[E];exact eD _ _
      have XB:Hid (Row w5 gX 107 [.int .i64 O.kk, .bool sv, .slice Av lv cv, .bool tv, .slice Bv mv dv, .slice A5 O.np c5, .slice A6 O.ny c6, .slice A7 O.nd c7]):=lH (by rw[E,G];exact eP _ _);replace M:=rW M C;replace V:=lH (V.o.below C);replace U:=lH (U.o.below C);replace X:=lH (X.o.below C);replace H5:=lH (H5.o.below C);replace H6:=lH (H6.o.below C);replace H7:=lH (H7.o.below C);replace r:=bT r C;replace HV:=lH (fun h=>And.intro ((HV.o h).1.below C) (HV.o h).2)
      go_upto_region 12 with (fail)
      rw[<- E, <- G];clear E C G;obtain⟨q0,q1,q2⟩:=aT3 M.o;obtain⟨x0,x1,x2,x3,x4,x5,x6,x7⟩:=aT8 XB.o;have ql:=M.o.lt;have xl:=XB.o.lt;go_wp2_with fail
      clear q0 q1 q2 ql xl x0 x1 x2 x3 x4 x5 x6 x7;have a6:=lH (pO Z.o a7.o HS.o.1 HS.o.2.1 HS.o.2.2);have ad:=lH (mo Z.o);refine(Jw AC AS AE n m cC cS cE A bq c O.kk sv Av lv cv tv Bv mv dv _ _ _ O.np O.ny O.nd val x y d _ V.o U.o X.o R.o ⟨HZ.o.1,HZ.o.2.1,HZ.o.2.2.1⟩ (fun h=>⟨(HV.o h).1,iU (HV.o h).2 HF.o.1⟩) H5.o H6.o H7.o ad.o.1 ad.o.2.1 a6.o.2.1 a6.o.2.2 a6.o.1 (fun j hj=>iU (HI.o.pt j hj) (HF.o.2.1 j hj)) (fun j hj=>iU (HI.o.du j hj) (HF.o.2.2.1 j hj)) (fun j hj=>iU (HI.o.ray j hj) (HF.o.2.2.2 j hj))).mono ?_;rintro e w6 ⟨T,af⟩;replace r:=bT r af;clear af
      rcases T with ⟨T,rfl⟩ | ⟨T,rfl⟩
      ·have a8:=lH T;clear T;go_wp2_with fail
       go_returns;exact⟨⟨0,rfl, .inr ⟨Z.o, .inr ⟨R.o, .inr ⟨HZ.o, .inr ⟨ae.o,A,bq,c,val,x,y,d,a7.o,HI.o, .inl ⟨a8.o,rfl⟩⟩⟩⟩⟩⟩,r.o⟩
      ·have a8:=lH T;clear T;go_wp2_with fail
       go_returns;exact⟨⟨27,rfl, .inr ⟨Z.o, .inr ⟨R.o, .inr ⟨HZ.o, .inr ⟨ae.o,A,bq,c,val,x,y,d,a7.o,HI.o, .inr ⟨a8.o,rfl⟩⟩⟩⟩⟩⟩,r.o⟩
    ·have HZ:=lH hs;clear hs;go_wp2_with fail
     go_returns;exact⟨⟨13,rfl, .inr ⟨Z.o, .inr ⟨R.o, .inl ⟨HZ.o,rfl⟩⟩⟩⟩,r.o⟩
end Go.Proofs.YtdefghfjhgmpfaaGreatDoor
