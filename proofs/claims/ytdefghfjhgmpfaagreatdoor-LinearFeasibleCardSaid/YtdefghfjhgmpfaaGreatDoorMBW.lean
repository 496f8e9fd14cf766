/- Parts of this proof: LFeasible. -/
import Derived.Test.YtdefghfjhgmpfaaGreatDoorMBJ
import Derived.Test.YtdefghfjhgmpfaaGreatDoorMBV
import Derived.Test.YtdefghfjhgmpfaaGreatDoorMBY
import Derived.Test.YtdefghfjhgmpfaaGreatDoorMBS
import Derived.Test.YtdefghfjhgmpfaaGreatDoorMAZ
namespace Go.Proofs.YtdefghfjhgmpfaaGreatDoor
open Go.Proofs.Tryz
open Go.RowKit
open Lp (RL upd eu)
set_option maxRecDepth 100000 in
set_option maxHeartbeats 12800000 in
theorem JY(v:Int)(vr:Value)(m:Nat)(k:Nat -> Nat)(t:Nat -> Nat -> ByteArray)(b:Nat -> ByteArray)(w:World)(T:TRA w vr m k t b)(hg:iG w)(ht:Tab w):
  Calls prog 4 #[.int .i64 v,vr] w fun e w'=>e= .returned (.bool true) /\ Below w.heap.size w w':=by
 obtain⟨AR,cR,rfl,_,_⟩:=T.kG.shape;have HR:=lH T;have ag:=lH hg;have ai:=lH ht;clear T hg ht;go_enter func4,ntmps4;go_wp2_with fail
 refine(pW _ ag.o ai.o).mono ?_;rintro e w1 ⟨rfl,C⟩;have r:=lH C;clear C;go_wp2_with fail
 refine(Cz 8 _ m k t b _ (HR.o.kG.below r.o)).mono ?_;rintro e w2 ⟨an,C⟩;replace r:=bT r C;clear C
 rcases an with ⟨an,rfl⟩ | ⟨_,rfl⟩
 ·have ae:=lH an.1;have aa:Hid (∀i,i<m -> rz (k i) (t i) (b i)):=lH (fun i G=>an.2 i G);clear an;have HF:Hid (RowsFit m k t b):=lH ⟨by have:=ae.o;omega,fun i G j hj=>by have:=(aa.o i G).2.1 j hj;omega,fun i G=>by have:=(aa.o i G).2.2;omega⟩;by_cases h6:v <= 6
  ·have hd:decide (6<v)=false:=decide_eq_false oM;have H6:=lH h6;clear h6;go_wp2_with fail
   clear hd;refine(CF v AR m cR k t b _ (HR.o.kG.below r.o) HF.o).mono ?_;rintro e w3 ⟨T,C⟩;replace r:=bT r C;clear C;obtain⟨AO,nO,cO,A4,m4,c4,rfl,hz⟩:=T.cases;have HZ:=lH hz;clear T hz;obtain⟨E,hE⟩:=eX (jF v m k t b);rw[<- hE];have HE:=lH hE;clear hE;obtain⟨w4,F⟩:=eX (w3.alloc (.cells #[.slice AO nO cO, .slice A4 m4 c4] 25));obtain⟨gP,R⟩:=eX (w3.heap.size);have M:Below w3.heap.size w3 w4:=by rw[F];exact eD _ _
   have PB:Hid (Row w4 gP 25 [.slice AO nO cO, .slice A4 m4 c4]):=lH (by rw[F,R];exact eP _ _);replace r:=bT r M;replace HZ:Hid (E=0 -> nO=v.toNat /\ A4=AR /\ m4=m /\ c4=cR /\ fH w4 (.slice AO nO cO) nO (fun _=>⟨#[48]⟩) /\ (0 <= v /\ v <= 96) /\ fD v.toNat m k (fun _=>⟨#[48]⟩) t b=0):=lH (fun h=>by obtain⟨a1,a2,a3,a4,a5,a6,a7⟩:=HZ.o (by rw[<- HE.o];exact h);exact⟨a1,a2,a3,a4,eY.below a5 M,a6,a7⟩);clear M;go_wp2_with fail
   rw[<- F, <- R];clear F R;refine(vX none AR 0 m 0 cR k (fun _=>⟨#[]⟩) t b _ ⟨⟨_,_,rfl,Nat.le_refl _,Nat.zero_le _, .inl rfl⟩, .inl ⟨rfl,rfl⟩⟩ (HR.o.below r.o) dC (by have:=ae.o;omega) (fun i G=>by have:=(aa.o i G).1;omega)).mono ?_;rintro e w5 ⟨vc,uc,rfl,am,ad,C⟩;obtain⟨Av,cv,rfl,_,_⟩:=eY.shape am;clear am;replace HZ:=lH (fun h=>by obtain⟨a1,a2,a3,a4,a5,a6,a7⟩:=HZ.o h;exact And.intro a1 (And.intro a2 (And.intro a3 (And.intro a4 (And.intro (eY.below a5 C) (And.intro a6 a7))))));replace PB:=rW PB C;replace r:=bT r C;clear C;obtain⟨ab,ac,rfl,_,_⟩:=ad.shape;have aj:=lH ad.kG;clear ad;have ay:∀w:World,(Instr.field 25 (.agg #[.slice Av 0 cv, .slice ab m ac]) 1).run prog w= .ok (.slice ab m ac) w:=fun _=>by kernel_rfl
   go_wp2_with fail
   clear ay;refine(CG v ab m ac k t b 12 _ aj.o HF.o dC (fun _=>by have:=CO ae.o (show v.toNat <= 6 by have:=H6.o;omega);omega) (fun i G=>(aa.o i G).2.1) (fun i G=>(aa.o i G).2.2) (ai.o.below r.o) (ag.o.below r.o)).mono ?_;rintro e Y ⟨T,C⟩;replace HZ:=lH (fun h=>by obtain⟨a1,a2,a3,a4,a5,a6,a7⟩:=HZ.o h;exact And.intro a1 (And.intro a2 (And.intro a3 (And.intro a4 (And.intro (eY.below a5 C) (And.intro a6 a7))))));replace PB:=rW PB C;replace r:=bT r C;clear C;clear aj;unfold wW at T;rw[<- HE.o] at T
   rcases T with ⟨h0,rfl⟩ | ⟨h0,A,bq,c,V,ap,hv,rfl⟩
   ·have af:=lH h0;clear h0;obtain⟨w7,F⟩:=eX (Y.alloc (.cells #[.int .i64 0, .string ⟨#[]⟩, .slice none 0 0, .slice none 0 0, .slice none 0 0] 32));obtain⟨gO,R⟩:=eX (Y.heap.size);have M:Below Y.heap.size Y w7:=by rw[F];exact eD _ _
    have U:Hid (Row w7 gO 32 [.int .i64 0, .string ⟨#[]⟩, .slice none 0 0, .slice none 0 0, .slice none 0 0]):=lH (by rw[F,R];exact eP _ _);replace r:=bT r M;have al:((E:Nat):Int)≠0:=by have:=af.o;omega
    have au:(((E:Nat):Int) !=0)=true:=by simpa using al
    have aw:(E !=0)=true:=by have:=af.o;simpa using this
    have av:(((E:Nat):Int) != ((E:Nat):Int))=false:=by simp
    obtain⟨W,Z,a0,a8,a9⟩:=aT5 U.o;have X:=U.o.lt;rw[F] at W Z a0 a8 a9 X;rw[R] at W Z a0 a8 a9 X;go_wp2_with fail
    rw[<- F];clear F R M al au aw av W Z a0 a8 a9 X;refine(CJ _).mono ?_;rintro e w8 ⟨rfl,C⟩;replace r:=bT r C;clear C;go_wp2_with fail
    go_returns;exact⟨rfl,r.o⟩
   ·subst h0;obtain⟨e1,e2,e3,e4,aH,aU,aB⟩:=HZ.o rfl;subst nO;subst A4;subst m4;subst c4;obtain⟨O,hO,aE,aA,aK,aD,q,x,y,d,az,aC⟩:=hv.tx;obtain⟨AP,cP,AY,cY,AD,cD,rfl,hp,hy,hd⟩:=hO.shape;have aP:Hid (O.Fit 12589):=lH (aE.mono (CO ae.o (show v.toNat <= 6 by have:=H6.o;omega)));have aQ:=lH aA;have ao:=lH aK;have aR:=lH (JX ap aA az aC);have HP:=lH hp;have HY:=lH hy;have HD:=lH hd;have aq:=lH (fH.ts aH);have ah:=lH (mo aB);have aT:=lH aB;have aS:Hid (∀ar:Nat,ou v.toNat m k (fun _=>⟨#[48]⟩) t b O ar -> ar=0):=lH (fun ar h=>Ci h aT.o aQ.o ao.o aD ap az aC);clear hv hO aE aA aK ap az aC hp hy hd aD aH aU aB HZ HE;obtain⟨w7,F⟩:=eX (Y.alloc (.cells #[.int .i64 O.kk, .string O.s, .slice AP O.np cP, .slice AY O.ny cY, .slice AD O.nd cD] 32));obtain⟨gO,R⟩:=eX (Y.heap.size);have M:Below Y.heap.size Y w7:=by rw[F];exact eD _ _
    have U:Hid (Row w7 gO 32 [.int .i64 O.kk, .string O.s, .slice AP O.np cP, .slice AY O.ny cY, .slice AD O.nd cD]):=lH (by rw[F,R];exact eP _ _);replace PB:=rW PB M;replace HP:=lH (HP.o.below M);replace HY:=lH (HY.o.below M);replace HD:=lH (HD.o.below M);replace aq:=lH (aq.o.below M);replace r:=bT r M;obtain⟨W,Z,a0,a8,a9⟩:=aT5 U.o;have X:=U.o.lt;obtain⟨aM,aN⟩:=aT2 PB.o;have aO:=PB.o.lt;rw[F] at W Z a0 a8 a9 X aM aN aO;rw[R] at W Z a0 a8 a9 X;go_wp2_with fail
    rw[<- F, <- R];clear F R M W Z a0 a8 a9 X aM aN aO;refine(wO AO AR v.toNat m cO cR k (fun _=>⟨#[48]⟩) t b 12 12589 250000 O AP AY AD cP cY cD _ aq.o (HR.o.kG.below r.o) (by have:=ah.o.1;omega) (by have:=ah.o.2.1;omega) (fun j _=>by show 1 <= 12;decide) (fun i G=>(aa.o i G).2.1) (fun i G=>(aa.o i G).2.2) dC dC HP.o HY.o HD.o ⟨by have:=(q8 ao.o).1;have:=ah.o.1;omega,by have:=(q8 ao.o).2.1;have:=ah.o.2.1;omega,by have:=(q8 ao.o).2.2;have:=ah.o.1;omega⟩ aP.o ⟨by have:=ae.o;have:=H6.o;omega,by decide,by decide⟩ dC).mono ?_;rintro e w8 ⟨⟨c1,rfl,aL⟩,C⟩;replace U:=rW U C;replace r:=bT r C;clear C;obtain rfl:=aS.o _ aL;clear aL
    rcases aR.o with ⟨aF,aJ⟩ | aG
    ·rw[aF,aJ] at U;clear aF aJ;obtain⟨W,Z⟩:=aT2 U.o;have X:=U.o.lt;go_wp2_with fail
     go_returns;exact⟨rfl,r.o⟩
    ·rw[aG] at U;clear aG;have W:=aI 0 U;have X:=U.o.lt;go_wp2_with fail
     go_returns;exact⟨rfl,r.o⟩
  ·by_cases ak:v <= 96
   ·have hd:decide (6<v)=true:=decide_eq_true oM;have ax:decide (v <= 96)=true:=decide_eq_true ak;clear h6 ak;go_wp2_with fail
    clear hd ax;refine(pW _ (ag.o.below r.o) (ai.o.below r.o)).mono ?_;rintro e wk ⟨rfl,C⟩;replace r:=bT r C;clear C;go_wp2_with fail
    go_returns;exact⟨rfl,r.o⟩
   ·have hd:decide (6<v)=true:=decide_eq_true oM;have ax:decide (v <= 96)=false:=decide_eq_false ak;have H6:=lH ak;clear h6 ak;go_wp2_with fail
    clear hd ax;refine(CF v AR m cR k t b _ (HR.o.kG.below r.o) HF.o).mono ?_;rintro e w3 ⟨T,C⟩;replace r:=bT r C;clear C;obtain⟨AO,nO,cO,A4,m4,c4,rfl,hz⟩:=T.cases;have HZ:=lH hz;clear T hz;obtain⟨E,hE⟩:=eX (jF v m k t b);rw[<- hE];have HE:=lH hE;clear hE;obtain⟨w4,F⟩:=eX (w3.alloc (.cells #[.slice AO nO cO, .slice A4 m4 c4] 25));obtain⟨gP,R⟩:=eX (w3.heap.size);have M:Below w3.heap.size w3 w4:=by rw[F];exact eD _ _
    have PB:Hid (Row w4 gP 25 [.slice AO nO cO, .slice A4 m4 c4]):=lH (by rw[F,R];exact eP _ _);replace r:=bT r M;clear HZ;clear M;go_wp2_with fail
    rw[<- F, <- R];clear F R;refine(vX none AR 0 m 0 cR k (fun _=>⟨#[]⟩) t b _ ⟨⟨_,_,rfl,Nat.le_refl _,Nat.zero_le _, .inl rfl⟩, .inl ⟨rfl,rfl⟩⟩ (HR.o.below r.o) dC (by have:=ae.o;omega) (fun i G=>by have:=(aa.o i G).1;omega)).mono ?_;rintro e w5 ⟨vc,uc,rfl,am,ad,C⟩;obtain⟨Av,cv,rfl,_,_⟩:=eY.shape am;clear am;replace r:=bT r C;clear C;obtain⟨ab,ac,rfl,_,_⟩:=ad.shape;have aj:=lH ad.kG;clear ad;have ay:∀w:World,(Instr.field 25 (.agg #[.slice Av 0 cv, .slice ab m ac]) 1).run prog w= .ok (.slice ab m ac) w:=fun _=>by kernel_rfl
    go_wp2_with fail
    clear ay;refine(CG v ab m ac k t b 12 _ aj.o HF.o dC (fun h=>absurd h (by unfold jF;rw[if_pos (by have:=H6.o;omega)];decide)) (fun i G=>(aa.o i G).2.1) (fun i G=>(aa.o i G).2.2) (ai.o.below r.o) (ag.o.below r.o)).mono ?_;rintro e Y ⟨T,C⟩;replace r:=bT r C;clear C;clear aj;unfold wW at T;rw[<- HE.o] at T
    rcases T with ⟨h0,rfl⟩ | ⟨h0,A,bq,c,V,ap,hv,rfl⟩
    ·have af:=lH h0;clear h0;obtain⟨w7,F⟩:=eX (Y.alloc (.cells #[.int .i64 0, .string ⟨#[]⟩, .slice none 0 0, .slice none 0 0, .slice none 0 0] 32));obtain⟨gO,R⟩:=eX (Y.heap.size);have M:Below Y.heap.size Y w7:=by rw[F];exact eD _ _
     have U:Hid (Row w7 gO 32 [.int .i64 0, .string ⟨#[]⟩, .slice none 0 0, .slice none 0 0, .slice none 0 0]):=lH (by rw[F,R];exact eP _ _);replace r:=bT r M;have al:((E:Nat):Int)≠0:=by have:=af.o;omega
     have au:(((E:Nat):Int) !=0)=true:=by simpa using al
     have aw:(E !=0)=true:=by have:=af.o;simpa using this
     have av:(((E:Nat):Int) != ((E:Nat):Int))=false:=by simp
     obtain⟨W,Z,a0,a8,a9⟩:=aT5 U.o;have X:=U.o.lt;rw[F] at W Z a0 a8 a9 X;rw[R] at W Z a0 a8 a9 X;go_wp2_with fail
     rw[<- F];clear F R M al au aw av W Z a0 a8 a9 X;refine(CJ _).mono ?_;rintro e w8 ⟨rfl,C⟩;replace r:=bT r C;clear C;go_wp2_with fail
     go_returns;exact⟨rfl,r.o⟩
    ·exact absurd (HE.o.symm.trans h0) (by unfold jF;rw[if_pos (by have:=H6.o;omega)];decide)
 ·go_wp2_with fail
  refine(pW _ (ag.o.below r.o) (ai.o.below r.o)).mono ?_;rintro e wk ⟨rfl,C⟩;replace r:=bT r C;clear C;go_wp2_with fail
  go_returns;exact⟨rfl,r.o⟩
end Go.Proofs.YtdefghfjhgmpfaaGreatDoor
