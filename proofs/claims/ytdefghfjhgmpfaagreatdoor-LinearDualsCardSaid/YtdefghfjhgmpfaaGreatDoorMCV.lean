/- Parts of this proof: LDuals. -/
import Derived.Test.YtdefghfjhgmpfaaGreatDoorMAE
import Derived.Test.YtdefghfjhgmpfaaGreatDoorMBJ
import Derived.Test.YtdefghfjhgmpfaaGreatDoorMCU
import Derived.Test.YtdefghfjhgmpfaaGreatDoorMBV
import Derived.Test.YtdefghfjhgmpfaaGreatDoorMBS
import Derived.Test.YtdefghfjhgmpfaaGreatDoorMAZ
import Derived.Test.YtdefghfjhgmpfaaGreatDoorMBY
import Derived.Test.YtdefghfjhgmpfaaGreatDoorMBQ
namespace Go.Proofs.YtdefghfjhgmpfaaGreatDoor
open Go.Proofs.Tryz
open Go.RowKit
open Lp (RL upd eu)
theorem Nj{m n:Nat}(t:m <= 5):2* (Lp.wide (2*n+m) m 13+1)+5 <= 6049:=by
 have h:=Lp.yY (m:=2*n+m) (n:=m) (k:=13) (p:=5) (N:=5) (K:=13) oM t (Nat.le_refl _);have E:Lp.wb 5 (13* (5+2))+13* (5+1)=3021:=dC
 omega
theorem Nk(z:Int):(Lib.itoa (-z)).length <= (Lib.itoa z).length+1:=by
 by_cases h:z<0
 ·rw[itoa_neg h,iW oM,Int.natAbs_neg,List.length_cons];omega
 ·by_cases t: -z<0
  ·rw[itoa_neg t,iW h,Int.natAbs_neg,List.length_cons];omega
  ·rw[iW t,iW h,Int.natAbs_neg];omega
theorem MU(q:Rat):(eF (-q)).size <= (eF q).size+1:=by
 rw[Iw,Iw,jI,jI];unfold fA;rw[Rat.neg_den,Rat.neg_num];have:=Nk q.num;split
 ·exact this
 ·simp only[List.length_append,List.length_cons];omega
theorem Nl(n m:Nat)(A:Nat -> Nat -> Rat)(bq c:Nat -> Rat)(t:m <= 96)(E:2*n+m <= 256):fD m (2*n+m) (fun _=>m) (fun i=>eF (-(bq i))) (duT n A) (duU n c)=0:=by
 unfold fD;rw[if_neg oM,if_neg (fun h=>h (fun _ _=>rfl)),vY m (fun i=> -(bq i)),if_neg (by simp)];refine kF.2 fun r _=> ?_
 unfold iw;rw[show(fun j=>sE (duT n A r j))=(fun j=>sE (eF (duA n A r j))) from rfl,vY m (duA n A r),if_neg (by simp)];exact Ch _
theorem Nn{n m:Nat}{A:Nat -> Nat -> Rat}(h:∀i,i<m -> ∀j,j<n -> (eF (A i j)).size <= 12){r i:Nat}(E:i<m):(duT n A r i).size <= 13:=by
 unfold duT duA;by_cases h1:r<2*n
 ·rw[if_pos h1];have F:=h i E (r / 2) oM;by_cases t:r%2=0
  ·rw[if_pos t];omega
  ·rw[if_neg t];have:=MU (A i (r / 2));omega
 ·rw[if_neg h1];by_cases t:i=r-2*n
  ·rw[if_pos t,N8];decide
  ·rw[if_neg t,MM];decide
theorem Np{n:Nat}{c:Nat -> Rat}(h:∀j,j<n -> (eF (c j)).size <= 12){r:Nat}:(duU n c r).size <= 13:=by
 unfold duU duB;by_cases h1:r<2*n
 ·rw[if_pos h1];have E:=h (r / 2) oM;by_cases t:r%2=0
  ·rw[if_pos t];omega
  ·rw[if_neg t];have:=MU (c (r / 2));omega
 ·rw[if_neg h1,MM];decide
theorem Nq{m n:Nat}{kk:Int}{A A':Nat -> Nat -> Rat}{b b' c c' x y d:Nat -> Rat}{q:Rat}(t:∀i,i<m -> ∀j,j<n -> A i j=A' i j)(E:∀i,i<m -> b i=b' i)(F:∀j,j<n -> c j=c' j)(h:kI m n kk A b c q x y d):kI m n kk A' b' c' q x y d:=
 ⟨fun e=>IL t E F (fun _ _=>rfl) (fun _ _=>rfl) rfl (h.1 e),fun e=>IM t E (fun _ _=>rfl) (h.2.1 e),fun e=>IP t E F (fun _ _=>rfl) (fun _ _=>rfl) (h.2.2 e)⟩
set_option maxRecDepth 100000 in
set_option maxHeartbeats 12800000 in
theorem Nr(vo vr:Value)(n m:Nat)(k:Nat -> Nat)(o:Nat -> ByteArray)(t:Nat -> Nat -> ByteArray)(b:Nat -> ByteArray)(w:World)(ho:TSA w vo n o)(hr:TRA w vr m k t b)(hg:iG w)(ht:Tab w):
  Calls prog 3 #[.agg #[vo,vr]] w fun e w'=>e= .returned (.bool true) /\ Below w.heap.size w w':=by
 obtain⟨AO,cO,rfl,_,_⟩:=ho.1.shape;obtain⟨AR,cR,rfl,_,_⟩:=hr.kG.shape;have HO:=lH ho;have HR:=lH hr;have a8:=lH hg;have a9:=lH ht;clear ho hr hg ht;obtain⟨W,hW,O,F⟩:=eN1 w [.slice AO n cO, .slice AR m cR] 25;go_enter func3,ntmps3;go_wp2_with fail
 rw[<- hW];clear hW;refine(pW _ (a8.o.below F.o) (a9.o.below F.o)).mono ?_;rintro e w1 ⟨rfl,G⟩;replace O:=rW O G;replace F:=bT F G;clear G;obtain⟨a0,a1⟩:=aT2 O.o;have a2:=O.o.lt;go_wp2_with fail
 clear a0 a1 a2;refine(JR AO AR n m cO cR k o t b _ (HO.o.1.below F.o) (HR.o.kG.below F.o)).mono ?_;rintro e w2 ⟨hf,G⟩;replace O:=rW O G;replace F:=bT F G;clear G
 rcases hf with ⟨hf,rfl⟩ | ⟨_,rfl⟩
 ·have V:=lH hf.fit;clear hf;by_cases au:n <= 3
  ·have hd:decide ((3:Int)<((n:Nat):Int))=false:=decide_eq_false oM;have ai:decide (3<n)=false:=decide_eq_false oM;have al:=lH au;clear au;by_cases ar:m <= 5
   ·have an:decide ((5:Int)<((m:Nat):Int))=false:=decide_eq_false oM;have ao:decide (5<m)=false:=decide_eq_false oM;have ae:=lH ar;clear ar;obtain⟨a0,a1⟩:=aT2 O.o;have a2:=O.o.lt;go_wp2_with fail
    clear hd ai an ao a0 a1 a2;refine(ry AO AR n m cO cR k o t b _ (HO.o.1.below F.o) (HR.o.kG.below F.o) (by have:=V.o.1;omega) (by have:=V.o.2.1;omega) (fun j U=>by have:=V.o.2.2.2.1 j U;omega) (fun i M j U=>by have:=V.o.2.2.2.2.1 i M j U;omega) (fun i M=>by have:=V.o.2.2.2.2.2 i M;omega)).mono ?_;rintro e w3 ⟨rfl,G⟩;replace O:=rW O G;replace F:=bT F G;clear G;obtain⟨E,hE⟩:=eX (fD n m k o t b);rw[<- hE];have HE:=lH hE;clear hE;by_cases h0:E=0
    ·subst h0;have H0:Hid (fD n m k o t b=0):=lH HE.o.symm;clear HE;obtain⟨a0,a1⟩:=aT2 O.o;have a2:=O.o.lt;go_wp2_with fail
     clear a0 a1 a2;refine(K6 AO AR n m cO cR k o t b 12 12589 250000 _ (HO.o.1.below F.o) (HR.o.kG.below F.o) H0.o dC dC V.o.2.2.2.1 V.o.2.2.2.2.1 V.o.2.2.2.2.2 (CO V.o.2.1 V.o.1) dC ⟨by have:=V.o.1;have:=V.o.2.1;omega,by decide,by decide⟩ dC (a8.o.below F.o) (a9.o.below F.o)).mono ?_;rintro e w4 ⟨⟨X,v,rfl,hO,b8,aX,ba,A1,a7,c1,av,bh,bj,bf,aj,aW,aY⟩,G⟩;replace O:=rW O G;replace F:=bT F G;clear G;obtain⟨az,aL,aB,aN,ax,aJ,rfl,_,_,_⟩:=hO.shape;clear hO;obtain⟨w5,T⟩:=eX (w4.alloc (.cells #[.int .i64 X.kk, .string X.s, .slice az X.np aL, .slice aB X.ny aN, .slice ax X.nd aJ] 32));obtain⟨gA,a3⟩:=eX (w4.heap.size);have aa:Below w4.heap.size w4 w5:=by rw[T];exact eD _ _
     have R:Hid (Row w5 gA 32 [.int .i64 X.kk, .string X.s, .slice az X.np aL, .slice aB X.ny aN, .slice ax X.nd aJ]):=lH (by rw[T,a3];exact eP _ _);replace O:=rW O aa;replace F:=bT F aa;have aG:=lH (mo H0.o).2.2.1;have aH:Hid (∀j,j<n -> o j=eF (c1 j)):=lH (fun j U=>jE (aj.obj j U));have aD:Hid (∀i,i<m -> ∀j,j<n -> t i j=eF (A1 i j)):=lH (fun i M j U=>jE (aj.rows i M j U));have aE:Hid (∀i,i<m -> b i=eF (a7 i)):=lH (fun i M=>jE (aj.bounds i M));have ST:Hid (∀i,i<m -> ∀j,j<n -> (eF (A1 i j)).size <= 12):=lH (fun i M j U=>by rw[<- aD.o i M j U];exact V.o.2.2.2.2.1 i M j (by rw[aG.o i M];exact U));have SB:Hid (∀i,i<m -> (eF (a7 i)).size <= 12):=lH (fun i M=>by rw[<- aE.o i M];exact V.o.2.2.2.2.2 i M);have SC:Hid (∀j,j<n -> (eF (c1 j)).size <= 12):=lH (fun j U=>by rw[<- aH.o j U];exact V.o.2.2.2.1 j U);have b1:=lH aY;have aF:=lH aX;have am:Hid (X.kk=1 -> X.s=eF av):=lH (fun e=>jE (aW.val e));clear aj aW aY b8 ba aX;obtain⟨a0,a1⟩:=aT2 O.o;have a2:=O.o.lt;rw[T] at a0 a1 a2;go_wp2_with fail
     rw[<- T, <- a3];clear T a3 aa a0 a1 a2;refine(Ni AO AR n m cO cR k o t b A1 a7 c1 12 _ (HO.o.1.below F.o) (HR.o.kG.below F.o) (by have:=al.o;omega) (by have:=ae.o;omega) aG.o aD.o aE.o aH.o (fun i M j U=>iU (jI _) (ST.o i M j U)) (fun i M=>iU (jI _) (SB.o i M)) (fun j U=>iU (jI _) (SC.o j U)) dC).mono ?_;rintro e w6 ⟨vv,uu,rfl,hv,hu,G⟩;replace R:=rW R G;replace F:=bT F G;clear G;obtain⟨AV,cV,rfl,_,_⟩:=eY.shape hv;obtain⟨AU,cU,rfl,_,_⟩:=hu.shape;have HV:=lH (fH.ts hv);have HU:=lH hu.kG;clear hv hu;go_wp2_with fail
     refine(K6 AV AU m (2*n+m) cV cU (fun _=>m) (fun i=>eF (-(a7 i))) (duT n A1) (duU n c1) 13 6049 250000 _ HV.o HU.o (Nl n m A1 a7 c1 (by have:=ae.o;omega) (by have:=al.o;have:=ae.o;omega)) dC dC (fun i M=>by have:=SB.o i M;have:=MU (a7 i);omega) (fun r _ i M=>Nn ST.o M) (fun r _=>Np SC.o) (Nj ae.o) dC ⟨by have:=al.o;have:=ae.o;omega,by decide,by decide⟩ dC (a8.o.below F.o) (a9.o.below F.o)).mono ?_;rintro e w7 ⟨⟨Z,v,rfl,hO,aV,aq,bb,A2,be,c2,aw,bi,bk,bg,ak,ap,aZ⟩,G⟩;replace R:=rW R G;replace F:=bT F G;clear G;obtain⟨aA,aM,aC,aO,ay,aK,rfl,_,_,_⟩:=hO.shape;clear hO;obtain⟨w8,T⟩:=eX (w7.alloc (.cells #[.int .i64 Z.kk, .string Z.s, .slice aA Z.np aM, .slice aC Z.ny aO, .slice ay Z.nd aK] 32));obtain⟨gC,a3⟩:=eX (w7.heap.size);have aa:Below w7.heap.size w7 w8:=by rw[T];exact eD _ _
     have CB:Hid (Row w8 gC 32 [.int .i64 Z.kk, .string Z.s, .slice aA Z.np aM, .slice aC Z.ny aO, .slice ay Z.nd aK]):=lH (by rw[T,a3];exact eP _ _);replace R:=rW R aa;replace F:=bT F aa;have ab:=lH (Ng aF.o aq b1.o (Nq (A':=duA n A1) (b':=duB n c1) (c':=fun i=> -(a7 i)) (fun r hr i M=>(lq (l:=(duT n A1 r i).data.toList) (jI _) (ak.rows r hr i M)).symm) (fun r hr=>(lq (l:=(duU n c1 r).data.toList) (jI _) (ak.bounds r hr)).symm) (fun i M=>(lq (l:=(eF (-(a7 i))).data.toList) (jI _) (ak.obj i M)).symm) aZ));have ah:Hid (Z.kk=1 -> Z.s=eF aw /\ RL 6049 aw):=lH (fun e=>⟨jE (ap.val e),iU (ap.val e) aV.1⟩);have bd:=lH aq;clear ak ap aZ aV bb aq HV HU;have b9:X.kk=1 \/ X.kk=2 \/ X.kk=3:=by have:=aF.o;omega
     rcases b9 with hk | hk | hk
     ·obtain⟨a4,aP⟩:=ab.o.1 hk;obtain⟨aQ,b0⟩:=ah.o a4;have b2:=lH b0;rw[hk] at R;rw[am.o hk] at R;rw[a4] at CB T ⊢;rw[aQ] at CB T ⊢;have EQ:=lH aP;clear a4 aQ aP b0 hk ab ah;have ac:=aI 0 R;have ad:=R.o.lt;have a5:=aI 0 CB;have a6:=CB.o.lt;rw[T] at ac ad a5 a6;rw[a3] at a5 a6
      go_upto_region 9 with (fail)
      rw[<- T, <- a3];clear T a3 aa ac ad a5 a6;go_wp2_with fail
      have af:=rG w8;have b3:=R.o.lt;have aR:=aI 1 R;have b4:=CB.o.lt;obtain⟨aS,aT⟩:=aT2 CB.o;have KS:=lH (kC aR (kC aS (kN aT)));clear b3 aR b4 aS aT;refine rL KS.o (fun i=>false) ?_;have Y:=KS.o _ af.o;refine tKs 0 53 Y ?_;refine tKs 1 54 Y ?_;refine tKs 2 55 Y ?_;refine tKs 3 56 Y ?_;refine tKs 4 57 Y ?_;refine tKs 5 58 Y ?_;refine tKs 7 60 Y ?_;refine tKs 8 61 Y ?_;refine rD 6 (fun K hK=> ?_);go_simp;refine(GZ aw 6049 _ b2.o dC).mono ?_;rintro e bc ⟨rfl,ag⟩;have ag:Below w8.heap.size w8 bc:=bD ag;replace F:=bT F ag;replace af:=bT af ag;clear Y ag;have Y:=KS.o _ af.o;refine kH hK Y ?_;clear hK K;refine jf (i:=9) (v:= .bool true) (some 62) rfl (by rfl) kR kR kR kR (fun _ _ _ h=>h) (Or.inl ⟨by rfl,?_⟩) Y ?_
      ·(intro w' b5;clear b5;go_simp;first | done | (rw[EQ.o,show -(-av)=av by grind];simp) | (simp[EQ.o];done) | trace_state)
      simp only[Act.put,List.setIfInBounds_toArray,List.set_cons_zero,List.set_cons_succ];refine tKs 10 63 Y ?_;refine tKs 11 2 Y ?_;refine dN ?_ _;clear Y KS af;go_wp2_with fail
      go_returns;exact⟨rfl,F.o⟩
     ·have a4:=ab.o.2.2 hk;rw[hk] at R;have hd:(Z.kk !=1)=true:=by simpa using a4
      clear a4 hk ab ah am;have ac:=aI 0 R;have ad:=R.o.lt;have a5:=aI 0 CB;have a6:=CB.o.lt;rw[T] at ac ad a5 a6;rw[a3] at a5 a6;go_wp2_with fail
      go_returns;exact⟨rfl,by first | exact F.o | (rw[<- T];exact F.o)⟩
     ·have a4:=ab.o.2.1 hk;rw[hk] at R;rw[a4] at CB T ⊢;clear a4 hk ab ah am;have ac:=aI 0 R;have ad:=R.o.lt;have a5:=aI 0 CB;have a6:=CB.o.lt;rw[T] at ac ad a5 a6;rw[a3] at a5 a6;go_wp2_with fail
      go_returns;exact⟨rfl,by first | exact F.o | (rw[<- T];exact F.o)⟩
    ·have aU:((E:Nat):Int)≠0:=oM
     have b6:(((E:Nat):Int) !=0)=true:=by simpa using aU
     have b7:(E !=0)=true:=by simpa using h0
     clear h0;go_wp2_with fail
     clear aU b6 b7;refine(pW _ (a8.o.below F.o) (a9.o.below F.o)).mono ?_;rintro e wk ⟨rfl,G⟩;replace F:=bT F G;clear G;go_wp2_with fail
     go_returns;exact⟨rfl,F.o⟩
   ·have an:decide ((5:Int)<((m:Nat):Int))=true:=decide_eq_true oM;have ao:decide (5<m)=true:=decide_eq_true oM;clear ar;obtain⟨a0,a1⟩:=aT2 O.o;have a2:=O.o.lt;go_wp2_with fail
    clear hd ai an ao a0 a1 a2;refine(pW _ (a8.o.below F.o) (a9.o.below F.o)).mono ?_;rintro e wk ⟨rfl,G⟩;replace F:=bT F G;clear G;go_wp2_with fail
    go_returns;exact⟨rfl,F.o⟩
  ·have hd:decide ((3:Int)<((n:Nat):Int))=true:=decide_eq_true oM;have ai:decide (3<n)=true:=decide_eq_true oM;clear au;obtain⟨a0,a1⟩:=aT2 O.o;have a2:=O.o.lt;go_wp2_with fail
   clear hd ai a0 a1 a2;refine(pW _ (a8.o.below F.o) (a9.o.below F.o)).mono ?_;rintro e wk ⟨rfl,G⟩;replace F:=bT F G;clear G;go_wp2_with fail
   go_returns;exact⟨rfl,F.o⟩
 ·go_wp2_with fail
  refine(pW _ (a8.o.below F.o) (a9.o.below F.o)).mono ?_;rintro e wk ⟨rfl,G⟩;replace F:=bT F G;clear G;go_wp2_with fail
  go_returns;exact⟨rfl,F.o⟩
end Go.Proofs.YtdefghfjhgmpfaaGreatDoor
