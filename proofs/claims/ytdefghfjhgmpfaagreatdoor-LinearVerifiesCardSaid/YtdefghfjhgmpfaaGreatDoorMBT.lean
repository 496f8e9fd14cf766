/- Parts of this proof: LVerifies. -/
import Derived.Test.YtdefghfjhgmpfaaGreatDoorMAE
import Derived.Test.YtdefghfjhgmpfaaGreatDoorMBJ
import Derived.Test.YtdefghfjhgmpfaaGreatDoorMCG
import Derived.Test.YtdefghfjhgmpfaaGreatDoorMBR
import Derived.Test.YtdefghfjhgmpfaaGreatDoorMBS
import Derived.Test.YtdefghfjhgmpfaaGreatDoorMAZ
namespace Go.Proofs.YtdefghfjhgmpfaaGreatDoor
open Go.Proofs.Tryz
open Go.RowKit
open Lp (RL upd eu)
def CE(O:OTx)(i:Nat):Nat:=if i=0 then O.np else if i=1 then O.ny else if i=2 then O.nd else 1
def outT(O:OTx)(i j:Nat):ByteArray:=if i=0 then O.p j else if i=1 then O.y j else if i=2 then O.d j else O.s
theorem JS{O:OTx}(h:og 8 4 (CE O) (outT O)):(O.np <= 8 /\ O.ny <= 8 /\ O.nd <= 8) /\ O.Fit 12:=
 ⟨⟨(h 0 oM).1,(h 1 oM).1,(h 2 oM).1⟩,(h 3 oM).2 0 (by show 0<1;omega),(h 0 oM).2,(h 1 oM).2,(h 2 oM).2⟩
set_option maxRecDepth 100000 in
set_option maxHeartbeats 12800000 in
theorem JU(vo vr vq:Value)(n m:Nat)(k:Nat -> Nat)(o:Nat -> ByteArray)(t:Nat -> Nat -> ByteArray)(b:Nat -> ByteArray)(O:OTx)(w:World)(ho:TSA w vo n o)(hr:TRA w vr m k t b)(hq:mE w vq O)(hg:iG w)(ht:Tab w):
  Calls prog 12 #[.agg #[vo,vr],vq] w fun e w'=>e= .returned (.bool true) /\ Below w.heap.size w w':=by
 obtain⟨AO,cO,rfl,_,_⟩:=ho.1.shape;obtain⟨AR,cR,rfl,_,_⟩:=hr.kG.shape;obtain⟨vp,vy,vd,rfl,hp,hy,hd⟩:=hq;obtain⟨V,cP,rfl,_,_⟩:=hp.1.shape;obtain⟨X,cY,rfl,_,_⟩:=hy.1.shape;obtain⟨U,Z,rfl,_,_⟩:=hd.1.shape;have HO:=lH ho;have HR:=lH hr;have HP:=lH hp;have HY:=lH hy;have HD:=lH hd;have a6:=lH hg;have aa:=lH ht;clear ho hr hp hy hd hg ht;obtain⟨W,hW,F,G,h⟩:=eN2 w [.slice AO n cO, .slice AR m cR] 25 [.int .i64 O.kk, .string O.s, .slice V O.np cP, .slice X O.ny cY, .slice U O.nd Z] 32;go_enter func12,ntmps12;go_wp2_with fail
 rw[<- hW];clear hW;refine(pW _ (a6.o.below h.o) (aa.o.below h.o)).mono ?_;rintro e w1 ⟨rfl,r⟩;replace F:=rW F r;replace G:=rW G r;replace h:=bT h r;clear r;obtain⟨au,av⟩:=aT2 F.o;have aw:=F.o.lt;go_wp2_with fail
 clear au av aw;refine(JR AO AR n m cO cR k o t b _ (HO.o.1.below h.o) (HR.o.kG.below h.o)).mono ?_;rintro e w2 ⟨hf,r⟩;replace F:=rW F r;replace G:=rW G r;replace h:=bT h r;clear r
 rcases hf with ⟨hf,rfl⟩ | ⟨_,rfl⟩
 ·have ag:=G;have E:=lH hf.fit;clear hf;obtain⟨w3,a5⟩:=eX (w2.alloc (.cells #[.string O.s] 30));obtain⟨g1,ab⟩:=eX (w2.heap.size);have a7:Below w2.heap.size w2 w3:=by rw[a5];exact eD _ _
  have R1:Hid (Row w3 g1 30 [.string O.s]):=lH (by rw[a5,ab];exact eP _ _);replace F:=rW F a7;replace G:=rW G a7;replace h:=bT h a7;obtain⟨w4,a9⟩:=eX (w3.alloc (.cells #[.slice V O.np cP, .slice X O.ny cY, .slice U O.nd Z, .slice (some ⟨g1,0,none⟩) 1 1] 22));obtain⟨g2,ac⟩:=eX (w3.heap.size);have a1:Below w3.heap.size w3 w4:=by rw[a9];exact eD _ _
  have R2:Hid (Row w4 g2 22 [.slice V O.np cP, .slice X O.ny cY, .slice U O.nd Z, .slice (some ⟨g1,0,none⟩) 1 1]):=lH (by rw[a9,ac];exact eP _ _);replace F:=rW F a1;replace G:=rW G a1;replace R1:=rW R1 a1;replace h:=bT h a1
  have af:Hid (TLs w4 (.slice (some ⟨g2,0,none⟩) 4 4) 4 (CE O) (outT O)):=lH (by
   refine⟨_,_,rfl,Nat.le_refl _,by unfold maxLen;omega, .inr ⟨g2,0,rfl,fun i hi=> ?_⟩⟩
   rcases i with _ | _ | _ | _ | i
   ·exact⟨_,R2.o.at_ 0 rfl,HP.o.1.below h.o⟩
   ·exact⟨_,R2.o.at_ 1 rfl,HY.o.1.below h.o⟩
   ·exact⟨_,R2.o.at_ 2 rfl,HD.o.1.below h.o⟩
   ·exact⟨_,R2.o.at_ 3 rfl,⟨_,_,rfl,Nat.le_refl _,by unfold maxLen;show 1 <= _;omega, .inr ⟨g1,0,rfl,fun j hj=>by have hj:j<1:=hj;rw[show 0+j=0 by omega];exact R1.o.at_ 0 rfl⟩⟩⟩
   ·omega)
  clear R1 R2;clear a7 a1;have a0:Row w2 (w.heap.size+1) 32 [.int .i64 O.kk, .string O.s, .slice V O.np cP, .slice X O.ny cY, .slice U O.nd Z]:=ag.o;have o1:=a0.at_ 1 rfl;have o2:=a0.at_ 2 rfl;have o3:=a0.at_ 3 rfl;have o4:=a0.at_ 4 rfl;have ol:=a0.lt;go_wp2_with fail
  clear a0 o1 o2 o3 o4 ol ag;have e2:w2.heap.size+1=g2:=by rw[ac,a5];simp
  try rw[e2]
  rw[<- ab]
  try rw[e2]
  rw[<- a5, <- a9];clear a5 a9 ab ac e2;refine(vN 8 _ 4 _ _ _ af.o dC dC).mono ?_;rintro e w5 ⟨a8,r⟩;replace F:=rW F r;replace G:=rW G r;replace h:=bT h r;clear r;clear af
  rcases a8 with ⟨a8,rfl⟩ | ⟨_,rfl⟩
  ·have R:=lH (JS a8);clear a8
   skip
   go_wp2_with fail
   have M:=rG w5;have ar:=F.o.lt;obtain⟨ai,ak⟩:=aT2 F.o;have aq:=G.o.lt;obtain⟨ah,aj,al,am,an⟩:=aT5 G.o;have Y:=lH (kC ai (kC ak (kC ah (kC aj (kC al (kC am (kN an)))))));clear ar ai ak aq ah aj al am an;refine rL Y.o (fun i=>false) ?_;have C:=Y.o _ M.o;refine tKs 0 27 C ?_;refine tKs 2 29 C ?_;refine tKs 4 31 C ?_;refine tKs 5 32 C ?_;refine rD 1 (fun K T=> ?_);go_simp;refine(vX AO AR n m cO cR k o t b _ (HO.o.below h.o.drew) (HR.o.below h.o.drew) (by have:=E.o.1;omega) (by have:=E.o.2.1;omega) (fun i hi=>by have:=E.o.2.2.1 i hi;omega)).mono ?_;rintro e w6 ⟨vc,uc,rfl,ae,ad,a2⟩;have a2:Below w5.heap.size w5 w6:=bD a2;replace h:=bT h a2;replace M:=bT M a2;obtain⟨Av,cv,rfl,_,_⟩:=eY.shape ae;obtain⟨Ac,cc,rfl,_,_⟩:=ad.shape;have Vv:=lH ae.ts;have Vu:=lH ad.kG;clear ae ad;clear C a2;have C:=Y.o _ M.o;refine kH T C ?_;clear T K;refine rD 3 (fun K T=> ?_);go_simp;refine(Jy Av Ac n m cv cc k o t b O V X U cP cY Z _ Vv.o Vu.o (by have:=E.o.1;omega) (by have:=E.o.2.1;omega) (fun j hj=>by have:=E.o.2.2.2.1 j hj;omega) (fun i hi j hj=>by have:=E.o.2.2.2.2.1 i hi j hj;omega) (fun i hi=>by have:=E.o.2.2.2.2.2 i hi;omega) (HP.o.1.below h.o) (HY.o.1.below h.o) (HD.o.1.below h.o) ⟨by have:=R.o.1.1;omega,by have:=R.o.1.2.1;omega,by have:=R.o.1.2.2;omega⟩ (R.o.2.mono dC) (a6.o.below h.o)).mono ?_;rintro e w7 ⟨⟨c1,rfl,ao⟩,a3⟩;have a3:Below w6.heap.size w6 w7:=bD a3;replace h:=bT h a3;replace M:=bT M a3;have H1:=lH ao;clear ao Vv Vu;clear C a3;have C:=Y.o _ M.o;refine kH T C ?_;clear T K;refine rD 6 (fun K T=> ?_);go_simp;refine(wO AO AR n m cO cR k o t b 12 12 400 O V X U cP cY Z _ (HO.o.1.below h.o) (HR.o.kG.below h.o) (by have:=E.o.1;omega) (by have:=E.o.2.1;omega) E.o.2.2.2.1 E.o.2.2.2.2.1 E.o.2.2.2.2.2 dC dC (HP.o.below h.o) (HY.o.below h.o) (HD.o.below h.o) ⟨by have:=R.o.1.1;omega,by have:=R.o.1.2.1;omega,by have:=R.o.1.2.2;omega⟩ R.o.2 ⟨by have:=E.o.1;have:=E.o.2.1;omega,by decide,by decide⟩ dC).mono ?_;rintro e w8 ⟨⟨c2,rfl,ap⟩,a4⟩;have a4:Below w7.heap.size w7 w8:=bD a4;replace h:=bT h a4;replace M:=bT M a4;have H2:=lH ap;clear ap;clear C a4;have C:=Y.o _ M.o;refine kH T C ?_;clear T K;refine tKs 7 34 C ?_;refine tKs 8 4 C ?_;refine dN ?_ _;clear C Y M;obtain rfl:=H1.o.uniq H2.o;have ax:((c1:Int)== (c1:Int))=true:=by simp
   go_wp2_with fail
   go_returns;exact⟨by simp,h.o⟩
  ·go_wp2_with fail
   refine(pW _ (a6.o.below h.o) (aa.o.below h.o)).mono ?_;rintro e wk ⟨rfl,r⟩;replace h:=bT h r;clear r;go_wp2_with fail
   go_returns;exact⟨rfl,h.o⟩
 ·go_wp2_with fail
  refine(pW _ (a6.o.below h.o) (aa.o.below h.o)).mono ?_;rintro e wk ⟨rfl,r⟩;replace h:=bT h r;clear r;go_wp2_with fail
  go_returns;exact⟨rfl,h.o⟩
end Go.Proofs.YtdefghfjhgmpfaaGreatDoor
