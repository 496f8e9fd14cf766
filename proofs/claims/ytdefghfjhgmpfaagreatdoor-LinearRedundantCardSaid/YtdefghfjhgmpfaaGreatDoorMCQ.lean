/- The statement LinearRedundantCardSaid: for every input the call of dowellaw06.LinearRedundant returns true and each argument reads behind it as it read before. Conditions: none but those of the given row. -/
import Derived.Test.YtdefghfjhgmpfaaGreatDoorMAE
import Derived.Test.YtdefghfjhgmpfaaGreatDoorMBJ
import Derived.Test.YtdefghfjhgmpfaaGreatDoorMCO
import Derived.Test.YtdefghfjhgmpfaaGreatDoorMCP
import Derived.Test.YtdefghfjhgmpfaaGreatDoorMBV
import Derived.Test.YtdefghfjhgmpfaaGreatDoorMBS
import Derived.Test.YtdefghfjhgmpfaaGreatDoorMAZ
import Derived.Test.YtdefghfjhgmpfaaGreatDoorMBY
import Derived.Test.YtdefghfjhgmpfaaGreatDoorMCJ
import Derived.Test.YtdefghfjhgmpfaaGreatDoorMAV
namespace Go.Proofs.YtdefghfjhgmpfaaGreatDoor
open Go.Proofs.Tryz
section
open Go.RowKit
open Lp (RL upd eu)
theorem M7{m n:Nat}{kk:Int}{A A':Nat -> Nat -> Rat}{b b' c c' x y d:Nat -> Rat}{q:Rat}(r:∀i,i<m -> ∀j,j<n -> A i j=A' i j)(t:∀i,i<m -> b i=b' i)(C:∀j,j<n -> c j=c' j)(h:kI m n kk A b c q x y d):kI m n kk A' b' c' q x y d:=
 ⟨fun e=>IL r t C (fun _ _=>rfl) (fun _ _=>rfl) rfl (h.1 e),fun e=>IM r t (fun _ _=>rfl) (h.2.1 e),fun e=>IP r t C (fun _ _=>rfl) (fun _ _=>rfl) (h.2.2 e)⟩
theorem M8{r n:Nat}{A A':Nat -> Nat -> Rat}{b b' a t:Nat -> Rat}{β:Rat}{z C:Bool}(M:∀i,i<r -> ∀j,j<n -> A i j=A' i j)(R:∀i,i<r -> b i=b' i)(O:∀j,j<n -> a j=t j)(h:Ll r n A b a β z)(G:Ll r n A' b' t β C):z=C:=by
 obtain⟨kk,q,x,y,d,T,V,rfl⟩:=h;obtain⟨kk',q',x',y',d',U,W,rfl⟩:=G;obtain⟨E,F⟩:=KM T U (M7 M R O V) W;subst E;by_cases h1:kk=1
 ·rw[F h1]
 ·have e:∀u:Rat,(kk=2 \/ kk=1 /\ u <= β)↔kk=2:=fun u=>⟨fun h=>h.elim id (fun h=>absurd h.1 h1), .inl⟩
  simp only[e]
theorem Lj{α:Type}(i:Nat)(f:Nat -> α)(j:Nat):jn i f (fun r=>f (i+1+r)) j=f (del i j):=by
 unfold jn del;by_cases h:j<i
 ·rw[if_pos h,if_pos h]
 ·rw[if_neg h,if_neg h];show f (i+1+ (j-i))=f (j+1);rw[show i+1+ (j-i)=j+1 by omega]
theorem M9{w:World}{g o m c:Nat}{k:Nat -> Nat}{s:Nat -> Nat -> ByteArray}{b:Nat -> ByteArray}(h:fZ w (.slice (some ⟨g,o,none⟩) m c) m k s b){i c':Nat}(E:i <= m)(r:i <= c')(t:c' <= maxLen)(h0:0<m):fZ w (.slice (some ⟨g,o,none⟩) i c') i k s b:=by
 obtain⟨g',G,e,C⟩:=h.at_ h0;simp only[Option.some.injEq,Addr.mk.injEq,and_true] at e;obtain⟨rfl,rfl⟩:=e;exact⟨_,_,rfl,r,t, .inr ⟨g,o,rfl,fun j F=>C j oM⟩⟩
theorem Ma{w:World}{g o m c:Nat}{k:Nat -> Nat}{s:Nat -> Nat -> ByteArray}{b:Nat -> ByteArray}(h:fZ w (.slice (some ⟨g,o,none⟩) m c) m k s b){i r c' t:Nat}(R:i+r=m)(G:r <= c')(M:c' <= maxLen)(h0:0<m)(C:t=o+i*2):fZ w (.slice (some ⟨g,t,none⟩) r c') r (fun j=>k (i+j)) (fun j=>s (i+j)) (fun j=>b (i+j)):=by
 obtain⟨g',U,e,O⟩:=h.at_ h0;simp only[Option.some.injEq,Addr.mk.injEq,and_true] at e;obtain⟨rfl,rfl⟩:=e;refine⟨_,_,rfl,G,M, .inr ⟨g,t,rfl,fun j T=> ?_⟩⟩;obtain⟨u,h1,E,F⟩:=O (i+j) oM;refine⟨u,?_,?_,F⟩
 ·rw[C,show o+i*2+j*2=o+ (i+j)*2 by omega];exact h1
 ·rw[C,show o+i*2+j*2+1=o+ (i+j)*2+1 by omega];exact E
theorem Mc{n m r i:Nat}{k k':Nat -> Nat}{o:Nat -> ByteArray}{t R:Nat -> Nat -> ByteArray}{b b':Nat -> ByteArray}(h:fD n m k o t b=0)(W:i<m)(Z:r <= m)(f:Nat -> Nat)(O:∀j,j<r -> f j<m)(X:∀j,j<r -> k' j=k (f j))(Y:∀j,j<r -> R j=t (f j))(V:∀j,j<r -> b' j=b (f j)):fD n r k' (t i) R b'=0:=by
 unfold fD at h ⊢;by_cases h1:96<n \/ 256<m
 ·rw[if_pos h1] at h;cases h
 ·rw[if_neg h1] at h;rw[if_neg oM];by_cases E:¬(∀i,i<m -> k i=n)
  ·rw[if_pos E] at h;cases h
  ·rw[if_neg E] at h;have T:=Decidable.not_not.1 E;rw[if_neg (fun x=>x (fun j C=>by rw[X j C];exact T _ (O j C)))];by_cases F:fo n (fun j=>sE (o j))≠0
   ·rw[if_pos F] at h;exact absurd h F
   ·rw[if_neg F] at h;have M:=kF.1 h
    have U:fo n (fun j=>sE (t i j))=0:=by
     have:=M i W;unfold iw at this;by_cases G:fo n (fun j=>sE (t i j))≠0
     ·rw[if_pos G] at this;exact absurd this G
     ·exact Decidable.not_not.1 G
    rw[U,if_neg (by simp)];exact kF.2 fun j C=>by rw[Y j C,V j C];exact M _ (O j C)
set_option maxRecDepth 100000 in
set_option maxHeartbeats 12800000 in
theorem Md(v:Int)(vr:Value)(i:Int)(m:Nat)(k:Nat -> Nat)(t:Nat -> Nat -> ByteArray)(b:Nat -> ByteArray)(w:World)(M:TRA w vr m k t b)(hg:iG w)(ht:Tab w):
  Calls prog 10 #[.int .i64 v,vr, .int .i64 i] w fun e w'=>e= .returned (.bool true) /\ Below w.heap.size w w':=by
 obtain⟨AR,T,rfl,aV,aU⟩:=M.kG.shape;have HR:=lH M;have aa:=lH (And.intro aV aU);have a7:=lH hg;have aw:=lH ht;clear M hg ht aV aU;go_enter func10,ntmps10;go_wp2_with fail
 refine(pW _ a7.o aw.o).mono ?_;rintro e w1 ⟨rfl,F⟩;have C:=lH F;clear F;go_wp2_with fail
 refine(Cz 8 _ m k t b _ (HR.o.kG.below C.o)).mono ?_;rintro e w2 ⟨au,F⟩;replace C:=bT C F;clear F
 rcases au with ⟨au,rfl⟩ | ⟨_,rfl⟩
 ·have a0:=lH au.1;have R:Hid (∀i,i<m -> rz (k i) (t i) (b i)):=lH (fun i G=>au.2 i G);clear au;have HF:Hid (RowsFit m k t b):=lH ⟨by have:=a0.o;omega,fun i G j hj=>by have:=(R.o i G).2.1 j hj;omega,fun i G=>by have:=(R.o i G).2.2;omega⟩;by_cases h6:v <= 6
  ·have hd:decide (6<v)=false:=decide_eq_false oM;have HV:Hid (jF v m k t b=0 -> v.toNat <= 6):=lH (fun _=>by omega);clear h6;go_wp2_with fail
   clear hd;refine(CF v AR m T k t b _ (HR.o.kG.below C.o) HF.o).mono ?_;rintro e w3 ⟨M,F⟩;replace C:=bT C F;clear F;obtain⟨AO,nO,cO,A4,m4,c4,rfl,hz⟩:=M.cases;have aQ:Hid (jF v m k t b=0 -> 0 <= v /\ fD v.toNat m k (fun _=>⟨#[48]⟩) t b=0):=lH (fun e=>⟨(hz e).2.2.2.2.2.1.1,(hz e).2.2.2.2.2.2⟩);clear M hz;obtain⟨E,hE⟩:=eX (jF v m k t b);rw[<- hE];have HE:=lH hE;clear hE;obtain⟨w4,a9⟩:=eX (w3.alloc (.cells #[.slice AO nO cO, .slice A4 m4 c4] 25));obtain⟨gP,ap⟩:=eX (w3.heap.size);have ai:Below w3.heap.size w3 w4:=by rw[a9];exact eD _ _
   have PB:Hid (Row w4 gP 25 [.slice AO nO cO, .slice A4 m4 c4]):=lH (by rw[a9,ap];exact eP _ _);replace C:=bT C ai;clear ai PB
   go_upto_region 4 with (fail)
   rw[<- a9];clear a9 ap;by_cases h0:E=0
   ·subst h0;by_cases ac:i<0
    ·have hd:decide (i<0)=true:=decide_eq_true ac;have aB:Hid (i<0 \/ (m:Int) <= i):=lH (.inl ac);clear ac;go_wp2_with fail
     clear hd;refine(vX none AR 0 m 0 T k (fun _=>⟨#[]⟩) t b _ ⟨⟨_,_,rfl,Nat.le_refl _,Nat.zero_le _, .inl rfl⟩, .inl ⟨rfl,rfl⟩⟩ (HR.o.below C.o) dC (by have:=a0.o;omega) (fun i G=>by have:=(R.o i G).1;omega)).mono ?_;rintro e w5 ⟨vc,uc,rfl,a3,W,F⟩;obtain⟨Av,cv,rfl,_,_⟩:=eY.shape a3;clear a3;replace C:=bT C F;clear F;obtain⟨U,V,rfl,_,_⟩:=W.shape;have a1:=lH W.kG;clear W;have a8:∀w:World,(Instr.field 25 (.agg #[.slice Av 0 cv, .slice U m V]) 1).run prog w= .ok (.slice U m V) w:=fun _=>by kernel_rfl
     go_wp2_with fail
     clear a8;refine(Lm v U m V k t b i 12 _ a1.o HF.o dC dC (fun e r M=>by have:=CO (show r <= 8 by have:=a0.o;omega) (HV.o e);omega) (fun i G=>(R.o i G).2.1) (fun i G=>(R.o i G).2.2) (a7.o.below C.o)).mono ?_;rintro e w6 ⟨⟨z,yy,rfl,a4⟩,F⟩;replace C:=bT C F;clear F;clear a1;rw[<- HE.o] at a4
     rcases a4 with ⟨h1,_,_⟩ | ⟨_,⟨_,rfl,rfl⟩ | ⟨j,hj,ar,_⟩⟩
     ·exact absurd rfl h1
     ·go_wp2_with fail
      go_returns;exact⟨rfl,C.o⟩
     ·have:=aB.o;omega
    ·by_cases aq:(m:Int) <= i
     ·have hd:decide (i<0)=false:=decide_eq_false ac;have ab:decide ((m:Int) <= i)=true:=decide_eq_true aq;have aB:Hid (i<0 \/ (m:Int) <= i):=lH (.inr aq);clear ac aq;go_wp2_with fail
      clear hd ab;refine(vX none AR 0 m 0 T k (fun _=>⟨#[]⟩) t b _ ⟨⟨_,_,rfl,Nat.le_refl _,Nat.zero_le _, .inl rfl⟩, .inl ⟨rfl,rfl⟩⟩ (HR.o.below C.o) dC (by have:=a0.o;omega) (fun i G=>by have:=(R.o i G).1;omega)).mono ?_;rintro e w5 ⟨vc,uc,rfl,a3,W,F⟩;obtain⟨Av,cv,rfl,_,_⟩:=eY.shape a3;clear a3;replace C:=bT C F;clear F;obtain⟨U,V,rfl,_,_⟩:=W.shape;have a1:=lH W.kG;clear W;have a8:∀w:World,(Instr.field 25 (.agg #[.slice Av 0 cv, .slice U m V]) 1).run prog w= .ok (.slice U m V) w:=fun _=>by kernel_rfl
      go_wp2_with fail
      clear a8;refine(Lm v U m V k t b i 12 _ a1.o HF.o dC dC (fun e r M=>by have:=CO (show r <= 8 by have:=a0.o;omega) (HV.o e);omega) (fun i G=>(R.o i G).2.1) (fun i G=>(R.o i G).2.2) (a7.o.below C.o)).mono ?_;rintro e w6 ⟨⟨z,yy,rfl,a4⟩,F⟩;replace C:=bT C F;clear F;clear a1;rw[<- HE.o] at a4
      rcases a4 with ⟨h1,_,_⟩ | ⟨_,⟨_,rfl,rfl⟩ | ⟨j,hj,ar,_⟩⟩
      ·exact absurd rfl h1
      ·go_wp2_with fail
       go_returns;exact⟨rfl,C.o⟩
      ·have:=aB.o;omega
     ·have hd:decide (i<0)=false:=decide_eq_false ac;have ab:decide ((m:Int) <= i)=false:=decide_eq_false aq;have aP:Hid (¬(i<0 \/ (m:Int) <= i)):=lH oM;clear ac aq;go_wp2_with fail
      clear hd ab;refine(vX none AR 0 m 0 T k (fun _=>⟨#[]⟩) t b _ ⟨⟨_,_,rfl,Nat.le_refl _,Nat.zero_le _, .inl rfl⟩, .inl ⟨rfl,rfl⟩⟩ (HR.o.below C.o) dC (by have:=a0.o;omega) (fun i G=>by have:=(R.o i G).1;omega)).mono ?_;rintro e w5 ⟨vc,uc,rfl,a3,W,F⟩;obtain⟨Av,cv,rfl,_,_⟩:=eY.shape a3;clear a3;replace C:=bT C F;clear F;obtain⟨U,V,rfl,_,_⟩:=W.shape;have a1:=lH W.kG;clear W;have a8:∀w:World,(Instr.field 25 (.agg #[.slice Av 0 cv, .slice U m V]) 1).run prog w= .ok (.slice U m V) w:=fun _=>by kernel_rfl
      go_wp2_with fail
      clear a8;refine(Lm v U m V k t b i 12 _ a1.o HF.o dC dC (fun e r M=>by have:=CO (show r <= 8 by have:=a0.o;omega) (HV.o e);omega) (fun i G=>(R.o i G).2.1) (fun i G=>(R.o i G).2.2) (a7.o.below C.o)).mono ?_;rintro e w6 ⟨⟨z,yy,rfl,a4⟩,F⟩;replace C:=bT C F;clear F;clear a1;rw[<- HE.o] at a4
      rcases a4 with ⟨h1,_,_⟩ | ⟨_,⟨bc,_,_⟩ | ⟨j,rfl,ar,rfl,A,bq,c,aY,ao⟩⟩
      ·exact absurd rfl h1
      ·exact absurd bc aP.o
      ·clear aP;have Y:=lH ar;have av:=lH aY;have b1:=lH ao;have aR:=lH (aQ.o HE.o.symm).2;have b9:=lH (HV.o HE.o.symm);clear ar aY ao;have aC:=lH (HR.o.kG.below C.o);obtain⟨gR,oR,rfl,aW⟩:=aC.o.at_ (by have:=Y.o;omega);obtain⟨u,k0,k1,az⟩:=aW j Y.o;have aO:=lH (mo aR.o);rw[show k j=v.toNat from aO.o.2.2.1 j Y.o] at az;obtain⟨X,xc,rfl,_,_⟩:=az.shape;have ag:=lH az;have C0:=lH k0;have C1:=lH k1;clear aW az k0 k1
       go_upto_region 9 with (fail)
       have ar:((j:Nat):Int)<((m:Nat):Int):=by have:=Y.o;omega
       have bj:((j:Nat):Int)+1 <= ((m:Nat):Int):=oM
       have bi:((j:Nat):Int) <= ((T:Nat):Int):=by have:=aa.o;omega
       have bl:((m:Nat):Int) <= ((T:Nat):Int):=by have:=aa.o;omega
       have bk:((m:Nat):Int) <= 8:=by have:=a0.o;omega
       obtain⟨e,he⟩:=eX (j+1);obtain⟨a2,aH⟩:∃a:Addr,a=if T=e then(⟨gR,oR,none⟩:Addr) else⟨gR,oR+e*2,none⟩:=⟨_,rfl⟩
       have HW:Hid (IntKind.i64.wrap (((j:Nat):Int)+1)=((e:Nat):Int)):=lH (by rw[IntWalk.i64_in (((j:Nat):Int)+1) oM,he];simp);have af:=lH he;have aN:=lH aH;have aD:Hid (fZ w6 (.slice (some ⟨gR,oR,none⟩) j T) j k t b):=lH (M9 aC.o oM (by have:=aa.o.1;omega) aa.o.2 oM)
       have aE:Hid (fZ w6 (.slice (some a2) (m-e) (T-e)) (m-e) (fun r=>k (j+1+r)) (fun r=>t (j+1+r)) (fun r=>b (j+1+r))):=lH (by
        by_cases h:T=e
        ·have h0:m-e=0:=by have:=aa.o.1;omega
         rw[h0];exact⟨_,_,rfl,Nat.zero_le _,Nat.le_trans (Nat.sub_le _ _) aa.o.2, .inl rfl⟩
        ·rw[aH,if_neg h];exact Ma aC.o oM (by have:=aa.o.1;omega) (Nat.le_trans (Nat.sub_le _ _) aa.o.2) oM (by rw[he]))
       have bh:((e:Nat):Int) <= ((m:Nat):Int):=oM
       have bg:((e:Nat):Int) <= ((T:Nat):Int):=oM
       clear he aH
       skip
       go_wp2_with fail
       have a6:=rG w6;have ba:=eG C0.o;have aS:=C0.o;have bb:=eG C1.o;have aT:=C1.o;have KS:=lH (kC aS (kN aT));clear ba aS bb aT;refine rL KS.o (fun i=>false) ?_;have O:=KS.o _ a6.o;refine tKs 0 67 O ?_;refine tKs 1 68 O ?_;refine tKs 2 69 O ?_;refine tKs 3 70 O ?_;refine tKs 4 71 O ?_;refine tKs 5 72 O ?_;refine tKs 6 73 O ?_;refine tKs 7 74 O ?_;refine tKs 8 75 O ?_;refine jf (i:=9) (v:= .int .i64 ((e:Nat):Int)) (some 76) rfl (by rfl) kR kR kR kR (fun _ _ _ h=>h) (Or.inl ⟨by rfl,?_⟩) O ?_
       ·(intro w' aG;clear aG;go_simp;rw[HW.o])
       simp only[Act.put,List.setIfInBounds_toArray,List.set_cons_zero,List.set_cons_succ];refine jf (i:=10) (v:= .slice (some a2) (m-e) (T-e)) (some 77) rfl (by rfl) kR kR kR kR (fun _ _ _ h=>h) (Or.inl ⟨by rfl,?_⟩) O ?_
       ·(intro w' aG;clear aG;go_simp;(first | done | (rw[if_pos ⟨by omega,by omega⟩,aN.o];split <;> rfl) | (rw[aN.o];split <;> rfl) | trace_state))
       simp only[Act.put,List.setIfInBounds_toArray,List.set_cons_zero,List.set_cons_succ];refine rD 11 (fun K hK=> ?_);go_simp;obtain⟨w8,aA⟩:=eX (w6.alloc (.cells #[.slice (some ⟨gR,oR,none⟩) j T, .slice (some a2) (m-e) (T-e)] 23));obtain⟨gB,aJ⟩:=eX (w6.heap.size);have F:Below w6.heap.size w6 w8:=by rw[aA];exact eD _ _
       have aF:Hid (Row w8 gB 23 [.slice (some ⟨gR,oR,none⟩) j T, .slice (some a2) (m-e) (T-e)]):=lH (by rw[aA,aJ];exact eP _ _);rw[<- aA];have aX:w6.heap.size=gB:=aJ.symm;rw[aX];clear aA aJ;replace ag:=lH (ag.o.below F);replace aD:=lH (aD.o.below F);replace aE:=lH (aE.o.below F);replace C:=bT C F;replace a6:=bT a6 F;clear F O;have O:=KS.o _ a6.o;refine kH hK O ?_;clear hK K aX;refine rD 12 (fun K hK=> ?_);go_simp;refine(M6 gB ⟨gR,oR,none⟩ a2 j (m-e) T (T-e) k (fun r=>k (j+1+r)) t (fun r=>t (j+1+r)) b (fun r=>b (j+1+r)) _ (aF.o.below (Below.refl _ _).drew aF.o.lt) (aD.o.below (Below.refl _ _).drew) (aE.o.below (Below.refl _ _).drew) (by have:=a0.o;have:=Y.o;omega) (by have:=a0.o;omega)).mono ?_;rintro e aM ⟨vv,rfl,aL,ad⟩;have ad:Below w8.heap.size w8 aM:=bD ad;replace ag:=lH (ag.o.below ad);replace C:=bT C ad;replace a6:=bT a6 ad;obtain⟨Ac,cc,rfl,_,_⟩:=aL.shape;have b7:=lH aL;clear aL aF;clear O ad;have O:=KS.o _ a6.o;refine kH hK O ?_;clear hK K;have ae:Hid (∀r,r<j+ (m-e) -> del j r<m):=lH (fun r M=>by have:=af.o;have:=Y.o;unfold del;split <;> omega);have b2:Hid (fD v.toNat (j+ (m-e)) (jn j k (fun r=>k (j+1+r))) (t j) (jn j t (fun r=>t (j+1+r))) (jn j b (fun r=>b (j+1+r)))=0):=lH (Mc aR.o Y.o (by have:=af.o;have:=Y.o;omega) (del j) ae.o (fun r _=>Lj j k r) (fun r _=>Lj j t r) (fun r _=>Lj j b r));have aZ:Hid (b j=eF (bq j)):=lH (jE (av.o.bounds j Y.o));have b3:Hid ((b j).size <= 12):=lH (R.o j Y.o).2.2;have b5:Hid (∀c,c<v.toNat -> (t j c).size <= 12):=lH (fun c hc=>(R.o j Y.o).2.1 c (by rw[aO.o.2.2.1 j Y.o];exact hc));have b6:Hid (∀r,r<(j+ (m-e)) -> ∀c,c<(jn j k (fun r=>k (j+1+r))) r -> ((jn j t (fun r=>t (j+1+r))) r c).size <= 12):=lH (fun r M c hc=>by rw[Lj j t r];rw[Lj j k r] at hc;exact(R.o _ (ae.o r M)).2.1 c hc);have b4:Hid (∀r,r<(j+ (m-e)) -> ((jn j b (fun r=>b (j+1+r))) r).size <= 12):=lH (fun r M=>by rw[Lj j b r];exact(R.o _ (ae.o r M)).2.2);refine rD 13 (fun K hK=> ?_);go_simp;refine(M0 X Ac v.toNat xc (j+ (m-e)) cc (t j) (b j) (jn j k (fun r=>k (j+1+r))) (jn j t (fun r=>t (j+1+r))) (jn j b (fun r=>b (j+1+r))) (bq j) _ (by exact ag.o) (by exact b7.o) b2.o aZ.o b3.o b9.o (by have:=a0.o;have:=af.o;have:=Y.o;omega) b5.o b6.o b4.o (a7.o.below C.o) (aw.o.below C.o)).mono ?_;rintro e be ⟨z2,rfl,ay,ah⟩;have ah:Below aM.heap.size aM be:=bD ah;replace C:=bT C ah;replace a6:=bT a6 ah;have b0:=lH ay;clear ay;clear O ah;have O:=KS.o _ a6.o;refine kH hK O ?_;clear hK K;refine tKs 14 66 O ?_;refine tKs 15 81 O ?_;refine tKs 16 82 O ?_;refine tKs 17 11 O ?_;refine tKs 18 12 O ?_;refine dN ?_ _;clear O KS a6
       have bd:z=z2:=by
        obtain⟨A2,bf,c2,aK,ay⟩:=b0.o;have ao:=b1.o;obtain⟨h1,h2⟩:=LH (m:=m) Y.o;rw[h1,show m-1=j+ (m-e) by have:=af.o;have:=Y.o;omega] at ao;have h3:∀r,r<j+ (m-e) -> (wo (List.range m) j).getD r 0=del j r:=fun r M=>h2 r (by have:=af.o;have:=Y.o;omega)
        refine M8 (fun r M c hc=> ?_) (fun r M=> ?_) (fun c hc=>lq (av.o.rows j Y.o c hc) (aK.obj c hc)) ao ay
        ·unfold pick;rw[h3 r M];exact lq (av.o.rows _ (ae.o r M) c hc) (by have h:=aK.rows r M c hc;rw[Lj j t r] at h;exact h)
        ·unfold pick;rw[h3 r M];exact lq (av.o.bounds _ (ae.o r M)) (by have h:=aK.bounds r M;rw[Lj j b r] at h;exact h)
       subst bd;go_wp2_with fail
       go_returns;exact⟨rfl,C.o⟩
   ·have Z:=lH h0;clear h0;have a5:((E:Nat):Int)≠0:=by have:=Z.o;omega
    have aj:(((E:Nat):Int) !=0)=true:=by simpa using a5
    have am:(E !=0)=true:=by have:=Z.o;simpa using this
    have al:(((E:Nat):Int)== ((E:Nat):Int))=true:=by simp
    have ak:(((E:Nat):Int)==0)=false:=by simpa using a5
    have an:(E==0)=false:=by have:=Z.o;simpa using this
    go_wp2_with fail
    clear a5 aj am al ak an;refine(vX none AR 0 m 0 T k (fun _=>⟨#[]⟩) t b _ ⟨⟨_,_,rfl,Nat.le_refl _,Nat.zero_le _, .inl rfl⟩, .inl ⟨rfl,rfl⟩⟩ (HR.o.below C.o) dC (by have:=a0.o;omega) (fun i G=>by have:=(R.o i G).1;omega)).mono ?_;rintro e w5 ⟨vc,uc,rfl,a3,W,F⟩;obtain⟨Av,cv,rfl,_,_⟩:=eY.shape a3;clear a3;replace C:=bT C F;clear F;obtain⟨U,V,rfl,_,_⟩:=W.shape;have a1:=lH W.kG;clear W;have a8:∀w:World,(Instr.field 25 (.agg #[.slice Av 0 cv, .slice U m V]) 1).run prog w= .ok (.slice U m V) w:=fun _=>by kernel_rfl
    go_wp2_with fail
    clear a8;refine(Lm v U m V k t b i 12 _ a1.o HF.o dC dC (fun e r M=>by have:=CO (show r <= 8 by have:=a0.o;omega) (HV.o e);omega) (fun i G=>(R.o i G).2.1) (fun i G=>(R.o i G).2.2) (a7.o.below C.o)).mono ?_;rintro e w6 ⟨⟨z,yy,rfl,a4⟩,F⟩;replace C:=bT C F;clear F;clear a1;rw[<- HE.o] at a4
    rcases a4 with ⟨_,rfl,rfl⟩ | ⟨h1,_⟩
    ·have a5:((E:Nat):Int)≠0:=by have:=Z.o;omega
     have aj:(((E:Nat):Int) !=0)=true:=by simpa using a5
     have am:(E !=0)=true:=by have:=Z.o;simpa using this
     have al:(((E:Nat):Int)== ((E:Nat):Int))=true:=by simp
     have ak:(((E:Nat):Int)==0)=false:=by simpa using a5
     have an:(E==0)=false:=by have:=Z.o;simpa using this
     go_wp2_with fail
     go_returns;exact⟨rfl,C.o⟩
    ·exact absurd h1 Z.o
  ·by_cases ax:v <= 96
   ·have hd:decide (6<v)=true:=decide_eq_true oM;have ab:decide (v <= 96)=true:=decide_eq_true ax;clear h6 ax;go_wp2_with fail
    clear hd ab;refine(pW _ (a7.o.below C.o) (aw.o.below C.o)).mono ?_;rintro e wk ⟨rfl,F⟩;replace C:=bT C F;clear F;go_wp2_with fail
    go_returns;exact⟨rfl,C.o⟩
   ·have hd:decide (6<v)=true:=decide_eq_true oM;have ab:decide (v <= 96)=false:=decide_eq_false ax;have HV:Hid (jF v m k t b=0 -> v.toNat <= 6):=lH (fun e=>by unfold jF at e;rw[if_pos oM] at e;cases e);have b8:Hid (96<v):=lH oM;clear h6 ax;go_wp2_with fail
    clear hd ab;refine(CF v AR m T k t b _ (HR.o.kG.below C.o) HF.o).mono ?_;rintro e w3 ⟨M,F⟩;replace C:=bT C F;clear F;obtain⟨AO,nO,cO,A4,m4,c4,rfl,hz⟩:=M.cases;have aQ:Hid (jF v m k t b=0 -> 0 <= v /\ fD v.toNat m k (fun _=>⟨#[48]⟩) t b=0):=lH (fun e=>⟨(hz e).2.2.2.2.2.1.1,(hz e).2.2.2.2.2.2⟩);clear M hz;obtain⟨E,hE⟩:=eX (jF v m k t b);rw[<- hE];have HE:=lH hE;clear hE;obtain⟨w4,a9⟩:=eX (w3.alloc (.cells #[.slice AO nO cO, .slice A4 m4 c4] 25));obtain⟨gP,ap⟩:=eX (w3.heap.size);have ai:Below w3.heap.size w3 w4:=by rw[a9];exact eD _ _
    have PB:Hid (Row w4 gP 25 [.slice AO nO cO, .slice A4 m4 c4]):=lH (by rw[a9,ap];exact eP _ _);replace C:=bT C ai;clear ai PB
    go_upto_region 4 with (fail)
    rw[<- a9];clear a9 ap;have h0:E≠0:=by rw[HE.o];unfold jF;rw[if_pos (by have:=b8.o;omega)];decide
    have Z:=lH h0;clear h0;have a5:((E:Nat):Int)≠0:=by have:=Z.o;omega
    have aj:(((E:Nat):Int) !=0)=true:=by simpa using a5
    have am:(E !=0)=true:=by have:=Z.o;simpa using this
    have al:(((E:Nat):Int)== ((E:Nat):Int))=true:=by simp
    have ak:(((E:Nat):Int)==0)=false:=by simpa using a5
    have an:(E==0)=false:=by have:=Z.o;simpa using this
    go_wp2_with fail
    clear a5 aj am al ak an;refine(vX none AR 0 m 0 T k (fun _=>⟨#[]⟩) t b _ ⟨⟨_,_,rfl,Nat.le_refl _,Nat.zero_le _, .inl rfl⟩, .inl ⟨rfl,rfl⟩⟩ (HR.o.below C.o) dC (by have:=a0.o;omega) (fun i G=>by have:=(R.o i G).1;omega)).mono ?_;rintro e w5 ⟨vc,uc,rfl,a3,W,F⟩;obtain⟨Av,cv,rfl,_,_⟩:=eY.shape a3;clear a3;replace C:=bT C F;clear F;obtain⟨U,V,rfl,_,_⟩:=W.shape;have a1:=lH W.kG;clear W;have a8:∀w:World,(Instr.field 25 (.agg #[.slice Av 0 cv, .slice U m V]) 1).run prog w= .ok (.slice U m V) w:=fun _=>by kernel_rfl
    go_wp2_with fail
    clear a8;refine(Lm v U m V k t b i 12 _ a1.o HF.o dC dC (fun e r M=>by have:=CO (show r <= 8 by have:=a0.o;omega) (HV.o e);omega) (fun i G=>(R.o i G).2.1) (fun i G=>(R.o i G).2.2) (a7.o.below C.o)).mono ?_;rintro e w6 ⟨⟨z,yy,rfl,a4⟩,F⟩;replace C:=bT C F;clear F;clear a1;rw[<- HE.o] at a4
    rcases a4 with ⟨_,rfl,rfl⟩ | ⟨h1,_⟩
    ·have a5:((E:Nat):Int)≠0:=by have:=Z.o;omega
     have aj:(((E:Nat):Int) !=0)=true:=by simpa using a5
     have am:(E !=0)=true:=by have:=Z.o;simpa using this
     have al:(((E:Nat):Int)== ((E:Nat):Int))=true:=by simp
     have ak:(((E:Nat):Int)==0)=false:=by simpa using a5
     have an:(E==0)=false:=by have:=Z.o;simpa using this
     go_wp2_with fail
     go_returns;exact⟨rfl,C.o⟩
    ·exact absurd h1 Z.o
 ·go_wp2_with fail
  refine(pW _ (a7.o.below C.o) (aw.o.below C.o)).mono ?_;rintro e wk ⟨rfl,F⟩;replace C:=bT C F;clear F;go_wp2_with fail
  go_returns;exact⟨rfl,C.o⟩
end
section
namespace cRedun
open Go.ChangeShapes Go.WideShapes Go.ChangeAt Go.RowKit
open Go.ChangeMaps (open_string)
set_option maxRecDepth 100000 in
theorem contract(H:Type)(enc:TypeId × Value -> H)(W:World)(base:Nat)(args:Array Value)(E R:List (DataW H))(O:List MemPlace)
  (h:∀ (j:Nat) t v,Tryz.f10.params[j]? =some t -> args[j]? =some v -> Value.okWide prog W .any base t v)
  (F:DataW.Whole enc prog Tryz.f10.params.toList Rows.linearRedundantSpec.vars false W args.toList E R O) (T:laidMetH prog Rows.linearRedundantRow.laid W) (U:W.ShapedOpen prog):
  Calls prog 10 args W fun e C=>∃v,e= .returned v /\ Rows.linearRedundantSpec.post enc prog Tryz.f10 false true false false W args v C:=by
 have G:=F;obtain⟨p,q,hA0,X,rfl,a0,a1⟩:=F;have r:DataW.TrodAll enc prog W 0 (fun _=>true) true Tryz.f10.params.toList args.toList E p:=hA0;have hA2:=r;rw[Tryz.params10] at r h;obtain⟨v0,v1,v2,d0,d1,d2,p0,p1,p2,rfl,rfl,rfl,h0,h1,h2⟩:=trodAll_three r;obtain⟨rfl,rfl⟩:=trodVars_none X;rw[List.append_nil] at G;obtain⟨x0,rfl⟩:=okWide_int underlying3 (h 0 3 v0 rfl rfl);obtain⟨m1,k1,t1,M,x1⟩:=IK (h 1 23 v1 rfl rfl) h1;obtain⟨x2,rfl⟩:=okWide_int underlying3 (h 2 3 v2 rfl rfl);have V:Tab W:=Aw (show laidMet prog Rows.linearRedundantRow.laid W from T);refine(Md x0 v1 x2 m1 k1 t1 M W x1 (Al U) V).mono fun e C ⟨Z,Y⟩=> ?_
 subst Z;exact⟨_,rfl,zZ G laidOut kR rfl hA2 rfl rfl (fun _ _ _=>trodAll_cons_mk (shut_bool underlying4 _) trodAll_mk0) Y (ok_one kR rfl (okWide_bool_mk underlying4 _))⟩
theorem reads(h:Os){H:Type}(enc:TypeId × Value -> H):∃r,DataW.whole enc prog ((qZ h).forCall (fun _ _=>0) ⟨#[], #[.int .i64 0, .slice none 0 0, .int .i64 0],[]⟩).memory Tryz.f10.params.toList Rows.linearRedundantSpec.vars false (#[.int .i64 0, .slice none 0 0, .int .i64 0]:Array Value).toList 8=some ([.lit (.int .i64 0), .nil, .lit (.int .i64 0)],[],r):=
 ⟨[],by kernel_rfl⟩
set_option maxRecDepth 100000 in
theorem lifted(h:Os)(V:h.Started)(H:Type)(enc:TypeId × Value -> H)(F:Stop.Interp):
  ReturnsInHanded {} Tryz.checked h 10 .any ((OpenSpec.ofChange Rows.linearRedundantSpec).preRow enc prog Tryz.f10 Rows.linearRedundantRow.domain false Rows.linearRedundantRow.laid) (((OpenSpec.ofChange Rows.linearRedundantSpec).at F).post enc prog Tryz.f10 false true false false):=by
 obtain⟨X,U⟩:=reads h enc
 refine returnsInHanded_of_row (C:=Tryz.checked) (s:=OpenSpec.ofChange Rows.linearRedundantSpec) own V kR func10
  (witness_row_atRef (enc:=enc) (C:=Tryz.checked) false (qZ h) #[.int .i64 0, .slice none 0 0, .int .i64 0] rfl kR kR kR
   (OpenSpec.preRow_of_cond 8 U kR (fun k R=>by cases R) kR (AA h _))) ?_
 intro W base args t E r T O _ _ _ G M _;exact contract H enc W base args t E r T O G M
set_option maxRecDepth 100000 in
theorem wP:Rows.linearRedundantRow.inPlace=prog.inPlace 10:=by kernel_rfl
set_option maxRecDepth 100000 in
theorem wR:Rows.linearRedundantRow.unfollowed=prog.unfollowed 10:=by kernel_rfl
set_option maxRecDepth 100000 in
theorem wT:Rows.linearRedundantRow.recurses=prog.recurses 10:=by kernel_rfl
set_option maxRecDepth 100000 in
theorem wU:Rows.linearRedundantRow.named=prog.varsNamed 10:=by kernel_rfl
set_option maxRecDepth 100000 in
theorem joined:joinedFacts prog 10 Tryz.f10 Rows.linearRedundantSpec Rows.linearRedundantRow=true:=AB wP wR wT wU rfl rfl kR
set_option maxRecDepth 100000 in
theorem said:Rows.LinearRedundantSaid:=
 OpenClaim.holds_of_cond 10 Tryz.f10 rfl rfl rfl rfl rfl rfl rfl ⟨rfl,rfl,rfl,rfl,rfl⟩ rfl rfl rfl rfl rfl kR func10 joined
  (of_decide_eq_true kR) (by unfold Func.isWrapper;first | (rw[if_pos (by decide+kernel)];kernel_rfl) | (rw[if_neg (by decide+kernel)];exact⟨rfl,rfl⟩))
  (fun h r H enc _ F=>by rw[OpenClaim.pre_eq_preRow];exact lifted h r H enc F)
theorem plain(f:FuncId)(h:Func)(E:Tryz.pinned.checked.prog.funcNamed "dowel/dowellaw06.LinearRedundant" =some f)(F:Tryz.pinned.checked.prog.funcs[f]? =some h):
  true=Tryz.pinned.checked.prog.looks [] /\ ∀ (j:Nat) t,h.params[j]? =some t -> Tryz.pinned.checked.prog.wantsStandIn t=false:=by
 obtain rfl:f=10:=Option.some.inj ((show prog.funcNamed "dowel/dowellaw06.LinearRedundant" =some 10 by kernel_rfl).symm.trans E) |>.symm
 obtain rfl:h=Tryz.f10:=(Option.some.inj (func10.symm.trans F)).symm;refine⟨by kernel_rfl,fun j t C=> ?_⟩;rw[Tryz.params10] at C;have r:= Array.mem_of_getElem? C;have r:t=3 \/ t=23 \/ t=3:=by simpa using r
 rcases r with rfl | rfl | rfl
 ·exact(show prog.wantsStandIn 3=false by kernel_rfl)
 ·exact(show prog.wantsStandIn 23=false by kernel_rfl)
 ·exact(show prog.wantsStandIn 3=false by kernel_rfl)
theorem card:Rows.LinearRedundantCardSaid:=
 Claim7.holds_tied_plain_at .later [] _ _ _ _ said (fun _ h=>by cases h) kR (fun _ h=>by cases h) linearRedundant_row_tie rfl ⟨rfl,rfl⟩ kR rfl plain kR
#print axioms card
end cRedun
end
end Go.Proofs.YtdefghfjhgmpfaaGreatDoor
