/- Parts of this proof: LPermits. -/
import Derived.Test.YtokagbahdkfagaaGreatDoorMBV
import Derived.Test.YtokagbahdkfagaaGreatDoorMBW
import Derived.Test.YtokagbahdkfagaaGreatDoorMBX
import Derived.Test.YtokagbahdkfagaaGreatDoorMBS
import Derived.Test.YtokagbahdkfagaaGreatDoorMBL
import Derived.Test.YtokagbahdkfagaaGreatDoorMBN
namespace Go.Proofs.YtokagbahdkfagaaGreatDoor
open Go.Proofs.Tryz
open Go.RowKit
open Lp (RL upd eH)
set_option maxRecDepth 100000 in
set_option maxHeartbeats 12800000 in
theorem JJ(c:Chn)(AL AG ABx AT:Option Addr)(qL qG qB qT:Nat)(va:Value)(N:Nat)(s:Nat -> ByteArray)(O:Nat -> Int)(w:World)(hc:CIn w (.slice AL c.nL qL) (.slice AG c.nG qG) (.slice ABx c.nB qB) (.slice AT c.nT qT) c)(ha:TS w va N s)(aG:∀i,i<5 -> 0 <= O i /\ O i <= 255)(hg:fF w)(ht:Tab w):
  Calls prog 5 #[.agg #[.slice AL c.nL qL, .slice AG c.nG qG, .slice ABx c.nB qB, .slice AT c.nT qT],va, .agg #[.int .u8 (O 0), .int .u8 (O 1), .int .u8 (O 2), .int .u8 (O 3), .int .u8 (O 4)]] w fun e w'=>e= .returned (.bool true) /\ Below w.heap.size w w':=by
 obtain⟨X,cX,rfl,ay,aA⟩:=ha.shape;have aK:=lH hc;have HA:=lH ha;have ae:=lH aG;have a3:=lH hg;have ab:=lH ht;have aL:=lH (Nat.le_trans ay aA);clear hc ha aG hg ht ay aA;obtain⟨W,hW,RC,RU,t⟩:=eN2 w [.slice AL c.nL qL, .slice AG c.nG qG, .slice ABx c.nB qB, .slice AT c.nT qT] 49 [.int .u8 (O 0), .int .u8 (O 1), .int .u8 (O 2), .int .u8 (O 3), .int .u8 (O 4)] 64;go_enter func5,ntmps5
 go_upto_region 1 with (fail)
 rw[<- hW];clear hW;go_wp2_with fail
 refine(uX _ (a3.o.below t.o) (ab.o.below t.o)).mono ?_;rintro e w1 ⟨rfl,r⟩;replace RC:=rW RC r;replace RU:=rW RU r;replace t:=bT t r;clear r;by_cases h8:(8:Int)<(N:Nat)
 ·have al:decide ((8:Int)<(N:Nat))=true:=decide_eq_true h8;go_wp2_with fail
  clear h8 al;refine(uX _ (a3.o.below t.o) (ab.o.below t.o)).mono ?_;rintro e w3 ⟨rfl,r⟩;replace t:=bT t r;clear r;go_wp2_with fail
  go_returns;exact⟨rfl,t.o⟩
 have al:decide ((8:Int)<(N:Nat))=false:=decide_eq_false h8;have aj:Hid (N <= 8):=lH oM;go_wp2_with fail
 clear h8 al
 go_loopw [7] (fun iv wr=>∃ (k:Nat),k <= N /\ iv= .int .i64 k /\ Hid (∀j,j<k -> (s j).size <= 60) /\ Hid (Row wr w.heap.size 49 [.slice AL c.nL qL, .slice AG c.nG qG, .slice ABx c.nB qB, .slice AT c.nT qT]) /\ Hid (Row wr (w.heap.size+1) 64 [.int .u8 (O 0), .int .u8 (O 1), .int .u8 (O 2), .int .u8 (O 3), .int .u8 (O 4)]) /\ Hid (Below w.heap.size w wr)) (fun iv _=>N-(intOf iv).toNat)
 case atStart=>exact⟨0,Nat.zero_le _,rfl,lH (fun j hj=>absurd hj oM),RC,RU,t⟩
 case round=>
  clear RC RU t;obtain⟨k,hk,rfl,HF,RC,RU,t⟩:=hrel;by_cases aQ:((k:Nat):Int)<(N:Nat)
  ·have aF:k<N:=oM
   obtain⟨gA,oA,rfl,aB⟩:=HA.o.at_ oM;have aV:=cell_below t.o (aB k aF);have aY:=eF aV;have aX:=aj.o;clear aB;by_cases aO:(60:Int)<((s k).size:Nat)
   ·go_wp2_with fail
    go_returns;exact⟨rfl,t.o⟩
   ·have aJ:=lH aO;go_wp2_with fail
    go_roundw
    case rel=>exact⟨k+1,aF,by simp,lH (fun j hj=>by by_cases e:j=k;rw[e];have:=aJ.o;omega;exact HF.o j oM),RC,RU,t⟩
    case measure=>exact mZ
  ·have aE:k=N:=oM
   rw[aE] at HF;clear aE;obtain⟨aR,aS,aT,aU⟩:=aT4 RC.o;have aW:=RC.o.lt;go_wp2_with fail
   clear hk aQ aR aS aT aU aW;refine(Jz c AL AG ABx AT qL qG qB qT _ (aK.o.below t.o) (ab.o.below t.o) (a3.o.below t.o)).mono ?_;rintro e w4 ⟨P,A,C,cA,cC,rfl,U,hP,r⟩;replace RU:=rW RU r;replace t:=bT t r;clear r;have T:=lH U;have R:=lH hP;clear U hP;obtain⟨w5,ag⟩:=eX (w4.alloc (.cells #[.slice A P.n cA, .slice C P.m cC] 58));obtain⟨gP,an⟩:=eX (w4.heap.size);have af:Below w4.heap.size w4 w5:=by rw[ag];exact eD _ _
   have G:Hid (Row w5 gP 58 [.slice A P.n cA, .slice C P.m cC]):=lH (by rw[ag,an];exact eO _ _);replace RU:=rW RU af;replace T:=lH (T.o.below af);replace t:=bT t af;clear af
   go_upto_region 9 with (fail)
   rw[<- ag, <- an];clear ag an;obtain⟨a0,a2⟩:=aT2 G.o;have a1:=G.o.lt;go_wp2_with fail
   clear a0 a2 a1;refine(Ja P A C cA cC 20 _ N s _ T.o (HA.o.below t.o) (by have:=aj.o;omega) HF.o (fun _ i Z=>(R.o.frm i Z).2.size) (fun _ i Z=>(R.o.frm i Z).1.size) dC (a3.o.below t.o)).mono ?_;rintro e w6 ⟨M,r⟩;replace RU:=rW RU r;replace G:=rW G r;replace T:=lH (T.o.below r);replace t:=bT t r;clear r
   rcases M with ⟨h0,_⟩ | ⟨_,M⟩
   ·exact absurd R.o.check h0
   have ak:=lH M;clear M;obtain⟨E,hE⟩:=eX (jH P.n N s);rw[<- hE] at ak;have HE:=lH hE;clear hE;have a9:Hid (∃ (ib:Bool) (E2:Nat),e= .returned (.tuple #[.bool ib, .int .i64 E2]) /\ ((E≠0 /\ ib=false /\ E2=E) \/ (E=0 /\ E2=0 /\ (ib=true↔Perm P (fun j=>qof (s j)))))):=lH (by rcases ak.o with ⟨h,V⟩ | ⟨h,⟨U,V⟩ | ⟨U,V⟩⟩;exact⟨false,E,V, .inl ⟨h,rfl,rfl⟩⟩;exact⟨true,0,V, .inr ⟨h,rfl,fun _=>U,fun _=>rfl⟩⟩;exact⟨false,0,V, .inr ⟨h,rfl,fun e=>(by cases e),fun e=>absurd e U⟩⟩);obtain⟨ib,E2,rfl,aC⟩:=a9.o;clear a9 ak;have a9:=lH aC;clear aC
   go_upto_region 10 with (fail)
   have a0:=aI 0 G;have a1:=G.o.lt;go_wp2_with fail
   clear a0 a1;refine(AB P.n _ N s _ (HA.o.below t.o) (by have:=aj.o;omega) (fun j hj=>Nat.le_trans (HF.o j hj) dC) (a3.o.below t.o)).mono ?_;rintro e w7 ⟨M,r⟩;replace RU:=rW RU r;replace G:=rW G r;replace T:=lH (T.o.below r);replace t:=bT t r;clear r;unfold rH at M;rw[<- HE.o] at M
   rcases M with ⟨h0,rfl⟩ | ⟨h0,g,hg,rfl,M⟩
   ·have H1:=lH h0
    rcases a9.o with ⟨_,rfl,rfl⟩ | ⟨e0,_⟩
    ·clear h0;have az:¬((E2:Nat):Int)=0:=by have:=H1.o;omega
     have aP:(((E2:Nat):Int) !=0)=true:=by simpa using az
     go_upto_region 16 with (fail)
     clear az aP;obtain⟨a0,a2⟩:=aT2 G.o;have a1:=G.o.lt;obtain⟨ao,ap,aq,ar,au⟩:=aT5 RU.o;have av:=RU.o.lt;go_wp2_with fail
     clear a0 a2 a1 ao ap aq ar au av;refine(Jo _ P A C cA cC O _ T.o R.o ae.o (ab.o.below t.o)).mono ?_;rintro e v1 ⟨Y,cY,rfl,hY,r⟩;replace G:=rW G r;replace T:=lH (T.o.below r);replace t:=bT t r;clear r;have HY:=lH hY;clear hY RC RU;have a6:Hid (∀j,j<P.n -> (eB (inX P O j)).size <= 60):=lH (fun j hj=>by have:=ky (Jc R.o ae.o hj);omega);have ac:Hid (jH P.n P.n (fun i=>eB (inX P O i))=0):=lH (by unfold jH;rw[if_neg (by simp)];exact jw.2 fun j _=>by rw[jA];exact nC _);have a0:=aI 0 G;have a1:=G.o.lt;go_wp2_with fail
     clear a0 a1;refine(AB P.n _ P.n (fun i=>eB (inX P O i)) _ HY.o (by have:=R.o.n5;omega) (fun j hj=>Nat.le_trans (a6.o j hj) dC) (a3.o.below t.o)).mono ?_;rintro e v2 ⟨M,r⟩;replace G:=rW G r;replace T:=lH (T.o.below r);replace HY:=lH (HY.o.below r);replace t:=bT t r;clear r
     rcases M with ⟨h0,_⟩ | ⟨_,gy,hg,rfl,M⟩
     ·exact absurd ac.o h0
     have a5:=lH (M.jD (Nat.le_refl _) (show P.n <= maxLen by have:=R.o.n5;unfold maxLen;omega));clear hg M
     go_upto_region 18 with (fail)
     obtain⟨a0,a2⟩:=aT2 G.o;have a1:=G.o.lt;go_wp2_with fail
     clear a0 a2 a1;refine(Ja P A C cA cC 20 _ P.n (fun i=>eB (inX P O i)) _ T.o HY.o (by have:=R.o.n5;omega) a6.o (fun _ i Z=>(R.o.frm i Z).2.size) (fun _ i Z=>(R.o.frm i Z).1.size) dC (a3.o.below t.o)).mono ?_;rintro e v3 ⟨M,r⟩;replace G:=rW G r;replace T:=lH (T.o.below r);replace a5:=lH (a5.o.below r);replace t:=bT t r;clear r
     rcases M with ⟨h0,_⟩ | ⟨_,⟨h0,_⟩ | ⟨_,M⟩⟩
     ·exact absurd R.o.check h0
     ·exact absurd ac.o h0
     have a8:Hid (∃jb:Bool,e= .returned (.tuple #[.bool jb, .int .i64 0]) /\ (jb=true↔Perm P (fun j=>qof (eB (inX P O j))))):=lH (by rcases M with ⟨U,V⟩ | ⟨U,V⟩;exact⟨true,V,fun _=>U,fun _=>rfl⟩;exact⟨false,V,fun e=>(by cases e),fun e=>absurd e U⟩);clear M;obtain⟨jb,rfl,ad⟩:=a8.o;have aa:=lH ad;clear ad a8
     go_upto_region 19 with (fail)
     obtain⟨a0,a2⟩:=aT2 G.o;have a1:=G.o.lt;go_wp2_with fail
     clear a0 a2 a1;refine(Jb P A C (some ⟨gy,0,none⟩) cA cC P.n 20 60 (fun j=>qof (eB (inX P O j))) _ T.o a5.o (zw R.o.check) (fun j hj=>ig (a6.o j hj) dC) (fun i Z=>(R.o.frm i Z).2.size) (fun i Z=>(R.o.frm i Z).1.size) dC dC (a3.o.below t.o)).mono ?_;rintro e v4 ⟨M,r⟩;replace t:=bT t r;clear r;have a4:Hid (∃kb:Bool,e= .returned (.bool kb) /\ (kb=true↔Perm P (fun j=>qof (eB (inX P O j))))):=lH (by rcases M with ⟨U,V⟩ | ⟨U,V⟩;exact⟨true,V,fun _=>U,fun _=>rfl⟩;exact⟨false,V,fun e=>(by cases e),fun e=>absurd e U⟩);clear M;obtain⟨kb,rfl,a7⟩:=a4.o;have ah:Hid (jb=kb):=lH (by cases jb <;> cases kb <;> first | rfl | exact absurd (aa.o.2 (a7.1 rfl)) dC | exact absurd (a7.2 (aa.o.1 rfl)) dC);clear a7 a4;obtain rfl:=ah.o;have am:(jb==jb)=true:=by simp
     go_wp2_with fail
     go_returns;exact⟨rfl,t.o⟩
    ·exact absurd e0 h0
   ·have H0:=lH h0
    rcases a9.o with ⟨e0,_⟩ | ⟨_,rfl,aD⟩
    ·exact absurd h0 e0
    have aw:=lH aD;have ai:Hid (N=P.n):=lH (by have h:=HE.o;rw[h0] at h;unfold jH at h;by_cases e:(N:Int)=((P.n:Nat):Int);omega;rw[if_pos e] at h;cases h);have aN:Hid (fD w7 (.slice (some ⟨g,0,none⟩) P.n P.n) P.n (fun j=>qof (s j))):=lH (by rw[<- ai.o];exact M.jD (Nat.le_refl _) aL.o);clear hg M aD h0;rw[ai.o]
    go_upto_region 14 with (fail)
    obtain⟨a0,a2⟩:=aT2 G.o;have a1:=G.o.lt;go_wp2_with fail
    clear a0 a2 a1;refine(Jb P A C (some ⟨g,0,none⟩) cA cC P.n 20 60 (fun j=>qof (s j)) _ T.o aN.o (zw R.o.check) (fun j hj=>ig (HF.o j (by have:=ai.o;omega)) dC) (fun i Z=>(R.o.frm i Z).2.size) (fun i Z=>(R.o.frm i Z).1.size) dC dC (a3.o.below t.o)).mono ?_;rintro e w8 ⟨M,r⟩;replace RU:=rW RU r;replace G:=rW G r;replace T:=lH (T.o.below r);replace t:=bT t r;clear r;have a4:Hid (∃rb:Bool,e= .returned (.bool rb) /\ (rb=true↔Perm P (fun j=>qof (s j)))):=lH (by rcases M with ⟨U,V⟩ | ⟨U,V⟩;exact⟨true,V,fun _=>U,fun _=>rfl⟩;exact⟨false,V,fun e=>(by cases e),fun e=>absurd e U⟩);clear M;obtain⟨rb,rfl,aH⟩:=a4.o;have ax:=lH aH;clear aH a4;have aM:Hid (ib=rb):=lH (by cases ib <;> cases rb <;> first | rfl | exact absurd (aw.o.2 (ax.o.1 rfl)) dC | exact absurd (ax.o.2 (aw.o.1 rfl)) dC);obtain rfl:=aM.o;have am:(ib !=ib)=false:=by simp
    go_upto_region 16 with (fail)
    clear am;obtain⟨a0,a2⟩:=aT2 G.o;have a1:=G.o.lt;obtain⟨ao,ap,aq,ar,au⟩:=aT5 RU.o;have av:=RU.o.lt;go_wp2_with fail
    clear a0 a2 a1 ao ap aq ar au av;refine(Jo _ P A C cA cC O _ T.o R.o ae.o (ab.o.below t.o)).mono ?_;rintro e v1 ⟨Y,cY,rfl,hY,r⟩;replace G:=rW G r;replace T:=lH (T.o.below r);replace t:=bT t r;clear r;have HY:=lH hY;clear hY RC RU;have a6:Hid (∀j,j<P.n -> (eB (inX P O j)).size <= 60):=lH (fun j hj=>by have:=ky (Jc R.o ae.o hj);omega);have ac:Hid (jH P.n P.n (fun i=>eB (inX P O i))=0):=lH (by unfold jH;rw[if_neg (by simp)];exact jw.2 fun j _=>by rw[jA];exact nC _);have a0:=aI 0 G;have a1:=G.o.lt;go_wp2_with fail
    clear a0 a1;refine(AB P.n _ P.n (fun i=>eB (inX P O i)) _ HY.o (by have:=R.o.n5;omega) (fun j hj=>Nat.le_trans (a6.o j hj) dC) (a3.o.below t.o)).mono ?_;rintro e v2 ⟨M,r⟩;replace G:=rW G r;replace T:=lH (T.o.below r);replace HY:=lH (HY.o.below r);replace t:=bT t r;clear r
    rcases M with ⟨h0,_⟩ | ⟨_,gy,hg,rfl,M⟩
    ·exact absurd ac.o h0
    have a5:=lH (M.jD (Nat.le_refl _) (show P.n <= maxLen by have:=R.o.n5;unfold maxLen;omega));clear hg M
    go_upto_region 18 with (fail)
    obtain⟨a0,a2⟩:=aT2 G.o;have a1:=G.o.lt;go_wp2_with fail
    clear a0 a2 a1;refine(Ja P A C cA cC 20 _ P.n (fun i=>eB (inX P O i)) _ T.o HY.o (by have:=R.o.n5;omega) a6.o (fun _ i Z=>(R.o.frm i Z).2.size) (fun _ i Z=>(R.o.frm i Z).1.size) dC (a3.o.below t.o)).mono ?_;rintro e v3 ⟨M,r⟩;replace G:=rW G r;replace T:=lH (T.o.below r);replace a5:=lH (a5.o.below r);replace t:=bT t r;clear r
    rcases M with ⟨h0,_⟩ | ⟨_,⟨h0,_⟩ | ⟨_,M⟩⟩
    ·exact absurd R.o.check h0
    ·exact absurd ac.o h0
    have a8:Hid (∃jb:Bool,e= .returned (.tuple #[.bool jb, .int .i64 0]) /\ (jb=true↔Perm P (fun j=>qof (eB (inX P O j))))):=lH (by rcases M with ⟨U,V⟩ | ⟨U,V⟩;exact⟨true,V,fun _=>U,fun _=>rfl⟩;exact⟨false,V,fun e=>(by cases e),fun e=>absurd e U⟩);clear M;obtain⟨jb,rfl,ad⟩:=a8.o;have aa:=lH ad;clear ad a8
    go_upto_region 19 with (fail)
    obtain⟨a0,a2⟩:=aT2 G.o;have a1:=G.o.lt;go_wp2_with fail
    clear a0 a2 a1;refine(Jb P A C (some ⟨gy,0,none⟩) cA cC P.n 20 60 (fun j=>qof (eB (inX P O j))) _ T.o a5.o (zw R.o.check) (fun j hj=>ig (a6.o j hj) dC) (fun i Z=>(R.o.frm i Z).2.size) (fun i Z=>(R.o.frm i Z).1.size) dC dC (a3.o.below t.o)).mono ?_;rintro e v4 ⟨M,r⟩;replace t:=bT t r;clear r;have a4:Hid (∃kb:Bool,e= .returned (.bool kb) /\ (kb=true↔Perm P (fun j=>qof (eB (inX P O j))))):=lH (by rcases M with ⟨U,V⟩ | ⟨U,V⟩;exact⟨true,V,fun _=>U,fun _=>rfl⟩;exact⟨false,V,fun e=>(by cases e),fun e=>absurd e U⟩);clear M;obtain⟨kb,rfl,a7⟩:=a4.o;have ah:Hid (jb=kb):=lH (by cases jb <;> cases kb <;> first | rfl | exact absurd (aa.o.2 (a7.1 rfl)) dC | exact absurd (a7.2 (aa.o.1 rfl)) dC);clear a7 a4;obtain rfl:=ah.o;have am:(jb==jb)=true:=by simp
    go_wp2_with fail
    go_returns;exact⟨rfl,t.o⟩
end Go.Proofs.YtokagbahdkfagaaGreatDoor
