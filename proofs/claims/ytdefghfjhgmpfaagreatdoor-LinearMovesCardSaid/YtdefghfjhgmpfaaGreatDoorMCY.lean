/- Parts of this proof: LMoves. -/
import Derived.Test.YtdefghfjhgmpfaaGreatDoorMAE
import Derived.Test.YtdefghfjhgmpfaaGreatDoorMBJ
import Derived.Test.YtdefghfjhgmpfaaGreatDoorMCX
import Derived.Test.YtdefghfjhgmpfaaGreatDoorMBI
import Derived.Test.YtdefghfjhgmpfaaGreatDoorMBS
import Derived.Test.YtdefghfjhgmpfaaGreatDoorMBQ
import Derived.Test.YtdefghfjhgmpfaaGreatDoorMAU
import Derived.Test.YtdefghfjhgmpfaaGreatDoorMAV
import Derived.Test.YtdefghfjhgmpfaaGreatDoorMAZ
import Derived.Test.YtdefghfjhgmpfaaGreatDoorMBR
import Derived.Test.YtdefghfjhgmpfaaGreatDoorMBY
namespace Go.Proofs.YtdefghfjhgmpfaaGreatDoor
open Go.Proofs.Tryz
open Go.RowKit
open Lp (RL upd eu)
theorem fZ.NR{w w':World}{v:Value}{m:Nat}{k:Nat -> Nat}{t:Nat -> Nat -> ByteArray}{b:Nat -> ByteArray}{g:Nat}{e:TypeId}{cs:List Value}(h:fZ w v m k t b)(F:w.grownBy w' (some g))(O:Row w g e cs)(M:∀z,Value.string z ∉ cs):fZ w' v m k t b:=by
 obtain⟨A,c,hv,h1,U,X⟩:=h;refine⟨A,c,hv,h1,U,X.imp id fun⟨g',o,Y,Z⟩=>⟨g',o,Y,fun i hi=> ?_⟩⟩;obtain⟨u,R,E,T⟩:=Z i hi
 have G:g'≠g:=by
  rintro rfl;rw[O.cell] at E;exact M _ (List.mem_of_getElem? E)
 exact⟨u,fP F G R,fP F G E,T.other F O (fun j _=>M _)⟩
theorem Ny{m n:Nat}{kk:Int}{A A':Nat -> Nat -> Rat}{b b' c c' x y d:Nat -> Rat}{q:Rat}(t:∀i,i<m -> ∀j,j<n -> A i j=A' i j)(E:∀i,i<m -> b i=b' i)(F:∀j,j<n -> c j=c' j)(h:kI m n kk A b c q x y d):kI m n kk A' b' c' q x y d:=
 ⟨fun e=>IL t E F (fun _ _=>rfl) (fun _ _=>rfl) rfl (h.1 e),fun e=>IM t E (fun _ _=>rfl) (h.2.1 e),fun e=>IP t E F (fun _ _=>rfl) (fun _ _=>rfl) (h.2.2 e)⟩
def mT(r q:Nat)(A:Nat -> Nat -> Rat)(φ:Rat)(t:Nat -> Nat -> ByteArray)(i j:Nat):ByteArray:=if i=r /\ j<q then eF (A r j*φ) else t i j
def mB(r:Nat)(bq:Nat -> Rat)(φ:Rat)(b:Nat -> ByteArray)(i:Nat):ByteArray:=if i=r then eF (bq r*φ) else b i
theorem NS{n m r:Nat}{A:Nat -> Nat -> Rat}{φ:Rat}{t:Nat -> Nat -> ByteArray}{b:Nat -> ByteArray}(h:∀i,i<m -> iw n (t i) (b i)=0){i j:Nat}(E:i<m)(F:j<n):sE (mT r n A φ t i j)=0:=by
 unfold mT;split
 ·exact Ch _
 ·exact(BX (h i E)).1 j F
theorem NT{n m r:Nat}{bq:Nat -> Rat}{φ:Rat}{t:Nat -> Nat -> ByteArray}{b:Nat -> ByteArray}(h:∀i,i<m -> iw n (t i) (b i)=0){i:Nat}(E:i<m):sE (mB r bq φ b i)=0:=by
 unfold mB;split
 ·exact Ch _
 ·exact(BX (h i E)).2
theorem NU{n m r:Nat}{A:Nat -> Nat -> Rat}{φ:Rat}{t:Nat -> Nat -> ByteArray}(h:∀i,i<m -> ∀j,j<n -> (t i j).data.toList=fA (A i j)){i j:Nat}(F:i<m)(E:j<n):(mT r n A φ t i j).data.toList=fA (scA r φ A i j):=by
 unfold mT scA;by_cases e:i=r
 ·rw[if_pos ⟨e,E⟩,if_pos e,e];exact jI _
 ·rw[if_neg (fun x=>e x.1),if_neg e];exact h i F j E
theorem NV{m r:Nat}{bq:Nat -> Rat}{φ:Rat}{b:Nat -> ByteArray}(h:∀i,i<m -> (b i).data.toList=fA (bq i)){i:Nat}(t:i<m):(mB r bq φ b i).data.toList=fA (scB r φ bq i):=by
 unfold mB scB;by_cases e:i=r
 ·rw[if_pos e,if_pos e,e];exact jI _
 ·rw[if_neg e,if_neg e];exact h i t
theorem NW{n m r:Nat}{A:Nat -> Nat -> Rat}{φ:Rat}{t:Nat -> Nat -> ByteArray}(h:∀i,i<m -> ∀j,j<n -> (t i j).size <= 12)(F:∀j,j<n -> RL 12 (A r j))(G:RL 4 φ){i j:Nat}(M:i<m)(E:j<n):(mT r n A φ t i j).size <= 37:=by
 unfold mT;split
 ·have:=oh ((F j E).mul G);omega
 ·have:=h i M j E;omega
theorem NY{m r:Nat}{bq:Nat -> Rat}{φ:Rat}{b:Nat -> ByteArray}(h:∀i,i<m -> (b i).size <= 12)(t:RL 12 (bq r))(E:RL 4 φ){i:Nat}(F:i<m):(mB r bq φ b i).size <= 37:=by
 unfold mB;split
 ·have:=oh (t.mul E);omega
 ·have:=h i F;omega
theorem Nu{m h r i:Nat}(E:h+1=m)(t:i<h):del r i<m:=by unfold del;split <;> omega
set_option maxRecDepth 100000 in
set_option maxHeartbeats 12800000 in
theorem NZ(vo vr:Value)(n m:Nat)(k:Nat -> Nat)(o:Nat -> ByteArray)(t:Nat -> Nat -> ByteArray)(b:Nat -> ByteArray)(bi:Int)(f:ByteArray)(w:World)(ho:TSA w vo n o)(hr:TRA w vr m k t b)(cK:0 <= bi /\ bi <= 255)(hg:iG w)(ht:Tab w):
  Calls prog 6 #[.agg #[vo,vr], .int .u8 bi, .string f] w fun e w'=>e= .returned (.bool true) /\ Below w.heap.size w w':=by
 obtain⟨AO,cO,rfl,_,_⟩:=ho.1.shape;obtain⟨AR,cR,rfl,_,_⟩:=hr.kG.shape;obtain⟨y0,rfl⟩:∃y0:Nat,bi=((y0:Nat):Int):=⟨bi.toNat,by omega⟩
 have ck:=lH cK;have HO:=lH ho;have HR:=lH hr;have ag:=lH hg;have ah:=lH ht;clear ho hr hg ht cK;obtain⟨W,hW,R,F⟩:=eN1 w [.slice AO n cO, .slice AR m cR] 25;go_enter func6,ntmps6;go_wp2_with fail
 rw[<- hW];clear hW;refine(pW _ (ag.o.below F.o) (ah.o.below F.o)).mono ?_;rintro e w1 ⟨rfl,G⟩;replace R:=rW R G;replace F:=bT F G;clear G;obtain⟨a6,a7⟩:=aT2 R.o;have a8:=R.o.lt;go_wp2_with fail
 clear a6 a7 a8;refine(JR AO AR n m cO cR k o t b _ (HO.o.1.below F.o) (HR.o.kG.below F.o)).mono ?_;rintro e w2 ⟨hf,G⟩;replace R:=rW R G;replace F:=bT F G;clear G
 rcases hf with ⟨hf,rfl⟩ | ⟨_,rfl⟩
 ·have O:=lH hf.fit;clear hf;obtain⟨a6,a7⟩:=aT2 R.o;have a8:=R.o.lt;go_wp2_with fail
  clear a6 a7 a8;refine(ry AO AR n m cO cR k o t b _ (HO.o.1.below F.o) (HR.o.kG.below F.o) (by have:=O.o.1;omega) (by have:=O.o.2.1;omega) (fun j T=>by have:=O.o.2.2.2.1 j T;omega) (fun i M j T=>by have:=O.o.2.2.2.2.1 i M j T;omega) (fun i M=>by have:=O.o.2.2.2.2.2 i M;omega)).mono ?_;rintro e w3 ⟨rfl,G⟩;replace R:=rW R G;replace F:=bT F G;clear G;obtain⟨E,hE⟩:=eX (fD n m k o t b);rw[<- hE];have HE:=lH hE;clear hE;by_cases h0:E=0
  ·subst h0;have H0:Hid (fD n m k o t b=0):=lH HE.o.symm;clear HE;by_cases bF:f.size <= 4
   ·have c6:=lH bF;have hd:decide ((4:Int)<((f.size:Nat):Int))=false:=decide_eq_false oM;have bB:decide (4<f.size)=false:=decide_eq_false oM;clear bF;go_wp2_with fail
    clear hd bB;refine(vM f _ (by have:=c6.o;omega)).mono ?_;rintro e w4 ⟨rfl,G⟩;replace R:=rW R G;replace F:=bT F G;clear G;obtain⟨E,hE⟩:=eX (sE f);rw[<- hE];have HE:=lH hE;clear hE;by_cases h0:E=0
    ·subst h0;obtain⟨φ,hφ⟩:=xQ (show fK f.data.toList=0 from HE.o.symm);have ef:=jE hφ;subst ef;have aT:Hid (RL 4 φ):=lH (iU hφ c6.o);clear hφ HE;go_wp2_with fail
     refine(tO φ 4 _ aT.o dC).mono ?_;rintro e w5 ⟨rfl,G⟩;replace R:=rW R G;replace F:=bT F G;clear G;by_cases bQ:0<sgI φ.num
     ·have hd:decide (sgI φ.num <= 0)=false:=decide_eq_false oM;have dG:Hid (0<φ):=lH (vR.1 (AQ.1 bQ));clear bQ;by_cases aC:m=0
      ·have bA:(((m:Nat):Int)==0)=true:=by simpa using aC
       have bC:(m==0)=true:=by simpa using aC
       clear aC;obtain⟨a6,a7⟩:=aT2 R.o;have a8:=R.o.lt;go_wp2_with fail
       clear hd bA bC a6 a7 a8;refine(pW _ (ag.o.below F.o) (ah.o.below F.o)).mono ?_;rintro e wk ⟨rfl,G⟩;replace F:=bT F G;clear G;go_wp2_with fail
       go_returns;exact⟨rfl,F.o⟩
      ·have bA:(((m:Nat):Int)==0)=false:=by simpa using aC
       have bC:(m==0)=false:=by simpa using aC
       have ay:Hid (0<m):=lH oM;clear aC;obtain⟨a6,a7⟩:=aT2 R.o;have a8:=R.o.lt;have en:=ck.o;have bJ:=O.o.2.1
       go_upto_region 3 with (fail)
       clear hd bA bC;obtain⟨r,hr⟩:=eX (y0%m);have Z:Hid (r<m):=lH (by rw[hr];exact Nat.mod_lt _ ay.o);have d3:((m:Nat):Int)≠0:=by have:=ay.o;omega
       have ei:(((m:Nat):Int)==0)=false:=by simpa using d3
       have em:IntKind.i64.wrap ((y0:Nat):Int)=((y0:Nat):Int):=IntWalk.i64_in _ oM;have aE:Int.tmod ((y0:Nat):Int) ((m:Nat):Int)=((r:Nat):Int):=by rw[hr];rfl
       go_wp2_with fail
       rw[show((y0:Nat):Int)% ((m:Nat):Int)=((r:Nat):Int) by rw[hr];rfl];clear hr d3 ei em aE en bJ ck a6 a7 a8;refine(Nz AO AR n m cO cR k o t b _ (HO.o.below F.o) (HR.o.below F.o) (by have:=O.o.1;omega) (by have:=O.o.2.1;omega) (fun i M=>by have:=O.o.2.2.1 i M;omega)).mono ?_;rintro e w6 ⟨vc,uc,rfl,bM,be,d2,G⟩;obtain⟨Av,cv,rfl,_,_⟩:=eY.shape bM;obtain⟨Aq,cq,rfl,da,db⟩:=be.shape;have dW:Hid (w.heap.size<w6.heap.size):=lH (Nat.lt_of_lt_of_le R.o.lt G.size)
       obtain⟨gR,rfl⟩:∃gR,Aq=some ⟨gR,0,none⟩:=by
        obtain⟨xs,_,aD,_,_⟩:=be;have hm:=ay.o;obtain⟨g1,_,_,di,_,_⟩:=C9 aD hm;simp only[Value.slice.injEq,true_and] at di;exact⟨g1,di.1⟩
       obtain⟨u,dc⟩:=be.rd;have dE:Hid (w.heap.size <= gR):=lH (Nat.le_trans F.o.size (d2 gR rfl));have ba:Hid (w.heap.size <= w5.heap.size):=lH F.o.size;have ax:=lH (And.intro da db);have VV:=lH bM;have RR:=lH dc;clear bM be d2 dc da db;replace R:=rW R G;replace F:=bT F G;clear G;have a5:=lH (mo H0.o);obtain⟨av,aB⟩:=RR.o.list Z.o;have ey:=lH aB;rw[a5.o.2.2.1 r Z.o] at av;obtain⟨AL,cL,aA,_,_⟩:=eY.shape av;clear av aB;have ci:=lH aA;clear aA;obtain⟨w7,Y⟩:=eX (w6.alloc (.cells #[.slice Av n cv, .slice (some ⟨gR,0,none⟩) m cq] 25));obtain⟨gQ,a1⟩:=eX (w6.heap.size);have a0:Below w6.heap.size w6 w7:=by rw[Y];exact eD _ _
       have X:Hid (Row w7 gQ 25 [.slice Av n cv, .slice (some ⟨gR,0,none⟩) m cq]):=lH (by rw[Y,a1];exact eP _ _);replace R:=rW R a0;replace RR:=lH (RR.o.below a0);replace F:=bT F a0;replace VV:Hid (fH w7 (.slice Av n cv) n o):=lH (eY.below VV.o a0);have dx:Hid (w.heap.size<gQ):=lH (by rw[a1];exact dW.o);obtain⟨C0,C1⟩:=RR.o.at_ Z.o;rw[ci.o] at C0;have cx:=eG C0;obtain⟨aG,aK⟩:=aT2 X.o;have aN:=X.o.lt;obtain⟨a6,a7⟩:=aT2 R.o;have a8:=R.o.lt;rw[Y] at C0 C1 cx aG aK aN a6 a7 a8;rw[a1] at aG aK aN;have aE:((r:Nat):Int)<((m:Nat):Int):=by have:=Z.o;omega
       go_wp2_with fail
       rw[<- Y, <- a1];clear Y a1 a0 C0 C1 cx aE aG aK aN a6 a7 a8;obtain⟨A,bq,c,d6⟩:=wL H0.o;have a9:=lH d6;clear d6;have dS:Hid (∀j,j<n -> t r j=eF (A r j)):=lH (fun j T=>jE (a9.o.rows r Z.o j T));have dt:Hid (b r=eF (bq r)):=lH (jE (a9.o.bounds r Z.o));have cd:Hid (∀j,j<n -> RL 12 (A r j)):=lH (fun j T=>iU (a9.o.rows r Z.o j T) (O.o.2.2.2.2.1 r Z.o j (by rw[a5.o.2.2.1 r Z.o];exact T)));have cb:Hid (RL 12 (bq r)):=lH (iU (a9.o.bounds r Z.o) (O.o.2.2.2.2.2 r Z.o));have dF:Hid (n <= 6):=lH O.o.1;replace RR:Hid (RD w7 (.slice (some ⟨gR,0,none⟩) m cq) m u k (mT r 0 A φ t) b (.slice Av n cv) w5.heap.size):=lH (RR.o.congr (fun i _ j _=>by unfold mT;rw[if_neg oM]) (fun _ _=>rfl))
       go_loopw [67] (fun iv wr=>∃ (q:Nat),q <= n /\ iv= .int .i64 q /\ Hid (Row wr gQ 25 [.slice Av n cv, .slice (some ⟨gR,0,none⟩) m cq]) /\ Hid (Row wr w.heap.size 25 [.slice AO n cO, .slice AR m cR]) /\ Hid (fH wr (.slice Av n cv) n o) /\ Hid (RD wr (.slice (some ⟨gR,0,none⟩) m cq) m u k (mT r q A φ t) b (.slice Av n cv) w5.heap.size) /\ Hid (Below w.heap.size w wr))
        (fun iv _=>n-(intOf iv).toNat)
       case atStart=>exact⟨0,Nat.zero_le _,rfl,X,R,VV,RR,F⟩
       case round=>
        clear X R VV RR F;obtain⟨q,hq,rfl,X,R,VV,RR,F⟩:=hrel;by_cases ek:((q:Nat):Int)<((n:Nat):Int)
        ·have bO:q<n:=oM
         have HQ:=lH bO;have eD:=dF.o;obtain⟨av,aB⟩:=RR.o.list Z.o;have aA:=ci.o;rw[a5.o.2.2.1 r Z.o,aA] at av;obtain⟨gL,_,cs,dj,ab,ec,cN⟩:=eY.done av oM;simp only[Value.slice.injEq,true_and] at dj;obtain⟨rfl,rfl⟩:=dj;rw[aA] at aB;have c7:=lH (aB gL rfl);have bu:=lH aA;obtain⟨z,dk,dl⟩:=cN q bO;have eo:z= .string (eF (A r q)):=by rw[dl, <- dS.o q bO];unfold mT;rw[if_neg oM]
         subst eo;have CT:Hid (wr.cell? ⟨gL,q,none⟩=some (.string (eF (A r q)))):=lH (ab.at_ q dk);have C0:Hid (wr.cell? ⟨gR,r*2,none⟩=some (.slice (some ⟨gL,0,none⟩) n cL)):=lH (by rw[<- bu.o];exact(RR.o.at_ Z.o).1);clear aA av aB cN ec dk dl ab;have kt:=CT.o;have er:=eG CT.o;have aE:((r:Nat):Int)<((m:Nat):Int):=by have:=Z.o;omega
         go_upto_region 8 with (fail)
         clear kt er;go_wp2_with fail
         have a2:=rG wr;have aZ:=X.o.lt;have aq:=aI 1 X;have ea:=eG C0.o;have cI:=C0.o;have KS:=lH (kC aq (kN cI));clear aZ aq ea cI;refine rL KS.o (fun i=>decide (11 <= i)) ?_;have U:=KS.o _ a2.o;refine tKs 0 72 U ?_;refine tKs 1 73 U ?_;refine tKs 2 74 U ?_;refine tKs 3 75 U ?_;refine tKs 4 76 U ?_;refine tKs 5 77 U ?_;refine tKs 6 78 U ?_;refine tKs 7 79 U ?_;refine tKs 8 80 U ?_;refine rD 9 (fun K hK=> ?_);go_simp;refine(vP (A r q) φ 12 _ (cd.o q HQ.o) (aT.o.mono dC) dC).mono ?_;rintro e aP ⟨rfl,ai⟩;have ai:Below wr.heap.size wr aP:=bD ai;replace X:=rW X ai;replace R:=rW R ai;replace RR:=lH (RR.o.below ai);replace VV:=lH (VV.o.below ai);replace CT:=lH (cell_below ai CT.o);replace F:=bT F ai;replace a2:=bT a2 ai;clear U ai;have U:=KS.o _ a2.o;refine kH hK U ?_;clear hK K;refine tKs 10 82 U ?_;obtain⟨cl,ab⟩:=eY.row (RR.o.list Z.o).1 (g:=gL) (by rw[bu.o];rfl);have k1:=CT.o;have kl:=eG CT.o;have f1:=ab.free q;refine rD 11 (fun K hK=> ?_);go_simp;refine kL hK ?_;clear hK K;refine dN ?_ _;clear U KS a2;clear k1 f1 kl;have hg:World.grownBy aP (aP.setCell ⟨gL,q,none⟩ (.string (eF (A r q*φ)))) (some gL):=grownBy_set _ _ _ _;have cS:=c7.o.1;have av:=ba.o;have e1:=X.o.other hg (fun e=>by subst e;exact absurd (X.o.ty ab) dC);have e2:=R.o.other hg (fun e=>by subst e;exact absurd (R.o.ty ab) dC);have e3:fH (aP.setCell ⟨gL,q,none⟩ (.string (eF (A r q*φ)))) (.slice Av n cv) n o:=eY.other VV.o hg c7.o.2
         have e4:RD (aP.setCell ⟨gL,q,none⟩ (.string (eF (A r q*φ)))) (.slice (some ⟨gR,0,none⟩) m cq) m u k (mT r (q+1) A φ t) b (.slice Av n cv) w5.heap.size:=(RR.o.set (x:=eF (A r q*φ)) (j:=q) Z.o (by rw[bu.o,a5.o.2.2.1 r Z.o]) (by rw[a5.o.2.2.1 r Z.o];exact HQ.o)).congr (fun i _ j _=>by
          unfold mT;by_cases e:i=r /\ j=q
          ·rw[if_pos e,if_pos ⟨e.1,by omega⟩,e.2]
          ·rw[if_neg e];by_cases e6:i=r /\ j<q
           ·rw[if_pos e6,if_pos ⟨e6.1,by omega⟩]
           ·rw[if_neg e6,if_neg oM]) (fun _ _=>rfl)
         have e5:=F.o.grown hg F.o.size (by first | (simp;done) | (simp;omega));obtain⟨wE,ad⟩:=eX ((aP.setCell ⟨gL,q,none⟩ (.string (eF (A r q*φ)))));rw[<- ad] at e1 e2 e3 e4 e5 ⊢;clear ad hg;have ds:=lH e1;have dX:=lH e2;have dZ:=lH e3;have dY:=lH e4;have du:=lH e5;clear e1 e2 e3 e4 e5;go_wp2_with fail
         go_roundw
         case rel=>exact⟨q+1,by omega,by go_num,ds,dX,dZ,dY,du⟩
         case measure=>exact mZ
        ·obtain rfl:n=q:=oM
         clear ek hq;have aE:((r:Nat):Int)<((m:Nat):Int):=by have:=Z.o;omega
         go_upto_region 10 with (fail)
         have C1:Hid (wr.cell? ⟨gR,r*2+1,none⟩=some (.string (eF (bq r)))):=lH (by rw[<- dt.o];exact(RR.o.at_ Z.o).2);go_wp2_with fail
         have a2:=rG wr;have aZ:=X.o.lt;have aq:=aI 1 X;have eb:=eG C1.o;have cJ:=C1.o;have KS:=lH (kC aq (kN cJ));clear aZ aq eb cJ;refine rL KS.o (fun i=>decide (13 <= i)) ?_;have U:=KS.o _ a2.o;refine tKs 0 84 U ?_;refine tKs 1 85 U ?_;refine tKs 2 86 U ?_;refine tKs 3 87 U ?_;refine tKs 4 88 U ?_;refine tKs 5 89 U ?_;refine tKs 6 90 U ?_;refine tKs 7 91 U ?_;refine tKs 8 92 U ?_;refine tKs 9 93 U ?_;refine rD 10 (fun K hK=> ?_);go_simp;refine(vP (bq r) φ 12 _ cb.o (aT.o.mono dC) dC).mono ?_;rintro e aQ ⟨rfl,aj⟩;have aj:Below wr.heap.size wr aQ:=bD aj;replace X:=rW X aj;replace R:=rW R aj;replace RR:=lH (RR.o.below aj);replace VV:=lH (VV.o.below aj);replace C1:=lH (cell_below aj C1.o);replace F:=bT F aj;replace a2:=bT a2 aj;clear U aj;have U:=KS.o _ a2.o;refine kH hK U ?_;clear hK K;refine tKs 11 95 U ?_;refine tKs 12 96 U ?_;obtain⟨cl,ab⟩:=RR.o.Nt.row (g:=gR) rfl;have k1:=C1.o;have kl:=eG C1.o;have f1:=ab.free (r*2+1);refine rD 13 (fun K hK=> ?_);go_simp;refine kL hK ?_;clear hK K;refine dN ?_ _;clear U KS a2;clear k1 f1 kl C1 aE;have hg:World.grownBy aQ (aQ.setCell ⟨gR,r*2+1,none⟩ (.string (eF (bq r*φ)))) (some gR):=grownBy_set _ _ _ _;have cS:=dE.o;have e1:=X.o.other hg (fun e=>by subst e;exact absurd (X.o.ty ab) dC);have e2:=R.o.other hg (fun e=>by subst e;exact absurd (R.o.ty ab) dC);have e3:fH (aQ.setCell ⟨gR,r*2+1,none⟩ (.string (eF (bq r*φ)))) (.slice Av n cv) n o:=Cb VV.o hg ab dC;have e4:RD (aQ.setCell ⟨gR,r*2+1,none⟩ (.string (eF (bq r*φ)))) (.slice (some ⟨gR,0,none⟩) m cq) m u k (mT r n A φ t) (mB r bq φ b) (.slice Av n cv) w5.heap.size:=(RR.o.NJ (x:=eF (bq r*φ)) Z.o).congr (fun _ _ _ _=>rfl) (fun _ _=>rfl);have e5:=F.o.grown hg F.o.size (by first | (simp;done) | (simp;omega));clear cS ab;obtain⟨ak,ad⟩:=eX ((aQ.setCell ⟨gR,r*2+1,none⟩ (.string (eF (bq r*φ)))));rw[<- ad] at e1 e2 e3 e4 e5 ⊢;clear ad hg;have aU:=lH e1;have aW:=lH e2;have aX:=lH e3;have ct:=lH e4;have aV:=lH e5;clear X R VV RR F e1 e2 e3 e4 e5;have X:=aU;clear aU;have R:=aW;clear aW;have VV:=aX;clear aX;have RR:=ct;clear ct;have F:=aV;clear aV
         go_upto_region 11 with (fail)
         have bs:=lH RR.o.Nt.kG;have bb:Hid (fZ ak (.slice (some ⟨gR,r*2,none⟩) (m-r) (cq-r)) (m-r) (fun j=>k (r+j)) (fun j=>mT r n A φ t (r+j)) (fun j=>mB r bq φ b (r+j))):=lH (NN bs.o (by have:=Z.o;omega) (by have:=ax.o;omega) (Nat.le_trans (Nat.sub_le _ _) ax.o.2) ay.o oM);have bc:Hid (fZ ak (.slice (some ⟨gR,0,none⟩) r cq) r k (mT r n A φ t) (mB r bq φ b)):=lH (NM bs.o (by have:=Z.o;omega) (by have:=Z.o;have:=ax.o;omega) ax.o.2 ay.o);clear bs;have bP:((r:Nat):Int) <= ((m:Nat):Int):=by have:=Z.o;omega
         have el:((r:Nat):Int) <= ((cq:Nat):Int):=by have:=Z.o;have:=ax.o;omega
         have ej:((m:Nat):Int) <= ((cq:Nat):Int):=by have:=ax.o;omega
         have bK:¬cq=r:=by have:=Z.o;have:=ax.o;omega
         go_wp2_with fail
         have a2:=rG ak;have aZ:=X.o.lt;have aq:=aI 1 X;have KS:Hid (∀w',Below ak.heap.size ak w' -> (w'.cell? ⟨gQ,1,none⟩=some (.slice (some ⟨gR,0,none⟩) m cq))):=lH (fun w' G=>kN aq _ G);clear aZ aq;refine rL KS.o (fun i=>decide (11 <= i)) ?_;have U:=KS.o _ a2.o;refine tKs 0 97 U ?_;refine tKs 1 98 U ?_;refine tKs 2 99 U ?_;refine jf (i:=3) (v:= .slice (some ⟨gR,r*2,none⟩) (m-r) (cq-r)) (some 100) rfl (by rfl) kR kR kR kR (fun _ _ _ h=>h) (Or.inl ⟨by rfl,?_⟩) U ?_
         ·(intro w' bx;clear bx;go_simp;(first | done | (simp[bK];done) | (simp[bK];omega) | trace_state))
         simp only[Act.put,List.setIfInBounds_toArray,List.set_cons_zero,List.set_cons_succ];refine tKs 4 101 U ?_;refine tKs 5 102 U ?_;refine tKs 6 103 U ?_;refine jf (i:=7) (v:= .slice (some ⟨gR,0,none⟩) r cq) (some 104) rfl (by rfl) kR kR kR kR (fun _ _ _ h=>h) (Or.inl ⟨by rfl,?_⟩) U ?_
         ·(intro w' bx;clear bx;go_simp;(first | done | (simp;done) | (simp;omega) | trace_state))
         simp only[Act.put,List.setIfInBounds_toArray,List.set_cons_zero,List.set_cons_succ];refine rD 8 (fun K hK=> ?_);go_simp;obtain⟨b6,bl⟩:=eX (ak.alloc (.cells #[.slice (some ⟨gR,r*2,none⟩) (m-r) (cq-r), .slice (some ⟨gR,0,none⟩) r cq] 23));obtain⟨gX,bG⟩:=eX (ak.heap.size);have G:Below ak.heap.size ak b6:=by rw[bl];exact eD _ _
         have bw:Hid (Row b6 gX 23 [.slice (some ⟨gR,r*2,none⟩) (m-r) (cq-r), .slice (some ⟨gR,0,none⟩) r cq]):=lH (by rw[bl,bG];exact eP _ _);rw[<- bl];have cT:ak.heap.size=gX:=bG.symm;rw[cT];clear bl bG;replace bb:=lH (bb.o.below G);replace bc:=lH (bc.o.below G);replace VV:Hid (fH b6 (.slice Av n cv) n o):=lH (eY.below VV.o G);replace X:=rW X G;replace R:=rW R G;replace F:=bT F G;replace a2:=bT a2 G;clear G U;have U:=KS.o _ a2.o;refine kH hK U ?_;clear hK K cT;refine rD 9 (fun K hK=> ?_);go_simp;refine(M6 gX ⟨gR,r*2,none⟩ ⟨gR,0,none⟩ (m-r) r (cq-r) cq (fun j=>k (r+j)) k (fun j=>mT r n A φ t (r+j)) (mT r n A φ t) (fun j=>mB r bq φ b (r+j)) (mB r bq φ b) _ (bw.o.below (Below.refl _ _).drew bw.o.lt) (bb.o.below (Below.refl _ _).drew) (bc.o.below (Below.refl _ _).drew) (by have:=O.o.2.1;omega) (by have:=O.o.2.1;have:=Z.o;omega)).mono ?_;rintro e b7 ⟨vv,rfl,bk,au⟩;have au:Below b6.heap.size b6 b7:=bD au;replace X:=rW X au;replace R:=rW R au;replace VV:=lH (VV.o.below au);replace F:=bT F au;replace a2:=bT a2 au;rw[show m-r+r=m by have:=Z.o;omega,show jn (m-r) (fun j=>k (r+j)) k=(fun i=>k (rot m r i)) from funext fun i=>Nw k i,show jn (m-r) (fun j=>mT r n A φ t (r+j)) (mT r n A φ t)=(fun i=>mT r n A φ t (rot m r i)) from funext fun i=>Nw (mT r n A φ t) i,show jn (m-r) (fun j=>mB r bq φ b (r+j)) (mB r bq φ b)=(fun i=>mB r bq φ b (rot m r i)) from funext fun i=>Nw (mB r bq φ b) i] at bk;obtain⟨Ac,cc,rfl,_,_⟩:=bk.shape;have ac:=lH bk;clear bk bw bb bc;clear U au;have U:=KS.o _ a2.o;refine kH hK U ?_;clear hK K;refine tKs 10 107 U ?_;have k1:=aI 1 X;have f1:=X.o.free 1;have kl:=X.o.lt;refine rD 11 (fun K hK=> ?_);go_simp;refine kL hK ?_;clear hK K;refine dN ?_ _;clear U KS a2;clear k1 f1 kl bP el ej bK;have hg:World.grownBy b7 (b7.setCell ⟨gQ,1,none⟩ (.slice Ac m cc)) (some gQ):=grownBy_set _ _ _ _;have eg:=dx.o;have e1:=X.o.set 1 (.slice Ac m cc);have e2:=R.o.other hg oM;have e3:fH (b7.setCell ⟨gQ,1,none⟩ (.slice Ac m cc)) (.slice Av n cv) n o:=Cb VV.o hg X.o dC;have e4:=ac.o.NR hg X.o (fun z hz=>by simp at hz);have e5:=F.o.grown hg F.o.size (by first | (simp;done) | (simp;omega));clear eg;obtain⟨b8,ad⟩:=eX ((b7.setCell ⟨gQ,1,none⟩ (.slice Ac m cc)));rw[<- ad] at e1 e2 e3 e4 e5 ⊢;clear ad hg;have aU:=lH e1;have aW:=lH e2;have aX:=lH e3;have co:=lH e4;have aV:=lH e5;clear X R VV ac F e1 e2 e3 e4 e5;have X:=aU;clear aU;have R:=aW;clear aW;have VV:=aX;clear aX;have ac:=co;clear co;have F:=aV;clear aV;replace X:Hid (Row b8 gQ 25 [.slice Av n cv, .slice Ac m cc]):=lH X.o;obtain⟨a6,a7⟩:=aT2 R.o;have a8:=R.o.lt;go_wp2_with fail
         clear a6 a7 a8;refine(Nz AO AR n m cO cR k o t b _ (HO.o.below F.o) (HR.o.below F.o) (by have:=O.o.1;omega) (by have:=O.o.2.1;omega) (fun i M=>by have:=O.o.2.2.1 i M;omega)).mono ?_;rintro e b9 ⟨vl,ul,rfl,bL,b3,d1,G⟩;have a4:Hid (Below b8.heap.size b8 b9):=lH G;have c5:=F;obtain⟨Al,az,rfl,_,_⟩:=eY.shape bL;obtain⟨xs,aD,d5⟩:=b3.Nt;obtain⟨gD,cD,_,ed,_,_⟩:=C9 aD ay.o;subst ed;have af:=lH (And.intro aD d5);have dw:=lH (sP aD);have dB:Hid (b8.heap.size <= gD):=lH (d1 gD rfl);have VL:=lH bL;clear bL b3 d1 aD d5 G;have bv:=R;have bp:=X;have ch:=ac;have cw:=VV;clear R X ac VV RR;obtain⟨aR,Y⟩:=eX (b9.alloc (.cells #[.slice Al n az, .slice (some ⟨gD,0,none⟩) m cD] 25));obtain⟨ar,a1⟩:=eX (b9.heap.size);have G:Below b9.heap.size b9 aR:=by rw[Y];exact eD _ _
         have LB:Hid (Row aR ar 25 [.slice Al n az, .slice (some ⟨gD,0,none⟩) m cD]):=lH (by rw[Y,a1];exact eP _ _);have dA:Hid (b8.heap.size <= ar):=lH (by rw[a1];exact a4.o.size);replace af:Hid (aR.ownsRow 0 53 2 (.slice (some ⟨gD,0,none⟩) m cD) m xs /\ ∀i,i<m -> ∃u,xs[i*2]? =some u /\ xs[i*2+1]? =some (.string (b i)) /\ fH aR u (k i) (t i)):=lH ⟨lI af.o.1 (below_grown G) (by simp),fun i M=>by obtain⟨z,h1,h2,h3⟩:=af.o.2 i M;exact⟨z,h1,h2,eY.below h3 G⟩⟩;replace a4:=lH (a4.o.trans (G.mono a4.o.size));replace VL:Hid (fH aR (.slice Al n az) n o):=lH (eY.below VL.o G);clear G;obtain⟨aH,aL⟩:=aT2 LB.o;have aO:=LB.o.lt;rw[Y] at aH aL aO;rw[a1] at aH aL aO;have bP:((r:Nat):Int)<((m:Nat):Int):=by have:=Z.o;omega
         have bJ:((m:Nat):Int) <= 8:=by have:=O.o.2.1;omega
         go_wp2_with fail
         rw[<- Y, <- a1];clear Y a1 aH aL aO;obtain⟨m1,b2⟩:∃m1,m1+1=m:=⟨m-1,by have:=ay.o;omega⟩
         have a3:=lH b2;have bE:=NI gD cD m1 r xs aR (by rw[b2];exact af.o.1) (NK af.o.1 af.o.2) (by have:=Z.o;omega) (by have:=O.o.2.1;omega) (by rw[b2];obtain⟨_,_,e,h1,_⟩:=dw.o;simp only[Value.slice.injEq] at e;obtain⟨_,_,rfl⟩:=e;exact h1);rw[b2,show((r+1:Nat):Int)=(r:Int)+1 by simp] at bE;clear b2 bP bJ;refine bE.mono ?_;rintro e aS ⟨rfl,b3,b1⟩;clear bE;obtain⟨e0,bj⟩:=qN af.o.1 (g:=gD) rfl;have d4:ar≠gD:=fun e=>by subst e;exact absurd (LB.o.ty bj) dC
         replace LB:=lH (LB.o.other b1 d4);replace VL:Hid (fH aS (.slice Al n az) n o):=lH (Cb VL.o b1 bj dC);have aa:Hid (iK aS (.slice (some ⟨gD,0,none⟩) m1 cD) m1 (fun j=>k (del r j)) (fun j=>t (del r j)) (fun j=>b (del r j))):=lH (NL (by have:=Z.o;have:=a3.o;omega) b1 ⟨e0,bj⟩ (by have h:=af.o.1.1;rw[a3.o];exact h) (fun i M=>by rw[a3.o] at M;exact af.o.2 i M) b3);replace a4:=lH (a4.o.grown b1 a4.o.size (by have:=dB.o;first | (simp;done) | (simp;omega)));clear b3 b1 bj d4;have k1:=aI 1 LB;have f1:=LB.o.free 1;have kl:=LB.o.lt
         go_upto_region 14 with (fail)
         clear k1 f1 kl af;have hg:World.grownBy aS (aS.setCell ⟨ar,1,none⟩ (.slice (some ⟨gD,0,none⟩) m1 cD)) (some ar):=grownBy_set _ _ _ _;have e1:=LB.o.set 1 (.slice (some ⟨gD,0,none⟩) m1 cD);have e2:=(aa.o.other hg LB.o dC dC).kG;have e3:=a4.o.grown hg a4.o.size (by have:=dA.o;first | (simp;done) | (simp;omega));have e4:fH (aS.setCell ⟨ar,1,none⟩ (.slice (some ⟨gD,0,none⟩) m1 cD)) (.slice Al n az) n o:=Cb VL.o hg LB.o dC;obtain⟨dn,ad⟩:=eX ((aS.setCell ⟨ar,1,none⟩ (.slice (some ⟨gD,0,none⟩) m1 cD)));rw[<- ad] at e1 e2 e3 e4 ⊢;clear ad hg;have cp:=lH e1;have cn:=lH e2;have cm:=lH e3;have cu:=lH e4;clear LB aa a4 VL e1 e2 e3 e4;have LB:=cp;clear cp;have aa:=cn;clear cn;have a4:=cm;clear cm;have VL:=cu;clear cu;replace LB:Hid (Row dn ar 25 [.slice Al n az, .slice (some ⟨gD,0,none⟩) m1 cD]):=lH LB.o;have F:Hid (Below w.heap.size w dn):=lH (c5.o.trans (a4.o.mono c5.o.size));have R:=lH (bv.o.below a4.o bv.o.lt);have X:=lH (bp.o.below a4.o bp.o.lt);have ac:=lH (ch.o.below a4.o);have aY:=lH (fH.ts (eY.below cw.o a4.o));have am:=lH (fH.ts VL.o);clear bv bp ch cw VL a4;obtain⟨a6,a7⟩:=aT2 R.o;have a8:=R.o.lt;go_wp2_with fail
         clear a6 a7 a8;refine(Ct AO AR n m cO cR k o t b 12 _ (HO.o.1.below F.o) (HR.o.kG.below F.o) (by have:=O.o.1;omega) (by have:=O.o.2.1;have:=a3.o;omega) (fun j T=>by have:=O.o.2.2.2.1 j T;omega) (fun i M j T=>by have:=O.o.2.2.2.2.1 i M j T;omega) (fun i M=>by have:=O.o.2.2.2.2.2 i M;omega) dC (by have:=CO O.o.2.1 O.o.1;omega) O.o.2.2.2.1 O.o.2.2.2.2.1 O.o.2.2.2.2.2 (ah.o.below F.o) (ag.o.below F.o)).mono ?_;rintro e bm ⟨hs,G⟩;replace X:=rW X G;replace LB:=rW LB G;replace aY:=lH (aY.o.below G);replace am:=lH (am.o.below G);replace ac:=lH (ac.o.below G);replace aa:=lH (aa.o.below G);replace F:=bT F G;clear G;unfold Iy at hs
         rcases hs with ⟨h0,_⟩ | ⟨_,A1,eA,c1,V1,bf,hv,rfl⟩
         ·exact absurd H0.o h0
         obtain⟨O1,hO,cP,cX,de,_,b4,es,ev,e7,bH,d7⟩:=hv.tx;obtain⟨bW,cB,bZ,cF,bR,cy,rfl,_,_,_⟩:=hO.shape;clear hO hv;have dQ:Hid (O1.kk=1 \/ O1.s=⟨#[]⟩):=lH de.2.2.2;have c8:=lH cX;have cj:Hid (O1.kk=1 -> O1.s=eF b4):=lH (fun e=>jE (bH.val e));obtain⟨dp,Y⟩:=eX (bm.alloc (.cells #[.int .i64 O1.kk, .string O1.s, .slice bW O1.np cB, .slice bZ O1.ny cF, .slice bR O1.nd cy] 32));obtain⟨gA,a1⟩:=eX (bm.heap.size);have a0:Below bm.heap.size bm dp:=by rw[Y];exact eD _ _
         have AB:Hid (Row dp gA 32 [.int .i64 O1.kk, .string O1.s, .slice bW O1.np cB, .slice bZ O1.ny cF, .slice bR O1.nd cy]):=lH (by rw[Y,a1];exact eP _ _);replace X:=rW X a0;replace LB:=rW LB a0;replace aY:=lH (aY.o.below a0);replace am:=lH (am.o.below a0);replace ac:=lH (ac.o.below a0);replace aa:=lH (aa.o.below a0);replace F:=bT F a0;have br:Hid (kI m n O1.kk A bq c b4 es ev e7):=lH (Ny (fun i M j T=>lq (bf.rows i M j T) (a9.o.rows i M j T)) (fun i M=>lq (bf.bounds i M) (a9.o.bounds i M)) (fun j T=>lq (bf.obj j T) (a9.o.obj j T)) d7);have dJ:Hid (O1.kk=1 -> RL 12589 b4):=lH (fun e=>iU (bH.val e) (Nat.le_trans cP.1 (CO O.o.2.1 O.o.1)));clear bf d7 bH cP de cX;have al:Hid (r <= m):=lH (Nat.le_of_lt Z.o);have dI:Hid (fD n m (fun i=>k (rot m r i)) o (fun i=>mT r n A φ t (rot m r i)) (fun i=>mB r bq φ b (rot m r i))=0):=lH (ND (by have:=O.o.1;omega) (by have:=O.o.2.1;omega) (fun i M=>a5.o.2.2.1 _ (Kr al.o M)) a5.o.2.2.2.1 (fun i M j T=>NS a5.o.2.2.2.2 (Kr al.o M) T) (fun i M=>NT a5.o.2.2.2.2 (Kr al.o M)));have cg:Hid (∀i,i<m -> ∀j,j<k (rot m r i) -> (mT r n A φ t (rot m r i) j).size <= 37):=lH (fun i M j T=>NW (fun i M j T=>O.o.2.2.2.2.1 i M j (by rw[a5.o.2.2.1 i M];exact T)) cd.o aT.o (Kr al.o M) (by rw[a5.o.2.2.1 _ (Kr al.o M)] at T;exact T));have cf:Hid (∀i,i<m -> (mB r bq φ b (rot m r i)).size <= 37):=lH (fun i M=>NY O.o.2.2.2.2.2 cb.o aT.o (Kr al.o M));obtain⟨aG,aK⟩:=aT2 X.o;have aN:=X.o.lt;rw[Y] at aG aK aN;go_wp2_with fail
         rw[<- Y, <- a1];clear Y a1 a0 aG aK aN;refine(Ct Av Ac n m cv cc (fun i=>k (rot m r i)) o (fun i=>mT r n A φ t (rot m r i)) (fun i=>mB r bq φ b (rot m r i)) 37 _ aY.o ac.o (by have:=O.o.1;omega) (by have:=O.o.2.1;have:=a3.o;omega) (fun j T=>by have:=O.o.2.2.2.1 j T;omega) (fun i M j T=>by have:=cg.o i M j T;omega) (fun i M=>by have:=cf.o i M;omega) dC (NP O.o.1) (fun j T=>Nat.le_trans (O.o.2.2.2.1 j T) dC) cg.o cf.o (ah.o.below F.o) (ag.o.below F.o)).mono ?_;rintro e bn ⟨hs,G⟩;replace LB:=rW LB G;replace AB:=rW AB G;replace am:=lH (am.o.below G);replace aa:=lH (aa.o.below G);replace F:=bT F G;clear G;unfold Iy at hs
         rcases hs with ⟨h0,_⟩ | ⟨_,A2,eB,c2,V2,bg,hv,rfl⟩
         ·exact absurd dI.o h0
         obtain⟨O2,hO,ee,cY,df,_,dm,et,ew,e8,cU,d8⟩:=hv.tx;obtain⟨bX,cC,c0,cG,bS,cz,rfl,_,_,_⟩:=hO.shape;clear hO hv;have dR:Hid (O2.kk=1 \/ O2.s=⟨#[]⟩):=lH df.2.2.2;have dy:=lH cY;have dT:Hid (O2.kk=1 -> O2.s=eF dm):=lH (fun e=>jE (cU.val e));obtain⟨dq,Y⟩:=eX (bn.alloc (.cells #[.int .i64 O2.kk, .string O2.s, .slice bX O2.np cC, .slice c0 O2.ny cG, .slice bS O2.nd cz] 32));obtain⟨gB,a1⟩:=eX (bn.heap.size);have a0:Below bn.heap.size bn dq:=by rw[Y];exact eD _ _
         have BB:Hid (Row dq gB 32 [.int .i64 O2.kk, .string O2.s, .slice bX O2.np cC, .slice c0 O2.ny cG, .slice bS O2.nd cz]):=lH (by rw[Y,a1];exact eP _ _);replace LB:=rW LB a0;replace AB:=rW AB a0;replace am:=lH (am.o.below a0);replace aa:=lH (aa.o.below a0);replace F:=bT F a0;have c9:Hid (kI m n O2.kk (fun i=>scA r φ A (rot m r i)) (fun i=>scB r φ bq (rot m r i)) c dm et ew e8):=lH (Ny (fun i M j T=>lq (bg.rows i M j T) (NU a9.o.rows (Kr al.o M) T)) (fun i M=>lq (bg.bounds i M) (NV a9.o.bounds (Kr al.o M))) (fun j T=>lq (bg.obj j T) (a9.o.obj j T)) d8);clear bg d8 cU ee df cY;have ce:=lH (KM c8.o dy.o (KW al.o (KV dG.o br.o)) c9.o)
         have dP:Hid (O1.s=O2.s):=lH (by
          obtain⟨e1,e2⟩:=ce.o;by_cases h1:O1.kk=1
          ·rw[cj.o h1,dT.o (e1.symm.trans h1),e2 h1]
          ·rw[dQ.o.resolve_left h1,dR.o.resolve_left (fun h=>h1 (e1.trans h))])
         have dH:Hid (fD n m1 (fun j=>k (del r j)) o (fun j=>t (del r j)) (fun j=>b (del r j))=0):=lH (ND (by have:=O.o.1;omega) (by have:=O.o.2.1;have:=a3.o;omega) (fun i M=>a5.o.2.2.1 _ (Nu a3.o M)) a5.o.2.2.2.1 (fun i M j T=>(BX (a5.o.2.2.2.2 _ (Nu a3.o M))).1 j T) (fun i M=>(BX (a5.o.2.2.2.2 _ (Nu a3.o M))).2));obtain⟨aH,aL⟩:=aT2 LB.o;have aO:=LB.o.lt;rw[Y] at aH aL aO;go_wp2_with fail
         rw[<- Y, <- a1];clear Y a1 a0 aH aL aO;refine(Ct Al (some ⟨gD,0,none⟩) n m1 az cD (fun j=>k (del r j)) o (fun j=>t (del r j)) (fun j=>b (del r j)) 12 _ am.o aa.o (by have:=O.o.1;omega) (by have:=O.o.2.1;have:=a3.o;omega) (fun j T=>by have:=O.o.2.2.2.1 j T;omega) (fun i M j T=>by have:=O.o.2.2.2.2.1 (del r i) (Nu a3.o M) j T;omega) (fun i M=>by have:=O.o.2.2.2.2.2 (del r i) (Nu a3.o M);omega) dC (by have:=CO (m:=m1) (by have:=O.o.2.1;have:=a3.o;omega) O.o.1;omega) O.o.2.2.2.1 (fun i M j T=>O.o.2.2.2.2.1 _ (Nu a3.o M) j T) (fun i M=>O.o.2.2.2.2.2 _ (Nu a3.o M)) (ah.o.below F.o) (ag.o.below F.o)).mono ?_;rintro e bo ⟨hs,G⟩;replace AB:=rW AB G;replace BB:=rW BB G;replace F:=bT F G;clear G;unfold Iy at hs
         rcases hs with ⟨h0,_⟩ | ⟨_,A3,eC,c3,V3,bh,hv,rfl⟩
         ·exact absurd dH.o h0
         obtain⟨O3,hO,cQ,cZ,dh,_,b5,eu,ex,e9,bI,d9⟩:=hv.tx;obtain⟨bY,cE,c4,cH,bU,cA,rfl,_,_,_⟩:=hO.shape;clear hO hv;have ez:Hid (O3.kk=1 \/ O3.s=⟨#[]⟩):=lH dh.2.2.2;have dz:=lH cZ;have dU:Hid (O3.kk=1 -> O3.s=eF b5):=lH (fun e=>jE (bI.val e));obtain⟨dr,Y⟩:=eX (bo.alloc (.cells #[.int .i64 O3.kk, .string O3.s, .slice bY O3.np cE, .slice c4 O3.ny cH, .slice bU O3.nd cA] 32));obtain⟨gC,a1⟩:=eX (bo.heap.size);have a0:Below bo.heap.size bo dr:=by rw[Y];exact eD _ _
         have CB:Hid (Row dr gC 32 [.int .i64 O3.kk, .string O3.s, .slice bY O3.np cE, .slice c4 O3.ny cH, .slice bU O3.nd cA]):=lH (by rw[Y,a1];exact eP _ _);replace AB:=rW AB a0;replace BB:=rW BB a0;replace F:=bT F a0;have ca:Hid (kI (m-1) n O3.kk (fun i=>A (del r i)) (fun i=>bq (del r i)) c b5 eu ex e9):=lH (by rw[show m-1=m1 by have:=a3.o;omega];exact Ny (fun i M j T=>lq (bh.rows i M j T) (a9.o.rows _ (Nu a3.o M) j T)) (fun i M=>lq (bh.bounds i M) (a9.o.bounds _ (Nu a3.o M))) (fun j T=>lq (bh.obj j T) (a9.o.obj j T)) d9);have dK:Hid (O3.kk=1 -> RL 12589 b5):=lH (fun e=>iU (bI.val e) (Nat.le_trans cQ.1 (CO (by have:=O.o.2.1;have:=a3.o;omega) O.o.1)));clear bh d9 bI cQ dh cZ;have ba:=lH (KX Z.o c8.o br.o ca.o);have cW:=ce.o.1;have dd:=dP.o;rw[<- cW, <- dd] at BB;have cM:(O1.kk !=O1.kk)=false:=by simp
         clear cW dd br c9 ca;have eh:O3.kk=2 \/ O3.kk=3 \/ O3.kk=1:=by have:=dz.o;omega
         rcases eh with hk | hk | hk
         ·have cV:=ba.o.1 hk;rw[hk] at CB Y ⊢;rw[cV] at AB BB cM;clear hk cV;obtain⟨an,aw⟩:=aT2 AB.o;have ap:=AB.o.lt;obtain⟨aF,aJ⟩:=aT2 BB.o;have aM:=BB.o.lt;have ao:=aI 0 CB;have ae:=CB.o.lt;rw[Y] at an aw ap aF aJ aM ao ae;rw[a1] at ao ae;go_wp2_with fail
          go_returns;exact⟨rfl,by first | exact F.o | (rw[<- Y];exact F.o)⟩
         ·rw[hk] at CB Y ⊢;clear hk;obtain⟨an,aw⟩:=aT2 AB.o;have ap:=AB.o.lt;obtain⟨aF,aJ⟩:=aT2 BB.o;have aM:=BB.o.lt;have ao:=aI 0 CB;have ae:=CB.o.lt;rw[Y] at an aw ap aF aJ aM ao ae;rw[a1] at ao ae;go_wp2_with fail
          go_returns;exact⟨rfl,by first | exact F.o | (rw[<- Y];exact F.o)⟩
         ·have dD:=lH (ba.o.2 hk);have dO:=lH (dU.o hk);have dM:=lH (dK.o hk);rw[hk] at CB Y ⊢;clear hk;obtain⟨an,aw⟩:=aT2 AB.o;have ap:=AB.o.lt;obtain⟨aF,aJ⟩:=aT2 BB.o;have aM:=BB.o.lt;have ao:=aI 0 CB;have ae:=CB.o.lt;rw[Y] at an aw ap aF aJ aM ao ae;rw[a1] at ao ae
          go_upto_region 23 with (fail)
          rw[<- Y, <- a1];clear a0 cM Y a1 an aw ap aF aJ aM ao ae
          rcases dD.o with h2 | ⟨h2,d0⟩
          ·rw[h2] at AB;clear h2;have an:=aI 0 AB;have ap:=AB.o.lt;go_wp2_with fail
           go_returns;exact⟨rfl,F.o⟩
          ·rw[h2] at AB;rw[cj.o h2] at AB;rw[dO.o] at CB;have dL:=lH (dJ.o h2);have bd:decide (jq b4 b5 <= 0)=true:=decide_eq_true (NQ d0);clear h2 d0;obtain⟨an,aw⟩:=aT2 AB.o;have ap:=AB.o.lt;have ep:=aI 1 CB;have ae:=CB.o.lt;go_wp2_with fail
           clear an aw ap ep ae;refine(H8 b4 b5 12589 _ dL.o dM.o dC).mono ?_;rintro e eE ⟨rfl,G⟩;replace F:=bT F G;clear G;go_wp2_with fail
           go_returns;exact⟨rfl,F.o⟩
     ·have hd:decide (sgI φ.num <= 0)=true:=decide_eq_true oM;clear bQ;go_wp2_with fail
      clear hd;refine(pW _ (ag.o.below F.o) (ah.o.below F.o)).mono ?_;rintro e wk ⟨rfl,G⟩;replace F:=bT F G;clear G;go_wp2_with fail
      go_returns;exact⟨rfl,F.o⟩
    ·have b0:((E:Nat):Int)≠0:=oM
     have bd:(((E:Nat):Int) !=0)=true:=by simpa using b0
     have bz:(E !=0)=true:=by simpa using h0
     clear h0;go_wp2_with fail
     clear b0 bd bz;refine(pW _ (ag.o.below F.o) (ah.o.below F.o)).mono ?_;rintro e wk ⟨rfl,G⟩;replace F:=bT F G;clear G;go_wp2_with fail
     go_returns;exact⟨rfl,F.o⟩
   ·have hd:decide ((4:Int)<((f.size:Nat):Int))=true:=decide_eq_true oM;have bB:decide (4<f.size)=true:=decide_eq_true oM;clear bF;go_wp2_with fail
    clear hd bB;refine(pW _ (ag.o.below F.o) (ah.o.below F.o)).mono ?_;rintro e wk ⟨rfl,G⟩;replace F:=bT F G;clear G;go_wp2_with fail
    go_returns;exact⟨rfl,F.o⟩
  ·have b0:((E:Nat):Int)≠0:=oM
   have bd:(((E:Nat):Int) !=0)=true:=by simpa using b0
   have bz:(E !=0)=true:=by simpa using h0
   clear h0;go_wp2_with fail
   clear b0 bd bz;refine(pW _ (ag.o.below F.o) (ah.o.below F.o)).mono ?_;rintro e wk ⟨rfl,G⟩;replace F:=bT F G;clear G;go_wp2_with fail
   go_returns;exact⟨rfl,F.o⟩
 ·go_wp2_with fail
  refine(pW _ (ag.o.below F.o) (ah.o.below F.o)).mono ?_;rintro e wk ⟨rfl,G⟩;replace F:=bT F G;clear G;go_wp2_with fail
  go_returns;exact⟨rfl,F.o⟩
end Go.Proofs.YtdefghfjhgmpfaaGreatDoor
