/- Parts of this proof: Equ Exam Copied FrameR VerM. -/
import Derived.Test.YtdefghfjhgmpfaaGreatDoorMAE
import Derived.Test.YtdefghfjhgmpfaaGreatDoorMAY
import Derived.Test.YtdefghfjhgmpfaaGreatDoorMAP
import Derived.Test.YtdefghfjhgmpfaaGreatDoorMAU
import Derived.Test.YtdefghfjhgmpfaaGreatDoorMAV
import Derived.Test.YtdefghfjhgmpfaaGreatDoorMAR
import Derived.Deep.SlicePairs
namespace Go.Proofs.YtdefghfjhgmpfaaGreatDoor
open Go.Proofs.Tryz
section
open Go.RowKit
open Lp (RL upd eu)
def kX(n:Nat)(s:Nat -> ByteArray)(b:ByteArray):Nat:=if 96<n then 6 else iw n s b
def IC(w':World)(n:Nat)(s:Nat -> ByteArray)(b:ByteArray)(e:Ending):Prop:=
 (kX n s b≠0 /\ e= .returned (.tuple #[.slice none 0 0, .int .i64 (kX n s b:Nat)])) \/
 (kX n s b=0 /\ ∃ (c:Nat -> Rat) (q:Rat) (g d gP gN:Nat),(∀j,j<n -> (s j).data.toList=fA (c j)) /\ b.data.toList=fA q /\ e= .returned (.tuple #[.slice (some ⟨g,0,none⟩) 2 d, .int .i64 0]) /\
  w'.cell? ⟨g,0,none⟩=some (.slice (some ⟨gP,0,none⟩) n n) /\ w'.cell? ⟨g,1,none⟩=some (.string (eF q)) /\ w'.cell? ⟨g,2,none⟩=some (.slice (some ⟨gN,0,none⟩) n n) /\ w'.cell? ⟨g,3,none⟩=some (.string (eF (-q))) /\
  TS w' (.slice (some ⟨gP,0,none⟩) n n) n (fun j=>eF (c j)) /\ TS w' (.slice (some ⟨gN,0,none⟩) n n) n (fun j=>eF (-(c j))))
theorem C8:(prog.info? 53).map (fun i=>(i.zero,i.size,i.bytes))=some (some (.agg #[.slice none 0 0, .string ⟨#[]⟩]),2,40):=by kernel_rfl
theorem IE{w:World}{g n size:Nat}{e:TypeId}{cs:List Value}(h:Row w g e cs)(r:cs.length=n*size)(t:n <= maxLen):w.ownsRow 0 e size (.slice (some ⟨g,0,none⟩) n n) n cs:=
 ⟨r, .inr ⟨g,n,cs.toArray,rfl,Nat.zero_le _,h,Nat.le_refl _,t,by simpa using r,by rw[List.take_of_length_le (by simp[r])]⟩⟩
theorem C9{w:World}{n size:Nat}{e:TypeId}{v:Value}{xs:List Value}(h:w.ownsRow 0 e size v n xs)(M:0<n):∃ (g cap:Nat) (cs:List Value),v= .slice (some ⟨g,0,none⟩) n cap /\ Row w g e cs /\ ∀ (i:Nat) (x:Value),xs[i]? =some x -> cs[i]? =some x:=by
 rcases h.2 with ⟨_,h0⟩ | ⟨g,cap,C,G,_,E,_,_,_,t⟩
 ·omega
 ·refine⟨g,cap,C.toList,G,E,fun i x r=> ?_⟩;have F:=(List.getElem?_eq_some_iff.1 r).1;rw[<- t,List.length_take] at F;rw[<- t,List.getElem?_take_of_lt oM] at r;exact r
theorem Ca{w:World}{g n:Nat}{f:Nat -> Rat}(h:RB w g n f)(r:n <= 1000000000):eZ w (.slice (some ⟨g,0,none⟩) n n) n f:=⟨_,_,rfl,Nat.le_refl _,by unfold maxLen;omega, .inr ⟨g,rfl,h⟩⟩
theorem SK.turned{w w':World}{g n:Nat}{s:Nat -> ByteArray}{v v':Value}(h:SK w g n s)(E:Turned w w' v v')(t:v.ownBlock≠some g):SK w' g n s:=by
 obtain⟨cs,C,h1,r⟩:=h;exact⟨cs,C.turned E t,h1,r⟩
set_option maxRecDepth 100000 in
set_option maxHeartbeats 6400000 in
theorem K5(va:Value)(n:Nat)(s:Nat -> ByteArray)(b:ByteArray)(Kq:Nat)(w:World)(ha:TS w va n s)(hn:n <= 1000000000)(G:Kq <= 65536)(hs:∀j,j<n -> (s j).size <= Kq)(E:b.size <= Kq)(hg:iG w)(ht:Tab w):
  Calls prog 46 #[va, .string b] w fun e w'=>IC w' n s b e /\ Below w.heap.size w w':=by
 obtain⟨A,c0,rfl,_,_⟩:=ha.shape;have HA:=lH ha;have Y:=lH (And.intro hs (And.intro E G));have al:=lH hg;have M:=lH ht;have b3:=M;have a7:=lH hn;have h:Hid (Below w.heap.size w w):=lH (Below.refl _ _);clear ha hs E G hg ht;go_enter func46,ntmps46;by_cases ae:96<n
 ·have hi:(96:Int)<((n:Nat):Int):=oM
  have X:Hid (kX n s b=6):=lH (by unfold kX;rw[if_pos ae]);clear ae hn;go_wp2_with fail
  go_returns;exact⟨.inl ⟨by rw[X.o];decide,by rw[X.o];rfl⟩,h.o⟩
 ·have hi:((n:Nat):Int) <= 96:=oM
  have hd:decide ((96:Int)<((n:Nat):Int))=false:=decide_eq_false oM;have b9:decide (96<n)=false:=decide_eq_false ae;have HN:=lH ae;clear ae hn;go_wp2_with fail
  clear hi hd b9;refine(tL _ n s _ HA.o a7.o (fun j W=>by have:=Y.o.1 j W;have:=Y.o.2.2;omega) al.o).mono ?_;rintro e w1 ⟨hr,E⟩;replace h:=bT h E;replace M:=lH (M.o.below E);replace al:=lH (al.o.below E);clear E
  rcases tN hr with ⟨h0,rfl⟩ | ⟨h0,gC,c,aO,rfl,aR,a2⟩
  ·obtain⟨cc,a2⟩:=eX (fo n (fun j=>sE (s j)));rw[<- a2] at h0 ⊢;have au:((cc:Nat):Int)≠0:=oM
   have b7:(((cc:Nat):Int) !=0)=true:=by simpa using au
   have b8:(cc !=0)=true:=by simpa using h0
   have ao:=lH h0;have X:Hid (kX n s b=cc):=lH (by unfold kX iw;rw[if_neg HN.o, <- a2,if_pos h0]);clear h0 a2 hr;go_wp2_with fail
   go_returns;exact⟨.inl ⟨by rw[X.o];exact ao.o,by rw[X.o];rfl⟩,h.o⟩
  ·have b2:=lH aO;clear aO;have aC:=lH h0;have aB:=lH a2;have t:=lH aR;clear h0 a2 aR hr;go_wp2_with fail
   refine(tK b _ (by have:=Y.o.2.1;have:=Y.o.2.2;omega) al.o).mono ?_;rintro e w2 ⟨hr,E⟩;replace h:=bT h E;replace M:=lH (M.o.below E);replace t:=lH (t.o.below E);clear E
   rcases hr with ⟨h0,rfl⟩ | ⟨q,v,h0,hl,rfl,hv⟩
   ·obtain⟨cc,a2⟩:=eX (fK b.data.toList);rw[<- a2] at h0 ⊢;have au:((cc:Nat):Int)≠0:=oM
    have b7:(((cc:Nat):Int) !=0)=true:=by simpa using au
    have b8:(cc !=0)=true:=by simpa using h0
    have ao:=lH h0;have X:Hid (kX n s b=cc):=lH (by unfold kX iw;rw[if_neg HN.o,if_neg (by rw[aC.o];simp)];exact a2.symm);clear h0 a2;have aY:=lH (h.o.trans ((eD w2 (.cells #[.bool false, .slice none 0 0, .bool false, .slice none 0 0] 105)).mono h.o.size));go_wp2_with fail
    go_returns;exact⟨.inl ⟨by rw[X.o];exact ao.o,by rw[X.o];rfl⟩,aY.o⟩
   ·obtain⟨sv,Av,lv,cv,tv,Bv,mv,dv,rfl⟩:=hv.shape;have X:Hid (kX n s b=0):=lH (by unfold kX iw;rw[if_neg HN.o,if_neg (by rw[aC.o];simp)];exact h0);have HQ:=lH hl;have R:=lH hv;have aE:Hid (∀j,j<n -> RL Kq (c j)):=lH (fun j W=>iU (aB.o j W) (Y.o.1 j W));have aF:Hid (RL Kq q):=lH (iU hl Y.o.2.1);clear h0 hl hv;obtain⟨w3,an⟩:=eX (w2.alloc (.cells #[.bool sv, .slice Av lv cv, .bool tv, .slice Bv mv dv] 105));obtain⟨gV,ag⟩:=eX (w2.heap.size);have af:Below w2.heap.size w2 w3:=by rw[an];exact eD _ _
    have C:Hid (Row w3 gV 105 [.bool sv, .slice Av lv cv, .bool tv, .slice Bv mv dv]):=lH (by rw[an,ag];exact eP _ _);have b0:Hid (gC≠gV):=lH (by rw[ag];exact Nat.ne_of_lt t.o.lt);have bm:Hid (w.heap.size <= gV):=lH (by rw[ag];exact h.o.size);replace h:=bT h af;replace M:=lH (M.o.below af);replace t:=lH (t.o.below af);replace R:=lH (R.o.below af);go_wp2_with fail
    rw[<- an, <- ag];clear an ag af;go_wp2_with fail
    have F:=rG w3;have ar:=C.o.lt;obtain⟨aa,ab,ac,ad⟩:=aT4 C.o;have U:=lH (kC aa (kC ab (kC ac (kN ad))));clear ar aa ab ac ad;refine rL U.o (fun i=>false) ?_;have r:=U.o _ F.o;refine tKs 0 30 r ?_;refine tKs 2 32 r ?_;refine rD 1 (fun K G=> ?_);go_simp;refine(om _ n Kq c _ (by exact Ca t.o a7.o) a7.o aE.o (by have:=Y.o.2.2;omega) (by exact M.o)).mono ?_;rintro e w4 ⟨gP,rfl,bb,aQ,a5⟩;have a5:Below w3.heap.size w3 w4:=bD a5;replace R:=lH (R.o.below a5);replace C:=rW C a5;replace t:=lH (t.o.below a5);replace h:=bT h a5;replace M:=lH (M.o.below a5);replace F:=bT F a5;have O:=lH aQ;clear bb aQ;clear r a5;have r:=U.o _ F.o;refine kH G r ?_;clear G K;refine rD 3 (fun K G=> ?_);go_simp;refine(tQ _ q Kq _ (by exact R.o) aF.o (by have:=Y.o.2.2;omega) (by exact M.o)).mono ?_;rintro e w5 ⟨rfl,a0⟩;have a0:Below w4.heap.size w4 w5:=bD a0;replace R:=lH (R.o.below a0);replace C:=rW C a0;replace O:=lH (O.o.below a0);replace t:=lH (t.o.below a0);replace h:=bT h a0;replace M:=lH (M.o.below a0);replace F:=bT F a0;clear r a0;have r:=U.o _ F.o;refine kH G r ?_;clear G K;refine tKs 4 34 r ?_;refine rD 5 (fun K G=> ?_);go_simp;obtain⟨w6,a6⟩:=eX (w5.alloc (.cells #[.slice (some ⟨gP,0,none⟩) n n, .string (eF q)] 53));obtain⟨g9,a3⟩:=eX (w5.heap.size);have E:Below w5.heap.size w5 w6:=by rw[a6];exact eD _ _
    have T:Hid (Row w6 g9 53 [.slice (some ⟨gP,0,none⟩) n n, .string (eF q)]):=lH (by rw[a6,a3];exact eP _ _);rw[<- a6, <- a3];clear a6;have b1:Hid (w.heap.size <= g9):=lH (by rw[a3];exact h.o.size);have aZ:Hid (gC≠g9):=lH (by rw[a3];exact Nat.ne_of_lt t.o.lt);have b4:Hid (gV≠g9):=lH (by rw[a3];exact Nat.ne_of_lt C.o.lt);clear a3;replace R:=lH (R.o.below E);replace C:=rW C E;replace t:=lH (t.o.below E);replace O:=lH (O.o.below E);replace M:=lH (M.o.below E);replace h:=bT h E;replace F:=bT F E;clear E r;have r:=U.o _ F.o;refine kH G r ?_;clear G K;refine tKs 6 9 r ?_;refine dN ?_ _;clear r U F;go_wp2_with fail
    go_loopw [38] (fun iv wr=>∃ (k:Nat) (f:Nat -> Rat),k <= n /\ iv= .int .i64 k /\ Hid (∀j,j<k -> f j= -(c j)) /\ Hid (∀j,k <= j -> j<n -> f j=c j) /\ RB wr gC n f /\ Row wr gV 105 [.bool sv, .slice Av lv cv, .bool tv, .slice Bv mv dv] /\ eO wr (.agg #[.bool sv, .slice Av lv cv, .bool tv, .slice Bv mv dv]) q /\ Row wr g9 53 [.slice (some ⟨gP,0,none⟩) n n, .string (eF q)] /\ SK wr gP n (fun j=>eF (c j)) /\ Tab wr /\ Below w.heap.size w wr)
     (fun iv _=>n-(intOf iv).toNat)
    case atStart=>exact⟨0,c,Nat.zero_le _,rfl,lH (fun j W=>absurd W oM),lH (fun j _ _=>rfl),t.o,C.o,R.o,T.o,O.o,M.o,h.o⟩
    case round=>
     clear t C R T O M h;obtain⟨k,f,hk,rfl,h1,h2,aJ,aW,aU,aN,aS,aT,aH⟩:=hrel;have ap:=lH h1.o;have aq:=lH h2.o;have t:=lH aJ;have C:=lH aW;have R:=lH aU;have T:=lH aN;have O:=lH aS;have M:=lH aT;have h:=lH aH;clear h1 h2 aJ aW aU aN aS aT aH;by_cases bp:((k:Nat):Int)<((n:Nat):Int)
     ·have am:k<n:=oM
      have bo:((k:Nat):Int) <= 1000000000:=by have:=a7.o;omega
      obtain⟨sy,Ay,ly,cy,ty,By,my,dy,b5,aV⟩:=t.o.fO am;obtain⟨av,aw,ax,ay⟩:=b5;have az:=t.o.lt;have VY:=lH aV;clear aV;go_wp2_with fail
      clear av aw ax ay az;refine(nU _ (f k) _ VY.o).mono ?_;rintro e w8 ⟨u,rfl,hu,a8⟩;obtain⟨su,Au,lu,cu,tu,Bu,mu,du,rfl⟩:=hu.shape;have HU:=lH hu;clear hu VY;replace t:=lH (t.o.below a8);replace R:=lH (R.o.below a8);replace O:=lH (O.o.below a8);replace C:=rW C a8;replace T:=rW T a8;replace h:=bT h a8;clear a8;obtain⟨sz,Az,lz,cz,tz,Bz,mz,dz,b6,_⟩:=t.o.fO am;obtain⟨av,aw,ax,ay⟩:=b6;have az:=t.o.lt;have bh:=t.o.free (k*4);have bi:=t.o.free (k*4+1);have bj:=t.o.free (k*4+2);have bk:=t.o.free (k*4+3);have hg:=il w8 gC (k*4) (k*4+1) (k*4+2) (k*4+3) (.bool su) (.slice Au lu cu) (.bool tu) (.slice Bu mu du);obtain⟨bn,a9⟩:=t.o.row;have BN:=lH (t.o.set am HU.o);have XN:=lH (C.o.other hg (fun e=>b0.o e.symm));have VN:=lH (R.o.other hg a9 ic);have GN:=lH (T.o.other hg (fun e=>aZ.o e.symm));have V:=lH (O.o.other hg (by obtain⟨aG,ah,_⟩:=O.o;exact fV ah a9 dC));have aD:=lH (h.o.grown hg h.o.size (by intro x hx;simp only[Option.some.injEq] at hx;rw[<- hx];exact b2.o));have TN:=lH (b3.o.below aD.o);clear hg a9;go_wp2_with fail
      clear av aw ax ay az bh bi bj bk;go_roundw
      case rel=>
       refine⟨k+1,upd f k (-(f k)),by omega,by go_num,lH (fun j W=> ?_),lH (fun j h1 h2=> ?_),BN.o,XN.o,VN.o,GN.o,V.o,TN.o,aD.o⟩
       ·by_cases e:j=k
        ·subst e;rw[Lp.upd_same,aq.o j (Nat.le_refl _) am]
        ·rw[Lp.eT _ _ e];exact ap.o j oM
       ·rw[Lp.eT _ _ oM];exact aq.o j oM h2
      case measure=>exact mZ
     ·have bd:k=n:=oM
      have aK:=t.o.congr (fun j W=>ap.o j oM);replace t:=lH aK;clear aK bd ap aq;obtain⟨iR,bc,be,bf,bg⟩:=info_parts C8;go_wp2_with fail
      have F:=rG wr;have ar:=C.o.lt;obtain⟨aa,ab,ac,ad⟩:=aT4 C.o;have U:=lH (kC aa (kC ab (kC ac (kN ad))));clear ar aa ab ac ad;refine rL U.o (fun i=>false) ?_;have r:=U.o _ F.o;refine tKs 0 50 r ?_;refine tKs 1 51 r ?_;refine tKs 3 53 r ?_;refine rD 2 (fun K G=> ?_);go_simp;refine(om _ n Kq (fun j=> -(c j)) _ (by exact Ca t.o a7.o) a7.o (fun j W=>(aE.o j W).neg) (by have:=Y.o.2.2;omega) (by exact M.o)).mono ?_;rintro e w9 ⟨gN,rfl,ba,aP,a1⟩;have a1:Below wr.heap.size wr w9:=bD a1;replace R:=lH (R.o.below a1);replace C:=rW C a1;replace T:=rW T a1;replace O:=lH (O.o.below a1);replace h:=bT h a1;replace M:=lH (M.o.below a1);replace F:=bT F a1;have V:=lH aP;clear ba aP;clear r a1;have r:=U.o _ F.o;refine kH G r ?_;clear G K;refine rD 4 (fun K G=> ?_);go_simp;refine(nU _ q _ (by exact R.o)).mono ?_;rintro e aA ⟨vm,rfl,hm,Z⟩;have Z:Below w9.heap.size w9 aA:=bD Z;obtain⟨sm,Am,lm,cm,tm,Bm,mm,dm,rfl⟩:=hm.shape;have Vm:=lH hm;clear hm;replace C:=rW C Z;replace T:=rW T Z;replace O:=lH (O.o.below Z);replace V:=lH (V.o.below Z);replace h:=bT h Z;replace M:=lH (M.o.below Z);replace F:=bT F Z;clear r Z;have r:=U.o _ F.o;refine kH G r ?_;clear G K;refine rD 5 (fun K G=> ?_);go_simp;refine(tQ _ (-q) Kq _ (by exact Vm.o) aF.o.neg (by have:=Y.o.2.2;omega) (by exact M.o)).mono ?_;rintro e aj ⟨rfl,a4⟩;have a4:Below aA.heap.size aA aj:=bD a4;replace C:=rW C a4;replace T:=rW T a4;replace O:=lH (O.o.below a4);replace V:=lH (V.o.below a4);replace h:=bT h a4;replace F:=bT F a4;clear r a4;have r:=U.o _ F.o;refine kH G r ?_;clear G K;refine tKs 6 56 r ?_;refine rD 7 (fun K G=> ?_);go_simp;obtain⟨aX,a6⟩:=eX (aj.alloc (.cells #[.slice (some ⟨gN,0,none⟩) n n, .string (eF (-q))] 53));obtain⟨gX,a3⟩:=eX (aj.heap.size);have E:Below aj.heap.size aj aX:=by rw[a6];exact eD _ _
      have GX:Hid (Row aX gX 53 [.slice (some ⟨gN,0,none⟩) n n, .string (eF (-q))]):=lH (by rw[a6,a3];exact eP _ _);rw[<- a6, <- a3];clear a6;clear a3;replace C:=rW C E;replace T:=rW T E;replace O:=lH (O.o.below E);replace V:=lH (V.o.below E);replace h:=bT h E;replace F:=bT F E;clear E r;have r:=U.o _ F.o;refine kH G r ?_;clear G K;refine rD 8 (fun K G=> ?_);rw[if_pos (by rfl)];refine lW _ (.tmp 50) (.tmp 57) 23 rfl 53 iR _ 2 40 underlying23 bc be bf bg rfl dC (.slice (some ⟨g9,0,none⟩) 1 1) 1 _ rfl (IE T.o rfl (by unfold maxLen;omega)) ⟨gX,0,none⟩ 1 1 [.slice (some ⟨gN,0,none⟩) n n, .string (eF (-q))] rfl rfl ?_ ?_ (by unfold maxLen;omega) oM ?_
      ·intro j y W;rw[add0];exact GX.o.at_ j W
      ·intro y hy;simp only[List.mem_cons,List.not_mem_nil,or_false] at hy;rcases hy with rfl | rfl <;> rfl
      intro va bl ho ai;show K (Act.put _ (some 58) va) bl;have O:=lH (O.o.turned ai (by obtain⟨aG,ah,_⟩:=O.o;have:=fV ah T.o dC;simp[Value.ownBlock];exact fun e=>this e.symm));have V:=lH (V.o.turned ai (by obtain⟨aG,ah,_⟩:=V.o;have:=fV ah T.o dC;simp[Value.ownBlock];exact fun e=>this e.symm));have C:=lH (C.o.turned ai (by simp[Value.ownBlock];exact fun e=>b4.o e.symm));have aL:=ai.below (B:=w.heap.size) h.o.size (by intro x hx;simp only[Value.ownBlock,Option.some.injEq] at hx;rw[<- hx];exact b1.o);obtain⟨g,cap,cs,rfl,a9,aM⟩:=C9 ho dC;have HR:=lH a9;have ak:=lH aM;replace h:=lH (h.o.trans aL);clear aL ho ai a9 aM r;have r:_:=And.intro (C.o.at_ 0 rfl) (And.intro (C.o.at_ 1 rfl) (And.intro (C.o.at_ 2 rfl) (C.o.at_ 3 rfl)));refine kH G r ?_;clear G K;refine tKs 9 4 r ?_;refine tKs 10 5 r ?_;refine dN ?_ _;clear r U F;go_wp2_with fail
      go_returns;exact⟨.inr ⟨X.o,c,q,g,cap,gP,gN,aB.o,HQ.o,rfl,HR.o.at_ 0 (ak.o 0 _ rfl),HR.o.at_ 1 (ak.o 1 _ rfl),HR.o.at_ 2 (ak.o 2 _ rfl),HR.o.at_ 3 (ak.o 3 _ rfl),O.o.ts (Nat.le_refl _) (by have:=a7.o;unfold maxLen;omega),V.o.ts (Nat.le_refl _) (by have:=a7.o;unfold maxLen;omega)⟩,h.o⟩
end
section
open Go.RowKit
open Lp (RL upd eu)
def exO:List ByteArray:=[⟨#[49]⟩,⟨#[49]⟩]
def exR:oo:=[([⟨#[49]⟩,⟨#[48]⟩],⟨#[50]⟩),([⟨#[48]⟩,⟨#[49]⟩],⟨#[51]⟩),([⟨#[49]⟩,⟨#[49]⟩],⟨#[52]⟩)]
set_option maxRecDepth 100000 in
set_option maxHeartbeats 1600000 in
theorem oq(b:ByteArray)(A:Option Addr)(n c:Nat)(w:World):
  Calls prog 42 #[.string b, .slice A n c] w fun e w'=>e= .returned (.agg #[.slice A n c, .string b]) /\ Below w.heap.size w w':=by
 obtain⟨W,E,r,V⟩:=eN1 w [.slice none 0 0, .string ⟨#[]⟩] 53;go_enter func42,ntmps42;obtain⟨G,t,M,C⟩:=aF2 r.o;have O:=r.o.lt;rw[E] at G M t C O;go_wp2_with fail
 clear E G M t C O;have h:Row (w.alloc (.cells #[.slice A n c, .string b] 53)) w.heap.size 53 [.slice A n c, .string b]:=eP _ _;have F:=eD w (.cells #[.slice A n c, .string b] 53);obtain⟨X,R⟩:=eX (w.alloc (.cells #[.slice A n c, .string b] 53));rw[<- R] at h F ⊢;have T:=h.at_ 0 rfl;have U:=h.at_ 1 rfl;refine bodyPost_ret (v:= .agg #[.slice A n c, .string b]) (by simp[results,results42,go_sem,T,U]) rfl ?_;exact⟨rfl,F⟩
set_option maxRecDepth 100000 in
set_option maxHeartbeats 6400000 in
theorem IG(w:World):
  Calls prog 57 #[] w fun e w'=>∃go gr,e= .returned (.agg #[.slice (some ⟨go,0,none⟩) 2 2, .slice (some ⟨gr,0,none⟩) 3 3]) /\ TS w' (.slice (some ⟨go,0,none⟩) 2 2) 2 (lst exO) /\ fZ w' (.slice (some ⟨gr,0,none⟩) 3 3) 3 (rwK exR) (rwT exR) (rwB exR) /\ w.heap.size <= gr /\ Below w.heap.size w w':=by
 obtain⟨W,hW,h,G⟩:=eN1 w [.slice none 0 0, .slice none 0 0] 25;go_enter func57,ntmps57;go_wp2_with fail
 obtain⟨w2,a3⟩:=eX (((w.alloc (.cells #[.slice none 0 0, .slice none 0 0] 25)).alloc (.cells #[.string ⟨#[49]⟩, .string ⟨#[49]⟩] 30)).alloc (.cells #[.string ⟨#[49]⟩, .string ⟨#[48]⟩] 30));obtain⟨q0,Z,q2,qs,qb⟩:=kQ w (.cells #[.slice none 0 0, .slice none 0 0] 25) (.cells #[.string ⟨#[49]⟩, .string ⟨#[49]⟩] 30) (.cells #[.string ⟨#[49]⟩, .string ⟨#[48]⟩] 30);rw[<- a3] at q0 Z q2 qs qb ⊢;clear a3 hW h G;obtain⟨b2,a1⟩:=eX (w.heap.size+1+1);obtain⟨R,a0⟩:=eX (w.heap.size+1);rw[show w.heap.size+2=b2 from a1.symm] at q2;rw[<- a0] at Z;rw[<- a1, <- a0];have h1:w.heap.size<R:=oM
 have h2:w.heap.size<b2:=oM
 clear a0 a1 qs;have h:Row w2 w.heap.size 25 [.slice none 0 0, .slice none 0 0]:=q0;have r:Row w2 R 30 [.string ⟨#[49]⟩, .string ⟨#[49]⟩]:=Z;have t:Row w2 b2 30 [.string ⟨#[49]⟩, .string ⟨#[48]⟩]:=q2;have G:=lH qb;clear q0 Z q2 qb;replace h:=lH h;replace r:=lH r;replace t:=lH t;have h1:=lH h1;have h2:=lH h2;refine(oq _ _ 2 2 _).mono ?_;rintro e w3 ⟨rfl,C⟩;replace h:=h.o;replace r:=r.o;replace t:=t.o;replace h:=h.below C h.lt;replace r:=r.below C r.lt;replace t:=t.below C t.lt;replace G:=bT G C;clear C;replace h:=lH h;replace r:=lH r;replace t:=lH t;go_wp2_with fail
 obtain⟨w4,M⟩:=eX (w3.alloc (.cells #[.string ⟨#[48]⟩, .string ⟨#[49]⟩] 30));obtain⟨X,O⟩:=eX (w3.heap.size);have C:Below w3.heap.size w3 w4:=by rw[M];exact eD _ _
 have E:Row w4 X 30 [.string ⟨#[48]⟩, .string ⟨#[49]⟩]:=by rw[M,O];exact eP _ _
 have h3:Hid (w.heap.size<X):=lH (by rw[O];exact h.o.lt);rw[<- M, <- O];clear M O;replace h:=h.o;replace r:=r.o;replace t:=t.o;replace h:=h.below C h.lt;replace r:=r.below C r.lt;replace t:=t.below C t.lt;replace G:=bT G C;clear C;replace h:=lH h;replace r:=lH r;replace t:=lH t;replace E:=lH E;refine(oq _ _ 2 2 _).mono ?_;rintro e w5 ⟨rfl,C⟩;replace h:=h.o;replace r:=r.o;replace t:=t.o;replace E:=E.o;replace h:=h.below C h.lt;replace r:=r.below C r.lt;replace t:=t.below C t.lt;replace E:=E.below C E.lt;replace G:=bT G C;clear C;replace h:=lH h;replace r:=lH r;replace t:=lH t;replace E:=lH E;go_wp2_with fail
 obtain⟨w6,M⟩:=eX (w5.alloc (.cells #[.string ⟨#[49]⟩, .string ⟨#[49]⟩] 30));obtain⟨Y,O⟩:=eX (w5.heap.size);have C:Below w5.heap.size w5 w6:=by rw[M];exact eD _ _
 have F:Row w6 Y 30 [.string ⟨#[49]⟩, .string ⟨#[49]⟩]:=by rw[M,O];exact eP _ _
 have h4:Hid (w.heap.size<Y):=lH (by rw[O];exact h.o.lt);rw[<- M, <- O];clear M O;replace h:=h.o;replace r:=r.o;replace t:=t.o;replace E:=E.o;replace h:=h.below C h.lt;replace r:=r.below C r.lt;replace t:=t.below C t.lt;replace E:=E.below C E.lt;replace G:=bT G C;clear C;replace h:=lH h;replace r:=lH r;replace t:=lH t;replace E:=lH E;replace F:=lH F;refine(oq _ _ 2 2 _).mono ?_;rintro e w7 ⟨rfl,C⟩;replace h:=h.o;replace r:=r.o;replace t:=t.o;replace E:=E.o;replace F:=F.o;replace h:=h.below C h.lt;replace r:=r.below C r.lt;replace t:=t.below C t.lt;replace E:=E.below C E.lt;replace F:=F.below C F.lt;replace G:=bT G C;clear C;replace h:=lH h;replace r:=lH r;replace t:=lH t;replace E:=lH E;replace F:=lH F;obtain⟨V,M⟩:=eX (w7.alloc (.cells #[.slice (some ⟨b2,0,none⟩) 2 2, .string ⟨#[50]⟩, .slice (some ⟨X,0,none⟩) 2 2, .string ⟨#[51]⟩, .slice (some ⟨Y,0,none⟩) 2 2, .string ⟨#[52]⟩] 53));obtain⟨T,O⟩:=eX (w7.heap.size);have C:Below w7.heap.size w7 V:=by rw[M];exact eD _ _
 have Q5:Row V T 53 [.slice (some ⟨b2,0,none⟩) 2 2, .string ⟨#[50]⟩, .slice (some ⟨X,0,none⟩) 2 2, .string ⟨#[51]⟩, .slice (some ⟨Y,0,none⟩) 2 2, .string ⟨#[52]⟩]:=by rw[M,O];exact eP _ _
 have h5:Hid (w.heap.size<T):=lH (by rw[O];exact h.o.lt);replace h:=h.o;replace r:=r.o;replace t:=t.o;replace E:=E.o;replace F:=F.o;replace h:=h.below C h.lt;replace r:=r.below C r.lt;replace t:=t.below C t.lt;replace E:=E.below C E.lt;replace F:=F.below C F.lt;replace G:=bT G C;clear C;replace h:=lH h;replace r:=lH r;replace t:=lH t;replace E:=lH E;replace F:=lH F;replace Q5:=lH Q5;obtain⟨r0,f0,r1,f1⟩:=aF2 h.o;have rl:=h.o.lt;rw[M] at r0 r1 f0 f1 rl;go_wp2_with fail
 rw[<- M, <- O];clear M O r0 r1 f0 f1 rl;have U:World.grownBy V ((V.setCell ⟨w.heap.size,0,none⟩ (.slice (some ⟨R,0,none⟩) 2 2)).setCell ⟨w.heap.size,1,none⟩ (.slice (some ⟨T,0,none⟩) 3 3)) (some w.heap.size):=je _ _ _ _ _ _;have RE:Row ((V.setCell ⟨w.heap.size,0,none⟩ (.slice (some ⟨R,0,none⟩) 2 2)).setCell ⟨w.heap.size,1,none⟩ (.slice (some ⟨T,0,none⟩) 3 3)) w.heap.size 25 [.slice (some ⟨R,0,none⟩) 2 2, .slice (some ⟨T,0,none⟩) 3 3]:=(h.o.set 0 (.slice (some ⟨R,0,none⟩) 2 2)).set 1 (.slice (some ⟨T,0,none⟩) 3 3);have a2:=G.o.grown U G.o.size (by first | (simp;done) | (simp;omega));have E1:=r.o.other U (by have:=h1.o;omega);have E2:=t.o.other U (by have:=h2.o;omega);have E3:=E.o.other U (by have:=h3.o;omega);have E4:=F.o.other U (by have:=h4.o;omega);have E5:=Q5.o.other U (by have:=h5.o;omega);obtain⟨wE,a4⟩:=eX (((V.setCell ⟨w.heap.size,0,none⟩ (.slice (some ⟨R,0,none⟩) 2 2)).setCell ⟨w.heap.size,1,none⟩ (.slice (some ⟨T,0,none⟩) 3 3)));rw[<- a4] at RE a2 E1 E2 E3 E4 E5 ⊢;have k0:=RE.at_ 0 rfl;have k1:=RE.at_ 1 rfl;refine bodyPost_ret (v:= .agg #[.slice (some ⟨R,0,none⟩) 2 2, .slice (some ⟨T,0,none⟩) 3 3]) (by simp[results,results57,go_sem,k0,k1]) rfl ?_;refine⟨_,_,rfl,mD exO E1 (by unfold maxLen;decide),vW E5 dC (by unfold maxLen;decide) ?_,Nat.le_of_lt h5.o,a2⟩;intro i hi
 rcases i with _ | _ | _ | i
 ·exact⟨_,rfl,rfl,mD [⟨#[49]⟩,⟨#[48]⟩] E2 (by unfold maxLen;decide)⟩
 ·exact⟨_,rfl,rfl,mD [⟨#[48]⟩,⟨#[49]⟩] E3 (by unfold maxLen;decide)⟩
 ·exact⟨_,rfl,rfl,mD [⟨#[49]⟩,⟨#[49]⟩] E4 (by unfold maxLen;decide)⟩
 ·omega
end
section
open Go.RowKit
open Lp (RL upd eu)
def TRA(w:World)(v:Value)(m:Nat)(k:Nat -> Nat)(s:Nat -> Nat -> ByteArray)(b:Nat -> ByteArray):Prop:=
 ∃A c,v= .slice A m c /\ m <= c /\ c <= maxLen /\ (m=0 \/ ∃g o,A=some ⟨g,o,none⟩ /\ ∀i,i<m -> ∃u,w.cell? ⟨g,o+i*2,none⟩=some u /\ w.cell? ⟨g,o+i*2+1,none⟩=some (.string (b i)) /\ TSA w u (k i) (s i))
def iK(w:World)(v:Value)(q:Nat)(k:Nat -> Nat)(s:Nat -> Nat -> ByteArray)(b:Nat -> ByteArray):Prop:=
 ∃xs,w.ownsRow 0 53 2 v q xs /\ ∀i,i<q -> ∃u,xs[i*2]? =some u /\ xs[i*2+1]? =some (.string (b i)) /\ fH w u (k i) (s i)
section
variable {w w':World} {v v' u u':Value} {m q:Nat} {k:Nat -> Nat} {s:Nat -> Nat -> ByteArray} {b:Nat -> ByteArray}
theorem TRA.kG(h:TRA w v m k s b):fZ w v m k s b:=by
 obtain⟨A,c,R,h1,E,F⟩:=h;refine⟨A,c,R,h1,E,F.imp id fun⟨g,o,G,M⟩=>⟨g,o,G,fun i O=> ?_⟩⟩;obtain⟨u,r,t,C⟩:=M i O;exact⟨u,r,t,C.1⟩
theorem TRA.at_{A:Option Addr}{c:Nat}(h:TRA w (.slice A m c) m k s b)(C:0<m):
  ∃g o,A=some ⟨g,o,none⟩ /\ ∀i,i<m -> ∃u,w.cell? ⟨g,o+i*2,none⟩=some u /\ w.cell? ⟨g,o+i*2+1,none⟩=some (.string (b i)) /\ TSA w u (k i) (s i):=by
 obtain⟨A',c',t,_,_,r⟩:=h;simp only[Value.slice.injEq,true_and] at t;obtain⟨rfl,rfl⟩:=t
 rcases r with r | r
 ·omega
 ·exact r
theorem TRA.below(h:TRA w v m k s b)(r:Below w.heap.size w w'):TRA w' v m k s b:=by
 obtain⟨A,c,T,h1,F,G⟩:=h;refine⟨A,c,T,h1,F,G.imp id fun⟨g,o,M,O⟩=>⟨g,o,M,fun i R=> ?_⟩⟩;obtain⟨u,t,C,E⟩:=O i R;exact⟨u,cell_below r t,cell_below r C,E.below r⟩
theorem iK.nil(w:World)(k:Nat -> Nat)(s:Nat -> Nat -> ByteArray)(b:Nat -> ByteArray):iK w (.slice none 0 0) 0 k s b:=⟨[],World.ownsRow_nil _ _ _ _,fun j h=>absurd h oM⟩
theorem iK.shape(h:iK w v q k s b):∃A c,v= .slice A q c /\ q <= c /\ c <= maxLen:=by obtain⟨xs,r,_⟩:=h;exact sP r
theorem iK.lt(h:iK w v q k s b){g:Nat}(r:v.ownBlock=some g):g<w.heap.size:=by obtain⟨xs,t,_⟩:=h;exact(t.lt g r).2
theorem iK.row(h:iK w v q k s b){g:Nat}(r:v.ownBlock=some g):∃cs,Row w g 53 cs:=by obtain⟨xs,t,_⟩:=h;exact qN t r
theorem iK.below(h:iK w v q k s b)(r:Below w.heap.size w w'):iK w' v q k s b:=by
 obtain⟨xs,F,G⟩:=h;refine⟨xs,lI F (below_grown r) (by simp),fun i E=> ?_⟩;obtain⟨u,h1,t,C⟩:=G i E;exact⟨u,h1,t,eY.below C r⟩
theorem iK.other{g:Nat}{e:TypeId}{cs:List Value}(h:iK w v q k s b)(E:w.grownBy w' (some g))(F:Row w g e cs)(R:e≠53)(U:e≠30):iK w' v q k s b:=by
 have M:v.ownBlock≠some g:=fun r=>by obtain⟨_,t⟩:=h.row r;exact R (F.ty t)
 obtain⟨xs,V,W⟩:=h;refine⟨xs,lI V E (fun g' O r=>M (by rw[O];exact r.symm)),fun i T=> ?_⟩;obtain⟨u,h1,G,C⟩:=W i T;exact⟨u,h1,G,eY.other C E (fun r=>by obtain⟨_,t⟩:=eY.row C r;exact U (F.ty t))⟩
theorem Cb{n g:Nat}{t:Nat -> ByteArray}{e:TypeId}{cs:List Value}(h:fH w v n t)(C:w.grownBy w' (some g))(F:Row w g e cs)(E:e≠30):fH w' v n t:=
 eY.other h C (fun r=>by obtain⟨_,G⟩:=eY.row h r;exact E (F.ty G))
theorem II{n:Nat}{t:Nat -> ByteArray}(h:fH w v n t)(C:iK w u q k s b)(E:Turned w w' u u'):fH w' v n t:=
 eY.turned h E (zl (fun _ r=>eY.row h r) (fun _ r=>C.row r) dC)
theorem iK.kG(h:iK w v q k s b):fZ w v q k s b:=by
 obtain⟨A,c,rfl,h1,M⟩:=h.shape;refine⟨A,c,rfl,h1,M,?_⟩
 rcases Nat.eq_zero_or_pos q with h0 | h0
 ·exact .inl h0
 ·obtain⟨xs,R,T⟩:=h;obtain⟨g,cap,cs,C,t,r⟩:=C9 R h0;simp only[Value.slice.injEq,true_and] at C;refine .inr ⟨g,0,C.1,fun i O=> ?_⟩;obtain⟨u,E,F,G⟩:=T i O;refine⟨u,?_,?_,G.ts⟩
  ·rw[Nat.zero_add];exact t.at_ _ (r _ _ E)
  ·rw[Nat.zero_add];exact t.at_ _ (r _ _ F)
end
theorem IJ(w:World){o:Oper}{a:Act}{K:Act -> World -> Prop}{Q:Exit -> Act -> World -> Prop}(s x:Operand)
  (Z:o.op= .call {callee:= .builtin .append,args:= #[s,x],argTypes:= #[23,23]})
  (v:Value) (q:Nat) (k:Nat -> Nat) (t:Nat -> Nat -> ByteArray) (b:Nat -> ByteArray) (hs:a.eval s=v) (a0:iK w v q k t b)
  (A:Option Addr) (l c:Nat) (hu:fH w (.slice A l c) (k q) (t q)) (hx:a.eval x= .slice (some ⟨w.heap.size,0,none⟩) 1 1)
  (a5:q <= 1000000000000)
  (h:∀v' w',iK w' v' (q+1) k t b -> Turned w w' v v' -> K (a.put o.dst v') w'):Oper.wp prog o a (w.alloc (.cells #[.slice A l c, .string (b q)] 53)) K Q:=by
 obtain⟨i,X,a3,a4,F⟩:=info_parts C8;obtain⟨xs,U,a2⟩:=a0;have r:=eD w (.cells #[.slice A l c, .string (b q)] 53);have hr:Row (w.alloc (.cells #[.slice A l c, .string (b q)] 53)) w.heap.size 53 [.slice A l c, .string (b q)]:=eP _ _;have hl:xs.length=q*2:=U.1;have V:=lI U (below_grown r) (by simp);refine lW _ s x _ Z _ i _ 2 40 underlying23 X a3 a4 F rfl dC v q xs hs V ⟨w.heap.size,0,none⟩ 1 1 [.slice A l c, .string (b q)] hx rfl ?_ ?_ (by unfold maxLen;omega) oM ?_
 ·intro j y R;rw[add0];exact hr.at_ j R
 ·intro y W;simp only[List.mem_cons,List.not_mem_nil,or_false] at W;rcases W with rfl | rfl <;> rfl
 ·intro v' w' a1 C
  have O:∀ {z:Value} {n:Nat} {f:Nat -> ByteArray},fH w z n f -> fH w' z n f:=fun hz=>by
   have F:=eY.below hz r;exact eY.turned F C (zl (fun _ M=>eY.row F M) (fun _ M=>qN V M) dC)
  refine h v' w' ⟨_,a1,fun j R=> ?_⟩ ⟨⟨C.grown.os.trans r.os,C.grown.tape.trans r.tape,C.grown.output.trans r.output,Nat.le_trans r.size C.grown.size,fun k T Y=>(C.grown.block k (Nat.lt_of_lt_of_le T r.size) Y).trans (r.block k T)⟩,?_⟩
  ·by_cases e:j=q
   ·subst e;refine⟨.slice A l c,?_,?_,O hu⟩
    ·rw[List.getElem?_append_right oM,show j*2-xs.length=0 by omega];rfl
    ·rw[List.getElem?_append_right oM,show j*2+1-xs.length=1 by omega];rfl
   ·obtain⟨u,h1,E,G⟩:=a2 j oM;exact⟨u,by rw[List.getElem?_append_left oM];exact h1,by rw[List.getElem?_append_left oM];exact E,O G⟩
  ·rcases C.own with E | ⟨g,E,G⟩
   ·exact .inl E
   ·exact .inr ⟨g,E,Nat.le_trans r.size G⟩
set_option maxRecDepth 100000 in
set_option maxHeartbeats 6400000 in
theorem vX(AO AR:Option Addr)(n m cO cR:Nat)(k:Nat -> Nat)(o:Nat -> ByteArray)(t:Nat -> Nat -> ByteArray)(b:Nat -> ByteArray)(w:World)(ho:TSA w (.slice AO n cO) n o)(hr:TRA w (.slice AR m cR) m k t b)(hn:n <= 1000000000)(hm:m <= 1000000000)(hk:∀i,i<m -> k i <= 1000000000):
  Calls prog 25 #[.agg #[.slice AO n cO, .slice AR m cR]] w fun e w'=>∃v u,e= .returned (.agg #[v,u]) /\ fH w' v n o /\ iK w' u m k t b /\ Below w.heap.size w w':=by
 have HO:=lH ho;have HR:=lH hr;have a9:=lH (And.intro hn (And.intro hm hk));clear ho hr;obtain⟨W,hW,PB,C,h⟩:=eN2 w [.slice AO n cO, .slice AR m cR] 25 [.slice none 0 0, .slice none 0 0] 25;go_enter func25,ntmps25;obtain⟨p0,p1⟩:=aT2 PB.o;have pl:=PB.o.lt;rw[hW] at p0 p1 pl;go_wp2_with fail
 rw[<- hW];clear hW p0 p1 pl;refine(zX _ n o _ (HO.o.below h.o) a9.o.1).mono ?_;rintro e w2 ⟨v,rfl,hv,_,_,a6⟩;obtain⟨E,F,rfl,_,_⟩:=eY.shape hv;have M:=lH hv;replace PB:=rW PB a6;replace C:=rW C a6;replace h:=bT h a6;clear a6 hv;obtain⟨w3,a4⟩:=eX (w2.alloc (.cells #[.slice E n F, .slice none 0 0] 25));obtain⟨g3,a7⟩:=eX (w2.heap.size);have a2:Below w2.heap.size w2 w3:=by rw[a4];exact eD _ _
 have r:Hid (Row w3 g3 25 [.slice E n F, .slice none 0 0]):=lH (by rw[a4,a7];exact eP _ _);have ad:Hid (w.heap.size+1<g3):=lH (by rw[a7];exact C.o.lt);replace PB:=rW PB a2;replace C:=rW C a2;replace M:Hid (fH w3 (.slice E n F) n o):=lH (eY.below M.o a2);replace h:=bT h a2;obtain⟨p0,p1⟩:=aT2 PB.o;have pl:=PB.o.lt;rw[a4] at p0 p1 pl;go_wp2_with fail
 rw[<- a4, <- a7];clear a4 a7 a2 p0 p1 pl;have ae:=r;have ag:=M;have af:=C;have ac:=h;clear r M C h PB
 go_loopw [13] (fun iv wr=>∃ (q:Nat) (B:Option Addr) (d:Nat),q <= m /\ iv= .int .i64 q /\ Row wr g3 25 [.slice E n F, .slice B q d] /\ fH wr (.slice E n F) n o /\ iK wr (.slice B q d) q k t b /\ Hid (∀g,(Value.slice B q d).ownBlock=some g -> w.heap.size <= g) /\ Row wr (w.heap.size+1) 25 [.slice none 0 0, .slice none 0 0] /\ Below w.heap.size w wr)
  (fun iv _=>m-(intOf iv).toNat)
 case atStart=>exact⟨0,none,0,Nat.zero_le _,rfl,ae.o,ag.o,iK.nil _ _ _ _,lH (fun g U=>by simp[Value.ownBlock] at U),af.o,ac.o⟩
 case round=>
  clear ae ag af ac;obtain⟨q,B,d,hq,rfl,av,az,ar,aq,ay,am⟩:=hrel;have r:=lH av;have M:=lH az;have R:=lH ar;have LO:=lH aq.o;have C:=lH ay;have h:=lH am;clear av az ar aq ay am;by_cases aJ:((q:Nat):Int)<((m:Nat):Int)
  ·have aw:q<m:=oM
   obtain⟨gR,oR,rfl,ap⟩:=HR.o.at_ oM;obtain⟨u,an,ao,aa⟩:=ap q aw;obtain⟨X,x,rfl,_,_⟩:=aa.1.shape;have a5:=lH (aa.below h.o);have c1:=cell_below h.o an;have c2:=cell_below h.o ao;have cl:=eG c1;clear ap an ao aa;obtain⟨w4,a8⟩:=eX (wr.alloc (.cells #[.slice X (k q) x, .string (b q)] 53));obtain⟨g5,a3⟩:=eX (wr.heap.size);have a0:Below wr.heap.size wr w4:=by rw[a8];exact eD _ _
   have XB:Hid (Row w4 g5 53 [.slice X (k q) x, .string (b q)]):=lH (by rw[a8,a3];exact eP _ _);have aH:Hid (g3≠g5):=lH (by rw[a3];exact Nat.ne_of_lt r.o.lt);have aA:Hid (∀g,(Value.slice B q d).ownBlock=some g -> g≠g5):=lH (fun g U=>by rw[a3];exact Nat.ne_of_lt (R.o.lt U));replace r:=rW r a0;replace C:=rW C a0;replace M:Hid (fH w4 (.slice E n F) n o):=lH (eY.below M.o a0);replace R:=lH (R.o.below a0);replace a5:=lH (a5.o.below a0);replace h:=bT h a0
   go_upto_region 5 with (fail)
   rw[<- a8, <- a3];clear a8 a3 a0 c1 c2 cl;go_wp2_with fail
   have Z:=rG w4;have aD:=r.o.lt;obtain⟨ah,aj⟩:=aT2 r.o;have aE:=XB.o.lt;obtain⟨ai,ak⟩:=aT2 XB.o;have KS:=lH (kC ah (kC aj (kC ai (kN ak))));clear aD ah aj aE ai ak;refine rL KS.o (fun i=>decide (11 <= i)) ?_;have G:=KS.o _ Z.o;refine tKs 0 17 G ?_;refine tKs 1 18 G ?_;refine tKs 2 19 G ?_;refine tKs 3 20 G ?_;refine tKs 4 21 G ?_;refine tKs 5 22 G ?_;refine rD 6 (fun K O=> ?_);go_simp;refine(zX _ (k q) (t q) _ (by exact a5.o) (a9.o.2.2 q aw)).mono ?_;rintro e w5 ⟨v5,rfl,ab,_,_,V⟩;have V:Below w4.heap.size w4 w5:=bD V;replace r:=rW r V;replace XB:=rW XB V;replace C:=rW C V;replace R:=lH (R.o.below V);replace h:=bT h V;replace Z:=bT Z V;obtain⟨Y,y,rfl,_,_⟩:=eY.shape ab;have V5:=lH ab;replace M:Hid (fH w5 (.slice E n F) n o):=lH (eY.below M.o V);clear ab;clear G V;have G:=KS.o _ Z.o;refine kH O G ?_;clear O K;refine rD 7 (fun K O=> ?_);go_simp;refine(oq (b q) Y (k q) y _).mono ?_;rintro e w6 ⟨rfl,T⟩;have T:Below w5.heap.size w5 w6:=bD T;replace r:=rW r T;replace XB:=rW XB T;replace C:=rW C T;replace R:=lH (R.o.below T);replace h:=bT h T;replace Z:=bT Z T;replace M:Hid (fH w6 (.slice E n F) n o):=lH (eY.below M.o T);replace V5:Hid (fH w6 (.slice Y (k q) y) (k q) (t q)):=lH (eY.below V5.o T);clear G T;have G:=KS.o _ Z.o;refine kH O G ?_;clear O K;refine rD 8 (fun K O=> ?_);go_simp;refine O.out _ _ (fun _=>KS.o _ (Z.o.trans ((eD _ _).mono Z.o.size))) ?_;clear O K G;refine rD 9 (fun K O=> ?_);rw[if_pos (by rfl)];refine IJ w6 (.tmp 18) (.tmp 25) rfl (.slice B q d) q k t b rfl R.o Y (k q) y V5.o rfl (by have:=a9.o.2.1;omega) ?_;intro va w8 ho a1;show K (Act.put _ (some 26) va) w8;obtain⟨B2,d2,rfl,_,_⟩:=ho.shape;have au:(Value.slice B q d).ownBlock≠some g3:=fun e=>by obtain⟨_,hx⟩:=R.o.row e;exact absurd (r.o.ty hx) dC
   have ax:(Value.slice B q d).ownBlock≠some (w.heap.size+1):=fun e=>by obtain⟨_,hx⟩:=R.o.row e;exact absurd (C.o.ty hx) dC
   replace r:=lH (r.o.turned a1 au);replace C:=lH (C.o.turned a1 ax);replace XB:=lH (XB.o.turned a1 (fun e=>aA.o _ e rfl));replace M:Hid (fH w8 (.slice E n F) n o):=lH (II M.o R.o a1);have al:=a1.below (B:=w.heap.size) h.o.size LO.o;have aB:=lH (a1.base h.o.size LO.o);replace h:=lH (h.o.trans al);have aC:=lH ho;clear al a1 ho au ax V5 a5 R LO V T;have G:=And.intro (r.o.at_ 0 rfl) (And.intro (r.o.at_ 1 rfl) (And.intro (XB.o.at_ 0 rfl) (XB.o.at_ 1 rfl)));refine kH O G ?_;clear O K;refine tKs 10 27 G ?_;have k1:=aI 1 r;have f1:=r.o.free 1;have kl:=r.o.lt;refine rD 11 (fun K O=> ?_);go_simp;refine kL O ?_;clear O K;refine dN ?_ _;clear G KS Z;clear k1 f1 kl;have U:World.grownBy w8 (w8.setCell ⟨g3,1,none⟩ (.slice B2 (q+1) d2)) (some g3):=grownBy_set _ _ _ _;have QN:Row (w8.setCell ⟨g3,1,none⟩ (.slice B2 (q+1) d2)) g3 25 [.slice E n F, .slice B2 (q+1) d2]:=r.o.set 1 (.slice B2 (q+1) d2);have VN:fH (w8.setCell ⟨g3,1,none⟩ (.slice B2 (q+1) d2)) (.slice E n F) n o:=Cb M.o U r.o dC;have ON:=aC.o.other U r.o dC dC;have RN:=C.o.other U (by have:=ad.o;omega);have HN:=h.o.grown U h.o.size (by have:=ad.o;first | (simp;done) | (simp;omega));go_wp2_with fail
   go_roundw
   case rel=>exact⟨q+1,B2,d2,by omega,by go_num,QN,VN,ON,aB,RN,HN⟩
   case measure=>exact mZ
  ·have aF:m=q:=oM
   subst aF;obtain⟨q0,q1⟩:=aT2 r.o;have ql:=r.o.lt;obtain⟨r0,r1⟩:=aT2 C.o;have f0:=C.o.free 0;have f1:=C.o.free 1;have rl:=C.o.lt;go_wp2_with fail
   clear q0 q1 ql r0 r1 f0 f1 rl;have U:World.grownBy wr ((wr.setCell ⟨w.heap.size+1,0,none⟩ (.slice E n F)).setCell ⟨w.heap.size+1,1,none⟩ (.slice B m d)) (some (w.heap.size+1)):=grownBy_trans (grownBy_set _ _ _ _) (grownBy_set _ _ _ _);have RE:Row ((wr.setCell ⟨w.heap.size+1,0,none⟩ (.slice E n F)).setCell ⟨w.heap.size+1,1,none⟩ (.slice B m d)) (w.heap.size+1) 25 [.slice E n F, .slice B m d]:=(C.o.set 0 (.slice E n F)).set 1 (.slice B m d);have VN:fH ((wr.setCell ⟨w.heap.size+1,0,none⟩ (.slice E n F)).setCell ⟨w.heap.size+1,1,none⟩ (.slice B m d)) (.slice E n F) n o:=Cb M.o U C.o dC;have ON:=R.o.other U C.o dC dC;have HN:=h.o.grown U h.o.size (by first | (simp;done) | (simp;omega));obtain⟨wE,aG⟩:=eX (((wr.setCell ⟨w.heap.size+1,0,none⟩ (.slice E n F)).setCell ⟨w.heap.size+1,1,none⟩ (.slice B m d)));rw[<- aG] at RE VN ON HN ⊢;have k0:=RE.at_ 0 rfl;have k1:=RE.at_ 1 rfl;refine bodyPost_ret (v:= .agg #[.slice E n F, .slice B m d]) (by simp[results,results25,go_sem,k0,k1]) rfl ?_;exact⟨_,_,rfl,VN,ON,HN⟩
end
section
open Go.ChangeShapes Go.WideShapes Go.ChangeAt Go.RowKit
theorem rf{W:World}{H:Type}{enc:TypeId × Value -> H}{fuel:Nat}{v:Value}{x:DataW H × List MemPlace}(M:DataW.trod enc prog W 0 (fun _=>true) true fuel 22 [v]=some x):∃n s,TSA W v n s:=by
 rcases Go.Deep.open_strs underlying22 underlying30 kR M with ⟨h0,_⟩ | ⟨a,len,cap,m,r,h0,_,C,E,O,_,t⟩
 ·simp only[List.cons.injEq,and_true] at h0;subst h0;exact⟨0,fun _=>⟨#[]⟩,⟨_,_,rfl,Nat.le_refl _,Nat.zero_le _, .inl rfl⟩, .inl ⟨rfl,rfl⟩⟩
 ·simp only[List.cons.injEq,and_true] at h0;subst h0
  rcases Nat.eq_zero_or_pos len with G | G
  ·subst G;exact⟨0,r,⟨_,_,rfl,C,E, .inl rfl⟩, .inr (.inr ⟨rfl,a,cap,rfl⟩)⟩
  ·have U:len <= m:=by rw[O];split <;> omega
   have F:=World.cell?_spot (t 0 oM).1;obtain⟨b,o,h⟩:=a
   have R:h=none:=by
    have h1:((⟨b,o,h⟩:Addr).add 0)=⟨b,o,h⟩:=by unfold Addr.add;rw[if_pos rfl]
    rw[h1] at F;exact F
   subst R;refine⟨len,r,⟨_,_,rfl,C,E, .inr ⟨b,o,rfl,fun j T=> ?_⟩⟩, .inr (.inl ⟨b,o,cap,rfl⟩)⟩;have h1:=(t j oM).1;rw[add_plain] at h1;exact h1
theorem Cc{W:World}{H:Type}{enc:TypeId × Value -> H}{fuel:Nat}{v:Value}{x:DataW H × List MemPlace}(X:DataW.trod enc prog W 0 (fun _=>true) true fuel 23 [v]=some x):∃m k t b,TRA W v m k t b:=by
 rcases Go.Deep.open_slice_pairs underlying23 underlying53 kR rfl rfl kR kR X with ⟨h0,_⟩ | ⟨a,len,cap,m,n',E,U,D0,D1,P0,P1,h0,_,G,M,Y,_,h⟩
 ·simp only[List.cons.injEq,and_true] at h0;subst h0;exact⟨0,fun _=>0,fun _ _=>⟨#[]⟩,fun _=>⟨#[]⟩,_,_,rfl,Nat.le_refl _,Nat.zero_le _, .inl rfl⟩
 ·simp only[List.cons.injEq,and_true] at h0;subst h0;have a0:len <= m:=by rw[Y];split <;> omega
  rcases Nat.eq_zero_or_pos len with T | T
  ·subst T;exact⟨0,fun _=>0,fun _ _=>⟨#[]⟩,fun _=>⟨#[]⟩,_,_,rfl,G,M, .inl rfl⟩
  ·have R:=World.cell?_spot (h 0 oM).1;obtain⟨g,o,C⟩:=a
   have Z:C=none:=by
    have h1:((⟨g,o,C⟩:Addr).add (0*2))=⟨g,o,C⟩:=by unfold Addr.add;rw[if_pos rfl]
    rw[h1] at R;exact R
   subst Z
   have V:∀i,i<len -> ∃q:Nat × (Nat -> ByteArray) × ByteArray,U i= .string q.2.2 /\ TSA W (E i) q.1 q.2.1:=fun i r=>by
    obtain⟨_,_,h0,h1⟩:=h i oM;obtain⟨s,F,_,_⟩:=DataW.trod_string underlying30 h1;obtain⟨n,t,ht⟩:=rf h0;simp only[List.cons.injEq,and_true] at F;exact⟨(n,t,s),F,ht⟩
   obtain⟨q,O⟩:=Go.Deep.choose_lt V;refine⟨len,fun i=>(q i).1,fun i=>(q i).2.1,fun i=>(q i).2.2,_,_,rfl,G,M, .inr ⟨g,o,rfl,fun i r=> ?_⟩⟩;obtain⟨h0,h1,_,_⟩:=h i oM;rw[add_plain] at h0 h1;refine⟨E i,h0,?_,(O i r).2⟩;rw[<- (O i r).1];exact h1
set_option maxRecDepth 100000 in
theorem IK{W:World}{base:Nat}{v:Value}{H:Type}{enc:TypeId × Value -> H}{d:DataW H}{E:List MemPlace}(C:Value.okWide prog W .any base 23 v)(h:DataW.Trod enc prog W 0 (fun _=>true) true 23 v d E):
  ∃m k t b,TRA W v m k t b:=by
 obtain⟨a,n,c,rfl⟩:=okWide_slice underlying23 C;obtain⟨fuel,r⟩:=h;exact Cc r
end
section
open Go.RowKit
open Lp (RL upd eu eB sumTo sumTo_congr)
structure OTx where
 kk:Int
 s:ByteArray
 np:Nat
 p:Nat -> ByteArray
 ny:Nat
 y:Nat -> ByteArray
 nd:Nat
 d:Nat -> ByteArray
def mE(w:World)(v:Value)(O:OTx):Prop:=∃vp vy vd,v= .agg #[.int .i64 O.kk, .string O.s,vp,vy,vd] /\ TSA w vp O.np O.p /\ TSA w vy O.ny O.y /\ TSA w vd O.nd O.d
theorem mE.below{w w':World}{v:Value}{O:OTx}(h:mE w v O)(r:Below w.heap.size w w'):mE w' v O:=by
 obtain⟨G,M,F,E,h1,t,C⟩:=h;exact⟨G,M,F,E,h1.below r,t.below r,C.below r⟩
def OTx.Fit(O:OTx)(K:Nat):Prop:=O.s.size <= K /\ (∀j,j<O.np -> (O.p j).size <= K) /\ (∀j,j<O.ny -> (O.y j).size <= K) /\ ∀j,j<O.nd -> (O.d j).size <= K
theorem OTx.Fit.mono{O:OTx}{a b:Nat}(h:O.Fit a)(t:a <= b):O.Fit b:=⟨Nat.le_trans h.1 t,fun j r=>Nat.le_trans (h.2.1 j r) t,fun j r=>Nat.le_trans (h.2.2.1 j r) t,fun j r=>Nat.le_trans (h.2.2.2 j r) t⟩
def OTx.iE(O:OTx)(n m:Nat):Prop:=O.np=(if O.kk=2 then 0 else n) /\ O.ny=(if O.kk=3 then 0 else m) /\ O.nd=(if O.kk=3 then n else 0) /\ (O.kk=1 \/ O.s=⟨#[]⟩)
def OTx.ja(O:OTx):Nat:=if fo O.np (fun j=>sE (O.p j))≠0 then fo O.np (fun j=>sE (O.p j)) else if fo O.ny (fun j=>sE (O.y j))≠0 then fo O.ny (fun j=>sE (O.y j)) else fo O.nd (fun j=>sE (O.d j))
def OTx.err(O:OTx):Nat:=if O.kk=1 /\ sE O.s≠0 then sE O.s else O.ja
structure OTx.Is (O:OTx) (v:Rat) (x y d:Nat -> Rat):Prop where
 val:O.kk=1 -> O.s.data.toList=fA v
 pt:∀j,j<O.np -> (O.p j).data.toList=fA (x j)
 du:∀j,j<O.ny -> (O.y j).data.toList=fA (y j)
 ray:∀j,j<O.nd -> (O.d j).data.toList=fA (d j)
def kI(m n:Nat)(kk:Int)(A:Nat -> Nat -> Rat)(b c:Nat -> Rat)(v:Rat)(x y d:Nat -> Rat):Prop:=
 (kk=1 -> Lp.Opt m n A b c v x y) /\ (kk=2 -> Lp.Inf m n A b y) /\ (kk=3 -> Lp.Unb m n A b c x d)
def ou(n m:Nat)(k:Nat -> Nat)(o:Nat -> ByteArray)(t:Nat -> Nat -> ByteArray)(b:Nat -> ByteArray)(O:OTx)(code:Nat):Prop:=
 (fD n m k o t b≠0 /\ code=fD n m k o t b) \/
 (fD n m k o t b=0 /\ (((O.kk<1 \/ 3<O.kk) /\ code=12) \/
  ((1 <= O.kk /\ O.kk <= 3) /\ ((¬O.iE n m /\ code=13) \/
   (O.iE n m /\ ((O.err≠0 /\ code=O.err) \/
    (O.err=0 /\ ∃A bq c v x y d,jk n m o t b A bq c /\ O.Is v x y d /\ ((kI m n O.kk A bq c v x y d /\ code=0) \/ (¬kI m n O.kk A bq c v x y d /\ code=27)))))))))
theorem ow{n:Nat}{a r x x':Nat -> Rat}(h:∀k,k<n -> a k=r k)(C:∀k,k<n -> x k=x' k):eB n a x=eB n r x':=sumTo_congr fun k t=>by rw[h k t,C k t]
section
variable {m n:Nat} {A A':Nat -> Nat -> Rat} {b b' c c' x x' y y' d d':Nat -> Rat} {v v':Rat}
theorem Ce(t:∀i,i<m -> ∀j,j<n -> A i j=A' i j)(C:∀i,i<m -> b i=b' i)(E:∀j,j<n -> x j=x' j)(h:Lp.jC m n A b x):Lp.jC m n A' b' x':=fun i r=>by
 rw[<- ow (t i r) E, <- C i r];exact h i r
theorem Cf(E:∀i,i<m -> ∀j,j<n -> A i j=A' i j)(C:∀i,i<m -> y i=y' i)(F:∀j,j<n -> c j=c' j)(h:Lp.jc m n A y c):Lp.jc m n A' y' c':=
 ⟨fun i r=>by rw[<- C i r];exact h.pos i r,fun k t=>by rw[<- ow C (fun i r=>E i r k t), <- F k t];exact h.sum k t⟩
theorem IL(r:∀i,i<m -> ∀j,j<n -> A i j=A' i j)(t:∀i,i<m -> b i=b' i)(C:∀j,j<n -> c j=c' j)(F:∀j,j<n -> x j=x' j)(G:∀i,i<m -> y i=y' i)(E:v=v')(h:Lp.Opt m n A b c v x y):Lp.Opt m n A' b' c' v' x' y':=
 ⟨Cf r G C h.du,by rw[<- ow G t, <- E];exact h.bound,Ce r t F h.holds,by rw[<- ow C F, <- E];exact h.value⟩
theorem IM(t:∀i,i<m -> ∀j,j<n -> A i j=A' i j)(C:∀i,i<m -> b i=b' i)(r:∀i,i<m -> y i=y' i)(h:Lp.Inf m n A b y):Lp.Inf m n A' b' y':=
 ⟨Cf t r (fun _ _=>rfl) h.du,by rw[<- ow r C];exact h.bound⟩
theorem IP(r:∀i,i<m -> ∀j,j<n -> A i j=A' i j)(E:∀i,i<m -> b i=b' i)(F:∀j,j<n -> c j=c' j)(G:∀j,j<n -> x j=x' j)(t:∀j,j<n -> d j=d' j)(h:Lp.Unb m n A b c x d):Lp.Unb m n A' b' c' x' d':=
 ⟨Ce r E G h.holds,fun i C=>by rw[<- ow (r i C) t];exact h.ray i C,by rw[<- ow F t];exact h.up⟩
end
theorem lq{l:List UInt8}{p q:Rat}(h:l=fA p)(r:l=fA q):p=q:=rQ (h.symm.trans r)
theorem Cg{n m:Nat}{o:Nat -> ByteArray}{t:Nat -> Nat -> ByteArray}{bt:Nat -> ByteArray}{O:OTx}{A A':Nat -> Nat -> Rat}{b b' c c' x x' y y' d d':Nat -> Rat}{v v':Rat}
  (X:O.iE n m) (M:jk n m o t bt A b c) (C:O.Is v x y d) (R:jk n m o t bt A' b' c') (E:O.Is v' x' y' d') (h:kI m n O.kk A b c v x y d):kI m n O.kk A' b' c' v' x' y' d':=by
 have G:∀i,i<m -> ∀j,j<n -> A i j=A' i j:=fun i F j r=>lq (M.rows i F j r) (R.rows i F j r)
 have T:∀i,i<m -> b i=b' i:=fun i F=>lq (M.bounds i F) (R.bounds i F)
 have U:∀j,j<n -> c j=c' j:=fun j r=>lq (M.obj j r) (R.obj j r)
 obtain⟨V,W,Y,_⟩:=X;refine⟨fun e=> ?_,fun e=> ?_,fun e=> ?_⟩
 ·rw[if_neg oM] at V W;exact IL G T U (fun j r=>lq (C.pt j oM) (E.pt j oM)) (fun j r=>lq (C.du j oM) (E.du j oM)) (lq (C.val e) (E.val e)) (h.1 e)
 ·rw[if_neg oM] at W;exact IM G T (fun j r=>lq (C.du j oM) (E.du j oM)) (h.2.1 e)
 ·rw[if_neg oM] at V;rw[if_pos e] at Y;exact IP G T U (fun j r=>lq (C.pt j oM) (E.pt j oM)) (fun j r=>lq (C.ray j oM) (E.ray j oM)) (h.2.2 e)
theorem ou.uniq{n m:Nat}{k:Nat -> Nat}{o:Nat -> ByteArray}{t:Nat -> Nat -> ByteArray}{b:Nat -> ByteArray}{O:OTx}{M R:Nat}(h:ou n m k o t b O M)(C:ou n m k o t b O R):M=R:=by
 rcases h with ⟨a,e⟩ | ⟨a,h⟩ <;> rcases C with ⟨E,e'⟩ | ⟨E,C⟩
 ·rw[e,e']
 ·exact absurd E a
 ·exact absurd a E
 rcases h with ⟨q,e⟩ | ⟨q,h⟩ <;> rcases C with ⟨q',e'⟩ | ⟨q',C⟩
 ·rw[e,e']
 ·omega
 ·omega
 rcases h with ⟨z,e⟩ | ⟨z,h⟩ <;> rcases C with ⟨G,e'⟩ | ⟨G,C⟩
 ·rw[e,e']
 ·exact absurd G z
 ·exact absurd z G
 rcases h with ⟨r,e⟩ | ⟨r,A,Y,c,v,x,y,d,h1,U,W⟩ <;> rcases C with ⟨F,e'⟩ | ⟨F,A',Z,c',v',x',y',d',T,V,X⟩
 ·rw[e,e']
 ·exact absurd F r
 ·exact absurd r F
 rcases W with ⟨p,e⟩ | ⟨p,e⟩ <;> rcases X with ⟨p',e'⟩ | ⟨p',e'⟩
 ·rw[e,e']
 ·exact absurd (Cg z h1 U T V p) p'
 ·exact absurd (Cg z T V h1 U p') p
 ·rw[e,e']
theorem jE{s:ByteArray}{q:Rat}(h:s.data.toList=fA q):s=eF q:=lY (by rw[jI];exact h)
theorem Ch(q:Rat):sE (eF q)=0:=by unfold sE;rw[jI];exact mP q
theorem vY(n:Nat)(x:Nat -> Rat):fo n (fun j=>sE (eF (x j)))=0:=kF.2 fun _ _=>Ch _
theorem Ci{n m:Nat}{k:Nat -> Nat}{o:Nat -> ByteArray}{t:Nat -> Nat -> ByteArray}{b:Nat -> ByteArray}{O:OTx}{C:Nat}{A:Nat -> Nat -> Rat}{r c x y d:Nat -> Rat}{v:Rat}
  (h:ou n m k o t b O C) (h0:fD n m k o t b=0) (M:1 <= O.kk /\ O.kk <= 3) (T:O.iE n m) (G:O.err=0) (F:jk n m o t b A r c) (E:O.Is v x y d) (R:kI m n O.kk A r c v x y d):C=0:=
 h.uniq (.inr ⟨h0, .inr ⟨M, .inr ⟨T, .inr ⟨G,A,r,c,v,x,y,d,F,E, .inl ⟨R,rfl⟩⟩⟩⟩⟩)
theorem iA.tx{w:World}{m n K:Nat}{A:Nat -> Nat -> Rat}{G c:Nat -> Rat}{v:Value}(h:iA w m n K A G c v):
  ∃O:OTx,mE w v O /\ O.Fit (2*K+5) /\ (1 <= O.kk /\ O.kk <= 3) /\ O.iE n m /\ O.err=0 /\ ∃q x y d,O.Is q x y d /\ kI m n O.kk A G c q x y d:=by
 cases h with
 | opt P M Y T q x y h1 C E t F=>
  refine⟨⟨1,eF q,n,fun j=>eF (x j),m,fun j=>eF (y j),0,fun _=>⟨#[]⟩⟩,⟨_,_,_,h1,C,E,sQ _ _⟩,⟨oh t.1,fun j r=>oh (t.2.1 j r),fun j r=>oh (t.2.2 j r),fun j r=>absurd r (Nat.not_lt_zero _)⟩,⟨show(1:Int) <= 1 by decide,show(1:Int) <= 3 by decide⟩,⟨rfl,rfl,rfl, .inl rfl⟩,?_,q,x,y,fun _=>0,⟨fun _=>jI _,fun j _=>jI _,fun j _=>jI _,fun j r=>absurd r (Nat.not_lt_zero _)⟩,⟨fun _=>F,fun e=>absurd (show(1:Int)=2 from e) dC,fun e=>absurd (show(1:Int)=3 from e) dC⟩⟩;unfold OTx.err OTx.ja;rw[if_neg (fun h=>h.2 (Ch q))];simp only[vY,ne_eq,not_true_eq_false,if_false];rfl
 | inf Y T y h1 C t E=>
  refine⟨⟨2,⟨#[]⟩,0,fun _=>⟨#[]⟩,m,fun j=>eF (y j),0,fun _=>⟨#[]⟩⟩,⟨_,_,_,h1,sQ _ _,C,sQ _ _⟩,⟨Nat.zero_le _,fun j r=>absurd r (Nat.not_lt_zero _),fun j r=>oh (t j r),fun j r=>absurd r (Nat.not_lt_zero _)⟩,⟨show(1:Int) <= 2 by decide,show(2:Int) <= 3 by decide⟩,⟨rfl,rfl,rfl, .inr rfl⟩,?_,0,fun _=>0,y,fun _=>0,⟨fun e=>absurd (show(2:Int)=1 from e) dC,fun j r=>absurd r (Nat.not_lt_zero _),fun j _=>jI _,fun j r=>absurd r (Nat.not_lt_zero _)⟩,⟨fun e=>absurd (show(2:Int)=1 from e) dC,fun _=>E,fun e=>absurd (show(2:Int)=3 from e) dC⟩⟩;unfold OTx.err OTx.ja;rw[if_neg (fun h=>absurd (show(2:Int)=1 from h.1) dC)];simp only[vY,ne_eq,not_true_eq_false,if_false,fo]
 | unb P M R cr x d h1 C E t F=>
  refine⟨⟨3,⟨#[]⟩,n,fun j=>eF (x j),0,fun _=>⟨#[]⟩,n,fun j=>eF (d j)⟩,⟨_,_,_,h1,C,sQ _ _,E⟩,⟨Nat.zero_le _,fun j r=>oh (t.1 j r),fun j r=>absurd r (Nat.not_lt_zero _),fun j r=>oh (t.2 j r)⟩,⟨show(1:Int) <= 3 by decide,show(3:Int) <= 3 by decide⟩,⟨rfl,rfl,rfl, .inr rfl⟩,?_,0,x,fun _=>0,d,⟨fun e=>absurd (show(3:Int)=1 from e) dC,fun j _=>jI _,fun j r=>absurd r (Nat.not_lt_zero _),fun j _=>jI _⟩,⟨fun e=>absurd (show(3:Int)=1 from e) dC,fun e=>absurd (show(3:Int)=2 from e) dC,fun _=>F⟩⟩;unfold OTx.err OTx.ja;rw[if_neg (fun h=>absurd (show(3:Int)=1 from h.1) dC)];simp only[vY,ne_eq,not_true_eq_false,if_false,fo]
end
end Go.Proofs.YtdefghfjhgmpfaaGreatDoor
