/- Parts of this proof: Equ Exam Copied FrameR VerM. -/
import Derived.Test.YtdefghfjhgmpfaaGreatDoorMAE
import Derived.Test.YtdefghfjhgmpfaaGreatDoorMAY
import Derived.Test.YtdefghfjhgmpfaaGreatDoorMAP
import Derived.Test.YtdefghfjhgmpfaaGreatDoorMAU
import Derived.Test.YtdefghfjhgmpfaaGreatDoorMAV
import Derived.Test.YtdefghfjhgmpfaaGreatDoorMAR
import Derived.Deep.SlicePairs
namespace Go.Proofs.YtdefghfjhgmpfaaGreatDoor
open Go.Proofs.Tryz
section
open Go.RowKit
open Lp (RL upd eu)
def kX(n:Nat)(s:Nat -> ByteArray)(b:ByteArray):Nat:=if 96<n then 6 else iw n s b
def IC(w':World)(n:Nat)(s:Nat -> ByteArray)(b:ByteArray)(e:Ending):Prop:=
 (kX n s b≠0 /\ e= .returned (.tuple #[.slice none 0 0, .int .i64 (kX n s b:Nat)])) \/
 (kX n s b=0 /\ ∃ (c:Nat -> Rat) (q:Rat) (g d gP gN:Nat),(∀j,j<n -> (s j).data.toList=fA (c j)) /\ b.data.toList=fA q /\ e= .returned (.tuple #[.slice (some ⟨g,0,none⟩) 2 d, .int .i64 0]) /\
  w'.cell? ⟨g,0,none⟩=some (.slice (some ⟨gP,0,none⟩) n n) /\ w'.cell? ⟨g,1,none⟩=some (.string (eF q)) /\ w'.cell? ⟨g,2,none⟩=some (.slice (some ⟨gN,0,none⟩) n n) /\ w'.cell? ⟨g,3,none⟩=some (.string (eF (-q))) /\
  TS w' (.slice (some ⟨gP,0,none⟩) n n) n (fun j=>eF (c j)) /\ TS w' (.slice (some ⟨gN,0,none⟩) n n) n (fun j=>eF (-(c j))))
theorem C8:(prog.info? 53).map (fun i=>(i.zero,i.size,i.bytes))=some (some (.agg #[.slice none 0 0, .string ⟨#[]⟩]),2,40):=by kernel_rfl
theorem IE{w:World}{g n size:Nat}{e:TypeId}{cs:List Value}(h:Row w g e cs)(t:cs.length=n*size)(E:n <= maxLen):w.ownsRow 0 e size (.slice (some ⟨g,0,none⟩) n n) n cs:=
 ⟨t, .inr ⟨g,n,cs.toArray,rfl,Nat.zero_le _,h,Nat.le_refl _,E,by simpa using t,by rw[List.take_of_length_le (by simp[t])]⟩⟩
theorem C9{w:World}{n size:Nat}{e:TypeId}{v:Value}{xs:List Value}(h:w.ownsRow 0 e size v n xs)(R:0<n):∃ (g cap:Nat) (cs:List Value),v= .slice (some ⟨g,0,none⟩) n cap /\ Row w g e cs /\ ∀ (i:Nat) (x:Value),xs[i]? =some x -> cs[i]? =some x:=by
 rcases h.2 with ⟨_,h0⟩ | ⟨g,cap,F,O,_,G,_,_,_,E⟩
 ·omega
 ·refine⟨g,cap,F.toList,O,G,fun i x t=> ?_⟩;have M:=(List.getElem?_eq_some_iff.1 t).1;rw[<- E,List.length_take] at M;rw[<- E,List.getElem?_take_of_lt oM] at t;exact t
theorem Ca{w:World}{g n:Nat}{f:Nat -> Rat}(h:RB w g n f)(t:n <= 1000000000):eZ w (.slice (some ⟨g,0,none⟩) n n) n f:=⟨_,_,rfl,Nat.le_refl _,by unfold maxLen;omega, .inr ⟨g,rfl,h⟩⟩
theorem SK.turned{w w':World}{g n:Nat}{s:Nat -> ByteArray}{v v':Value}(h:SK w g n s)(G:Turned w w' v v')(E:v.ownBlock≠some g):SK w' g n s:=by
 obtain⟨cs,F,h1,t⟩:=h;exact⟨cs,F.turned G E,h1,t⟩
set_option maxRecDepth 100000 in
set_option maxHeartbeats 6400000 in
theorem K5(va:Value)(n:Nat)(s:Nat -> ByteArray)(b:ByteArray)(Kq:Nat)(w:World)(ha:TS w va n s)(hn:n <= 1000000000)(O:Kq <= 65536)(hs:∀j,j<n -> (s j).size <= Kq)(G:b.size <= Kq)(hg:iG w)(ht:Tab w):
  Calls prog 46 #[va, .string b] w fun e w'=>IC w' n s b e /\ Below w.heap.size w w':=by
 obtain⟨A,c0,rfl,_,_⟩:=ha.shape;have HA:=lH ha;have HS:=lH (And.intro hs (And.intro G O));have am:=lH hg;have R:=lH ht;have b4:=R;have a8:=lH hn;have h:Hid (Below w.heap.size w w):=lH (Below.refl _ _);clear ha hs G O hg ht;go_enter func46,ntmps46;by_cases af:96<n
 ·have hi:(96:Int)<((n:Nat):Int):=oM
  have HE:Hid (kX n s b=6):=lH (by unfold kX;rw[if_pos af]);clear af hn;go_wp2_with fail
  go_returns;exact⟨.inl ⟨by rw[HE.o];decide,by rw[HE.o];rfl⟩,h.o⟩
 ·have hi:((n:Nat):Int) <= 96:=oM
  have hd:decide ((96:Int)<((n:Nat):Int))=false:=decide_eq_false oM;have ba:decide (96<n)=false:=decide_eq_false af;have HN:=lH af;clear af hn;go_wp2_with fail
  clear hi hd ba;refine(tL _ n s _ HA.o a8.o (fun j hj=>by have:=HS.o.1 j hj;have:=HS.o.2.2;omega) am.o).mono ?_;rintro e w1 ⟨hr,G⟩;replace h:=bT h G;replace R:=lH (R.o.below G);replace am:=lH (am.o.below G);clear G
  rcases tN hr with ⟨h0,rfl⟩ | ⟨h0,gC,c,aP,rfl,aS,a3⟩
  ·obtain⟨cc,a3⟩:=eX (fo n (fun j=>sE (s j)));rw[<- a3] at h0 ⊢;have av:((cc:Nat):Int)≠0:=oM
   have b8:(((cc:Nat):Int) !=0)=true:=by simpa using av
   have b9:(cc !=0)=true:=by simpa using h0
   have ap:=lH h0;have HE:Hid (kX n s b=cc):=lH (by unfold kX iw;rw[if_neg HN.o, <- a3,if_pos h0]);clear h0 a3 hr;go_wp2_with fail
   go_returns;exact⟨.inl ⟨by rw[HE.o];exact ap.o,by rw[HE.o];rfl⟩,h.o⟩
  ·have b3:=lH aP;clear aP;have aD:=lH h0;have aC:=lH a3;have E:=lH aS;clear h0 a3 aS hr;go_wp2_with fail
   refine(tK b _ (by have:=HS.o.2.1;have:=HS.o.2.2;omega) am.o).mono ?_;rintro e w2 ⟨hr,G⟩;replace h:=bT h G;replace R:=lH (R.o.below G);replace E:=lH (E.o.below G);clear G
   rcases hr with ⟨h0,rfl⟩ | ⟨q,v,h0,hl,rfl,hv⟩
   ·obtain⟨cc,a3⟩:=eX (fK b.data.toList);rw[<- a3] at h0 ⊢;have av:((cc:Nat):Int)≠0:=oM
    have b8:(((cc:Nat):Int) !=0)=true:=by simpa using av
    have b9:(cc !=0)=true:=by simpa using h0
    have ap:=lH h0;have HE:Hid (kX n s b=cc):=lH (by unfold kX iw;rw[if_neg HN.o,if_neg (by rw[aD.o];simp)];exact a3.symm);clear h0 a3;have aZ:=lH (h.o.trans ((eD w2 (.cells #[.bool false, .slice none 0 0, .bool false, .slice none 0 0] 105)).mono h.o.size));go_wp2_with fail
    go_returns;exact⟨.inl ⟨by rw[HE.o];exact ap.o,by rw[HE.o];rfl⟩,aZ.o⟩
   ·obtain⟨sv,Av,lv,cv,tv,Bv,mv,dv,rfl⟩:=hv.shape;have HE:Hid (kX n s b=0):=lH (by unfold kX iw;rw[if_neg HN.o,if_neg (by rw[aD.o];simp)];exact h0);have HQ:=lH hl;have U:=lH hv;have aF:Hid (∀j,j<n -> RL Kq (c j)):=lH (fun j hj=>iU (aC.o j hj) (HS.o.1 j hj));have aG:Hid (RL Kq q):=lH (iU hl HS.o.2.1);clear h0 hl hv;obtain⟨w3,ao⟩:=eX (w2.alloc (.cells #[.bool sv, .slice Av lv cv, .bool tv, .slice Bv mv dv] 105));obtain⟨gV,ah⟩:=eX (w2.heap.size);have ag:Below w2.heap.size w2 w3:=by rw[ao];exact eD _ _
    have F:Hid (Row w3 gV 105 [.bool sv, .slice Av lv cv, .bool tv, .slice Bv mv dv]):=lH (by rw[ao,ah];exact eP _ _);have b1:Hid (gC≠gV):=lH (by rw[ah];exact Nat.ne_of_lt E.o.lt);have bn:Hid (w.heap.size <= gV):=lH (by rw[ah];exact h.o.size);replace h:=bT h ag;replace R:=lH (R.o.below ag);replace E:=lH (E.o.below ag);replace U:=lH (U.o.below ag);go_wp2_with fail
    rw[<- ao, <- ah];clear ao ah ag;go_wp2_with fail
    have M:=rG w3;have au:=F.o.lt;obtain⟨ab,ac,ad,ae⟩:=aT4 F.o;have Y:=lH (kC ab (kC ac (kC ad (kN ae))));clear au ab ac ad ae;refine rL Y.o (fun i=>false) ?_;have t:=Y.o _ M.o;refine tKs 0 30 t ?_;refine tKs 2 32 t ?_;refine rD 1 (fun K O=> ?_);go_simp;refine(om _ n Kq c _ (by exact Ca E.o a8.o) a8.o aF.o (by have:=HS.o.2.2;omega) (by exact R.o)).mono ?_;rintro e w4 ⟨gP,rfl,bc,aR,a6⟩;have a6:Below w3.heap.size w3 w4:=bD a6;replace U:=lH (U.o.below a6);replace F:=rW F a6;replace E:=lH (E.o.below a6);replace h:=bT h a6;replace R:=lH (R.o.below a6);replace M:=bT M a6;have T:=lH aR;clear bc aR;clear t a6;have t:=Y.o _ M.o;refine kH O t ?_;clear O K;refine rD 3 (fun K O=> ?_);go_simp;refine(tQ _ q Kq _ (by exact U.o) aG.o (by have:=HS.o.2.2;omega) (by exact R.o)).mono ?_;rintro e w5 ⟨rfl,a1⟩;have a1:Below w4.heap.size w4 w5:=bD a1;replace U:=lH (U.o.below a1);replace F:=rW F a1;replace T:=lH (T.o.below a1);replace E:=lH (E.o.below a1);replace h:=bT h a1;replace R:=lH (R.o.below a1);replace M:=bT M a1;clear t a1;have t:=Y.o _ M.o;refine kH O t ?_;clear O K;refine tKs 4 34 t ?_;refine rD 5 (fun K O=> ?_);go_simp;obtain⟨w6,a7⟩:=eX (w5.alloc (.cells #[.slice (some ⟨gP,0,none⟩) n n, .string (eF q)] 53));obtain⟨g9,a4⟩:=eX (w5.heap.size);have G:Below w5.heap.size w5 w6:=by rw[a7];exact eD _ _
    have X:Hid (Row w6 g9 53 [.slice (some ⟨gP,0,none⟩) n n, .string (eF q)]):=lH (by rw[a7,a4];exact eP _ _);rw[<- a7, <- a4];clear a7;have b2:Hid (w.heap.size <= g9):=lH (by rw[a4];exact h.o.size);have b0:Hid (gC≠g9):=lH (by rw[a4];exact Nat.ne_of_lt E.o.lt);have b5:Hid (gV≠g9):=lH (by rw[a4];exact Nat.ne_of_lt F.o.lt);clear a4;replace U:=lH (U.o.below G);replace F:=rW F G;replace E:=lH (E.o.below G);replace T:=lH (T.o.below G);replace R:=lH (R.o.below G);replace h:=bT h G;replace M:=bT M G;clear G t;have t:=Y.o _ M.o;refine kH O t ?_;clear O K;refine tKs 6 9 t ?_;refine dN ?_ _;clear t Y M;go_wp2_with fail
    go_loopw [38] (fun iv wr=>∃ (k:Nat) (f:Nat -> Rat),k <= n /\ iv= .int .i64 k /\ Hid (∀j,j<k -> f j= -(c j)) /\ Hid (∀j,k <= j -> j<n -> f j=c j) /\ RB wr gC n f /\ Row wr gV 105 [.bool sv, .slice Av lv cv, .bool tv, .slice Bv mv dv] /\ eO wr (.agg #[.bool sv, .slice Av lv cv, .bool tv, .slice Bv mv dv]) q /\ Row wr g9 53 [.slice (some ⟨gP,0,none⟩) n n, .string (eF q)] /\ SK wr gP n (fun j=>eF (c j)) /\ Tab wr /\ Below w.heap.size w wr)
     (fun iv _=>n-(intOf iv).toNat)
    case atStart=>exact⟨0,c,Nat.zero_le _,rfl,lH (fun j hj=>absurd hj oM),lH (fun j _ _=>rfl),E.o,F.o,U.o,X.o,T.o,R.o,h.o⟩
    case round=>
     clear E F U X T R h;obtain⟨k,f,hk,rfl,h1,h2,aK,aX,aV,aO,aT,aU,aJ⟩:=hrel;have aq:=lH h1.o;have ar:=lH h2.o;have E:=lH aK;have F:=lH aX;have U:=lH aV;have X:=lH aO;have T:=lH aT;have R:=lH aU;have h:=lH aJ;clear h1 h2 aK aX aV aO aT aU aJ;by_cases br:((k:Nat):Int)<((n:Nat):Int)
     ·have an:k<n:=oM
      have bp:((k:Nat):Int) <= 1000000000:=by have:=a8.o;omega
      obtain⟨sy,Ay,ly,cy,ty,By,my,dy,b6,aW⟩:=E.o.fO an;obtain⟨aw,ax,ay,az⟩:=b6;have aA:=E.o.lt;have VY:=lH aW;clear aW;go_wp2_with fail
      clear aw ax ay az aA;refine(nU _ (f k) _ VY.o).mono ?_;rintro e w8 ⟨u,rfl,hu,a9⟩;obtain⟨su,Au,lu,cu,tu,Bu,mu,du,rfl⟩:=hu.shape;have HU:=lH hu;clear hu VY;replace E:=lH (E.o.below a9);replace U:=lH (U.o.below a9);replace T:=lH (T.o.below a9);replace F:=rW F a9;replace X:=rW X a9;replace h:=bT h a9;clear a9;obtain⟨sz,Az,lz,cz,tz,Bz,mz,dz,b7,_⟩:=E.o.fO an;obtain⟨aw,ax,ay,az⟩:=b7;have aA:=E.o.lt;have bi:=E.o.free (k*4);have bj:=E.o.free (k*4+1);have bk:=E.o.free (k*4+2);have bl:=E.o.free (k*4+3);have hg:=il w8 gC (k*4) (k*4+1) (k*4+2) (k*4+3) (.bool su) (.slice Au lu cu) (.bool tu) (.slice Bu mu du);obtain⟨bo,aa⟩:=E.o.row;have BN:=lH (E.o.set an HU.o);have XN:=lH (F.o.other hg (fun e=>b1.o e.symm));have VN:=lH (U.o.other hg aa ic);have GN:=lH (X.o.other hg (fun e=>b0.o e.symm));have Z:=lH (T.o.other hg (by obtain⟨aH,ai,_⟩:=T.o;exact fV ai aa dC));have aE:=lH (h.o.grown hg h.o.size (by intro x hx;simp only[Option.some.injEq] at hx;rw[<- hx];exact b3.o));have TN:=lH (b4.o.below aE.o);clear hg aa;go_wp2_with fail
      clear aw ax ay az aA bi bj bk bl;go_roundw
      case rel=>
       refine⟨k+1,upd f k (-(f k)),by omega,by go_num,lH (fun j hj=> ?_),lH (fun j h1 h2=> ?_),BN.o,XN.o,VN.o,GN.o,Z.o,TN.o,aE.o⟩
       ·by_cases e:j=k
        ·subst e;rw[Lp.upd_same,ar.o j (Nat.le_refl _) an]
        ·rw[Lp.eT _ _ e];exact aq.o j oM
       ·rw[Lp.eT _ _ oM];exact ar.o j oM h2
      case measure=>exact mZ
     ·have be:k=n:=oM
      have aL:=E.o.congr (fun j hj=>aq.o j oM);replace E:=lH aL;clear aL be aq ar;obtain⟨iR,bd,bf,bg,bh⟩:=info_parts C8;go_wp2_with fail
      have M:=rG wr;have au:=F.o.lt;obtain⟨ab,ac,ad,ae⟩:=aT4 F.o;have Y:=lH (kC ab (kC ac (kC ad (kN ae))));clear au ab ac ad ae;refine rL Y.o (fun i=>false) ?_;have t:=Y.o _ M.o;refine tKs 0 50 t ?_;refine tKs 1 51 t ?_;refine tKs 3 53 t ?_;refine rD 2 (fun K O=> ?_);go_simp;refine(om _ n Kq (fun j=> -(c j)) _ (by exact Ca E.o a8.o) a8.o (fun j hj=>(aF.o j hj).neg) (by have:=HS.o.2.2;omega) (by exact R.o)).mono ?_;rintro e w9 ⟨gN,rfl,bb,aQ,a2⟩;have a2:Below wr.heap.size wr w9:=bD a2;replace U:=lH (U.o.below a2);replace F:=rW F a2;replace X:=rW X a2;replace T:=lH (T.o.below a2);replace h:=bT h a2;replace R:=lH (R.o.below a2);replace M:=bT M a2;have Z:=lH aQ;clear bb aQ;clear t a2;have t:=Y.o _ M.o;refine kH O t ?_;clear O K;refine rD 4 (fun K O=> ?_);go_simp;refine(nU _ q _ (by exact U.o)).mono ?_;rintro e aB ⟨vm,rfl,hm,a0⟩;have a0:Below w9.heap.size w9 aB:=bD a0;obtain⟨sm,Am,lm,cm,tm,Bm,mm,dm,rfl⟩:=hm.shape;have Vm:=lH hm;clear hm;replace F:=rW F a0;replace X:=rW X a0;replace T:=lH (T.o.below a0);replace Z:=lH (Z.o.below a0);replace h:=bT h a0;replace R:=lH (R.o.below a0);replace M:=bT M a0;clear t a0;have t:=Y.o _ M.o;refine kH O t ?_;clear O K;refine rD 5 (fun K O=> ?_);go_simp;refine(tQ _ (-q) Kq _ (by exact Vm.o) aG.o.neg (by have:=HS.o.2.2;omega) (by exact R.o)).mono ?_;rintro e ak ⟨rfl,a5⟩;have a5:Below aB.heap.size aB ak:=bD a5;replace F:=rW F a5;replace X:=rW X a5;replace T:=lH (T.o.below a5);replace Z:=lH (Z.o.below a5);replace h:=bT h a5;replace M:=bT M a5;clear t a5;have t:=Y.o _ M.o;refine kH O t ?_;clear O K;refine tKs 6 56 t ?_;refine rD 7 (fun K O=> ?_);go_simp;obtain⟨aY,a7⟩:=eX (ak.alloc (.cells #[.slice (some ⟨gN,0,none⟩) n n, .string (eF (-q))] 53));obtain⟨gX,a4⟩:=eX (ak.heap.size);have G:Below ak.heap.size ak aY:=by rw[a7];exact eD _ _
      have GX:Hid (Row aY gX 53 [.slice (some ⟨gN,0,none⟩) n n, .string (eF (-q))]):=lH (by rw[a7,a4];exact eP _ _);rw[<- a7, <- a4];clear a7;clear a4;replace F:=rW F G;replace X:=rW X G;replace T:=lH (T.o.below G);replace Z:=lH (Z.o.below G);replace h:=bT h G;replace M:=bT M G;clear G t;have t:=Y.o _ M.o;refine kH O t ?_;clear O K;refine rD 8 (fun K O=> ?_);rw[if_pos (by rfl)];refine lW _ (.tmp 50) (.tmp 57) 23 rfl 53 iR _ 2 40 underlying23 bd bf bg bh rfl dC (.slice (some ⟨g9,0,none⟩) 1 1) 1 _ rfl (IE X.o rfl (by unfold maxLen;omega)) ⟨gX,0,none⟩ 1 1 [.slice (some ⟨gN,0,none⟩) n n, .string (eF (-q))] rfl rfl ?_ ?_ (by unfold maxLen;omega) oM ?_
      ·intro j y hj;rw[add0];exact GX.o.at_ j hj
      ·intro y hy;simp only[List.mem_cons,List.not_mem_nil,or_false] at hy;rcases hy with rfl | rfl <;> rfl
      intro va bm ho aj;show K (Act.put _ (some 58) va) bm;have T:=lH (T.o.turned aj (by obtain⟨aH,ai,_⟩:=T.o;have:=fV ai X.o dC;simp[Value.ownBlock];exact fun e=>this e.symm));have Z:=lH (Z.o.turned aj (by obtain⟨aH,ai,_⟩:=Z.o;have:=fV ai X.o dC;simp[Value.ownBlock];exact fun e=>this e.symm));have F:=lH (F.o.turned aj (by simp[Value.ownBlock];exact fun e=>b5.o e.symm));have aM:=aj.below (B:=w.heap.size) h.o.size (by intro x hx;simp only[Value.ownBlock,Option.some.injEq] at hx;rw[<- hx];exact b2.o);obtain⟨g,cap,cs,rfl,aa,aN⟩:=C9 ho dC;have HR:=lH aa;have al:=lH aN;replace h:=lH (h.o.trans aM);clear aM ho aj aa aN t;have t:_:=And.intro (F.o.at_ 0 rfl) (And.intro (F.o.at_ 1 rfl) (And.intro (F.o.at_ 2 rfl) (F.o.at_ 3 rfl)));refine kH O t ?_;clear O K;refine tKs 9 4 t ?_;refine tKs 10 5 t ?_;refine dN ?_ _;clear t Y M;go_wp2_with fail
      go_returns;exact⟨.inr ⟨HE.o,c,q,g,cap,gP,gN,aC.o,HQ.o,rfl,HR.o.at_ 0 (al.o 0 _ rfl),HR.o.at_ 1 (al.o 1 _ rfl),HR.o.at_ 2 (al.o 2 _ rfl),HR.o.at_ 3 (al.o 3 _ rfl),T.o.ts (Nat.le_refl _) (by have:=a8.o;unfold maxLen;omega),Z.o.ts (Nat.le_refl _) (by have:=a8.o;unfold maxLen;omega)⟩,h.o⟩
end
section
open Go.RowKit
open Lp (RL upd eu)
def exO:List ByteArray:=[⟨#[49]⟩,⟨#[49]⟩]
def exR:oo:=[([⟨#[49]⟩,⟨#[48]⟩],⟨#[50]⟩),([⟨#[48]⟩,⟨#[49]⟩],⟨#[51]⟩),([⟨#[49]⟩,⟨#[49]⟩],⟨#[52]⟩)]
set_option maxRecDepth 100000 in
set_option maxHeartbeats 1600000 in
theorem oq(b:ByteArray)(A:Option Addr)(n c:Nat)(w:World):
  Calls prog 42 #[.string b, .slice A n c] w fun e w'=>e= .returned (.agg #[.slice A n c, .string b]) /\ Below w.heap.size w w':=by
 obtain⟨W,G,t,Y⟩:=eN1 w [.slice none 0 0, .string ⟨#[]⟩] 53;go_enter func42,ntmps42;obtain⟨r0,E,O,F⟩:=aF2 t.o;have R:=t.o.lt;rw[G] at r0 O E F R;go_wp2_with fail
 clear G r0 O E F R;have h:Row (w.alloc (.cells #[.slice A n c, .string b] 53)) w.heap.size 53 [.slice A n c, .string b]:=eP _ _;have M:=eD w (.cells #[.slice A n c, .string b] 53);obtain⟨Z,T⟩:=eX (w.alloc (.cells #[.slice A n c, .string b] 53));rw[<- T] at h M ⊢;have U:=h.at_ 0 rfl;have X:=h.at_ 1 rfl;refine bodyPost_ret (v:= .agg #[.slice A n c, .string b]) (by simp[results,results42,go_sem,U,X]) rfl ?_;exact⟨rfl,M⟩
set_option maxRecDepth 100000 in
set_option maxHeartbeats 6400000 in
theorem IG(w:World):
  Calls prog 57 #[] w fun e w'=>∃go gr,e= .returned (.agg #[.slice (some ⟨go,0,none⟩) 2 2, .slice (some ⟨gr,0,none⟩) 3 3]) /\ TS w' (.slice (some ⟨go,0,none⟩) 2 2) 2 (lst exO) /\ fZ w' (.slice (some ⟨gr,0,none⟩) 3 3) 3 (rwK exR) (rwT exR) (rwB exR) /\ w.heap.size <= gr /\ Below w.heap.size w w':=by
 obtain⟨W,hW,h,O⟩:=eN1 w [.slice none 0 0, .slice none 0 0] 25;go_enter func57,ntmps57;go_wp2_with fail
 obtain⟨w2,a3⟩:=eX (((w.alloc (.cells #[.slice none 0 0, .slice none 0 0] 25)).alloc (.cells #[.string ⟨#[49]⟩, .string ⟨#[49]⟩] 30)).alloc (.cells #[.string ⟨#[49]⟩, .string ⟨#[48]⟩] 30));obtain⟨q0,q1,q2,qs,qb⟩:=kQ w (.cells #[.slice none 0 0, .slice none 0 0] 25) (.cells #[.string ⟨#[49]⟩, .string ⟨#[49]⟩] 30) (.cells #[.string ⟨#[49]⟩, .string ⟨#[48]⟩] 30);rw[<- a3] at q0 q1 q2 qs qb ⊢;clear a3 hW h O;obtain⟨b2,a1⟩:=eX (w.heap.size+1+1);obtain⟨U,a0⟩:=eX (w.heap.size+1);rw[show w.heap.size+2=b2 from a1.symm] at q2;rw[<- a0] at q1;rw[<- a1, <- a0];have h1:w.heap.size<U:=oM
 have h2:w.heap.size<b2:=oM
 clear a0 a1 qs;have h:Row w2 w.heap.size 25 [.slice none 0 0, .slice none 0 0]:=q0;have t:Row w2 U 30 [.string ⟨#[49]⟩, .string ⟨#[49]⟩]:=q1;have E:Row w2 b2 30 [.string ⟨#[49]⟩, .string ⟨#[48]⟩]:=q2;have O:=lH qb;clear q0 q1 q2 qb;replace h:=lH h;replace t:=lH t;replace E:=lH E;have h1:=lH h1;have h2:=lH h2;refine(oq _ _ 2 2 _).mono ?_;rintro e w3 ⟨rfl,F⟩;replace h:=h.o;replace t:=t.o;replace E:=E.o;replace h:=h.below F h.lt;replace t:=t.below F t.lt;replace E:=E.below F E.lt;replace O:=bT O F;clear F;replace h:=lH h;replace t:=lH t;replace E:=lH E;go_wp2_with fail
 obtain⟨w4,R⟩:=eX (w3.alloc (.cells #[.string ⟨#[48]⟩, .string ⟨#[49]⟩] 30));obtain⟨b3,T⟩:=eX (w3.heap.size);have F:Below w3.heap.size w3 w4:=by rw[R];exact eD _ _
 have G:Row w4 b3 30 [.string ⟨#[48]⟩, .string ⟨#[49]⟩]:=by rw[R,T];exact eP _ _
 have h3:Hid (w.heap.size<b3):=lH (by rw[T];exact h.o.lt);rw[<- R, <- T];clear R T;replace h:=h.o;replace t:=t.o;replace E:=E.o;replace h:=h.below F h.lt;replace t:=t.below F t.lt;replace E:=E.below F E.lt;replace O:=bT O F;clear F;replace h:=lH h;replace t:=lH t;replace E:=lH E;replace G:=lH G;refine(oq _ _ 2 2 _).mono ?_;rintro e w5 ⟨rfl,F⟩;replace h:=h.o;replace t:=t.o;replace E:=E.o;replace G:=G.o;replace h:=h.below F h.lt;replace t:=t.below F t.lt;replace E:=E.below F E.lt;replace G:=G.below F G.lt;replace O:=bT O F;clear F;replace h:=lH h;replace t:=lH t;replace E:=lH E;replace G:=lH G;go_wp2_with fail
 obtain⟨w6,R⟩:=eX (w5.alloc (.cells #[.string ⟨#[49]⟩, .string ⟨#[49]⟩] 30));obtain⟨b4,T⟩:=eX (w5.heap.size);have F:Below w5.heap.size w5 w6:=by rw[R];exact eD _ _
 have M:Row w6 b4 30 [.string ⟨#[49]⟩, .string ⟨#[49]⟩]:=by rw[R,T];exact eP _ _
 have h4:Hid (w.heap.size<b4):=lH (by rw[T];exact h.o.lt);rw[<- R, <- T];clear R T;replace h:=h.o;replace t:=t.o;replace E:=E.o;replace G:=G.o;replace h:=h.below F h.lt;replace t:=t.below F t.lt;replace E:=E.below F E.lt;replace G:=G.below F G.lt;replace O:=bT O F;clear F;replace h:=lH h;replace t:=lH t;replace E:=lH E;replace G:=lH G;replace M:=lH M;refine(oq _ _ 2 2 _).mono ?_;rintro e w7 ⟨rfl,F⟩;replace h:=h.o;replace t:=t.o;replace E:=E.o;replace G:=G.o;replace M:=M.o;replace h:=h.below F h.lt;replace t:=t.below F t.lt;replace E:=E.below F E.lt;replace G:=G.below F G.lt;replace M:=M.below F M.lt;replace O:=bT O F;clear F;replace h:=lH h;replace t:=lH t;replace E:=lH E;replace G:=lH G;replace M:=lH M;obtain⟨Z,R⟩:=eX (w7.alloc (.cells #[.slice (some ⟨b2,0,none⟩) 2 2, .string ⟨#[50]⟩, .slice (some ⟨b3,0,none⟩) 2 2, .string ⟨#[51]⟩, .slice (some ⟨b4,0,none⟩) 2 2, .string ⟨#[52]⟩] 53));obtain⟨X,T⟩:=eX (w7.heap.size);have F:Below w7.heap.size w7 Z:=by rw[R];exact eD _ _
 have Q5:Row Z X 53 [.slice (some ⟨b2,0,none⟩) 2 2, .string ⟨#[50]⟩, .slice (some ⟨b3,0,none⟩) 2 2, .string ⟨#[51]⟩, .slice (some ⟨b4,0,none⟩) 2 2, .string ⟨#[52]⟩]:=by rw[R,T];exact eP _ _
 have h5:Hid (w.heap.size<X):=lH (by rw[T];exact h.o.lt);replace h:=h.o;replace t:=t.o;replace E:=E.o;replace G:=G.o;replace M:=M.o;replace h:=h.below F h.lt;replace t:=t.below F t.lt;replace E:=E.below F E.lt;replace G:=G.below F G.lt;replace M:=M.below F M.lt;replace O:=bT O F;clear F;replace h:=lH h;replace t:=lH t;replace E:=lH E;replace G:=lH G;replace M:=lH M;replace Q5:=lH Q5;obtain⟨r0,f0,r1,f1⟩:=aF2 h.o;have rl:=h.o.lt;rw[R] at r0 r1 f0 f1 rl;go_wp2_with fail
 rw[<- R, <- T];clear R T r0 r1 f0 f1 rl;have Y:World.grownBy Z ((Z.setCell ⟨w.heap.size,0,none⟩ (.slice (some ⟨U,0,none⟩) 2 2)).setCell ⟨w.heap.size,1,none⟩ (.slice (some ⟨X,0,none⟩) 3 3)) (some w.heap.size):=je _ _ _ _ _ _;have RE:Row ((Z.setCell ⟨w.heap.size,0,none⟩ (.slice (some ⟨U,0,none⟩) 2 2)).setCell ⟨w.heap.size,1,none⟩ (.slice (some ⟨X,0,none⟩) 3 3)) w.heap.size 25 [.slice (some ⟨U,0,none⟩) 2 2, .slice (some ⟨X,0,none⟩) 3 3]:=(h.o.set 0 (.slice (some ⟨U,0,none⟩) 2 2)).set 1 (.slice (some ⟨X,0,none⟩) 3 3);have a2:=O.o.grown Y O.o.size (by first | (simp;done) | (simp;omega));have E1:=t.o.other Y (by have:=h1.o;omega);have E2:=E.o.other Y (by have:=h2.o;omega);have E3:=G.o.other Y (by have:=h3.o;omega);have E4:=M.o.other Y (by have:=h4.o;omega);have E5:=Q5.o.other Y (by have:=h5.o;omega);obtain⟨wE,a4⟩:=eX (((Z.setCell ⟨w.heap.size,0,none⟩ (.slice (some ⟨U,0,none⟩) 2 2)).setCell ⟨w.heap.size,1,none⟩ (.slice (some ⟨X,0,none⟩) 3 3)));rw[<- a4] at RE a2 E1 E2 E3 E4 E5 ⊢;have k0:=RE.at_ 0 rfl;have k1:=RE.at_ 1 rfl;refine bodyPost_ret (v:= .agg #[.slice (some ⟨U,0,none⟩) 2 2, .slice (some ⟨X,0,none⟩) 3 3]) (by simp[results,results57,go_sem,k0,k1]) rfl ?_;refine⟨_,_,rfl,mD exO E1 (by unfold maxLen;decide),vW E5 dC (by unfold maxLen;decide) ?_,Nat.le_of_lt h5.o,a2⟩;intro i hi
 rcases i with _ | _ | _ | i
 ·exact⟨_,rfl,rfl,mD [⟨#[49]⟩,⟨#[48]⟩] E2 (by unfold maxLen;decide)⟩
 ·exact⟨_,rfl,rfl,mD [⟨#[48]⟩,⟨#[49]⟩] E3 (by unfold maxLen;decide)⟩
 ·exact⟨_,rfl,rfl,mD [⟨#[49]⟩,⟨#[49]⟩] E4 (by unfold maxLen;decide)⟩
 ·omega
end
section
open Go.RowKit
open Lp (RL upd eu)
def TRA(w:World)(v:Value)(m:Nat)(k:Nat -> Nat)(s:Nat -> Nat -> ByteArray)(b:Nat -> ByteArray):Prop:=
 ∃A c,v= .slice A m c /\ m <= c /\ c <= maxLen /\ (m=0 \/ ∃g o,A=some ⟨g,o,none⟩ /\ ∀i,i<m -> ∃u,w.cell? ⟨g,o+i*2,none⟩=some u /\ w.cell? ⟨g,o+i*2+1,none⟩=some (.string (b i)) /\ TSA w u (k i) (s i))
def iK(w:World)(v:Value)(q:Nat)(k:Nat -> Nat)(s:Nat -> Nat -> ByteArray)(b:Nat -> ByteArray):Prop:=
 ∃xs,w.ownsRow 0 53 2 v q xs /\ ∀i,i<q -> ∃u,xs[i*2]? =some u /\ xs[i*2+1]? =some (.string (b i)) /\ fH w u (k i) (s i)
section
variable {w w':World} {v v' u u':Value} {m q:Nat} {k:Nat -> Nat} {s:Nat -> Nat -> ByteArray} {b:Nat -> ByteArray}
theorem TRA.kG(h:TRA w v m k s b):fZ w v m k s b:=by
 obtain⟨A,c,U,h1,G,M⟩:=h;refine⟨A,c,U,h1,G,M.imp id fun⟨g,o,O,R⟩=>⟨g,o,O,fun i T=> ?_⟩⟩;obtain⟨u,t,E,F⟩:=R i T;exact⟨u,t,E,F.1⟩
theorem TRA.at_{A:Option Addr}{c:Nat}(h:TRA w (.slice A m c) m k s b)(F:0<m):
  ∃g o,A=some ⟨g,o,none⟩ /\ ∀i,i<m -> ∃u,w.cell? ⟨g,o+i*2,none⟩=some u /\ w.cell? ⟨g,o+i*2+1,none⟩=some (.string (b i)) /\ TSA w u (k i) (s i):=by
 obtain⟨A',c',E,_,_,t⟩:=h;simp only[Value.slice.injEq,true_and] at E;obtain⟨rfl,rfl⟩:=E
 rcases t with t | t
 ·omega
 ·exact t
theorem TRA.below(h:TRA w v m k s b)(t:Below w.heap.size w w'):TRA w' v m k s b:=by
 obtain⟨A,c,X,h1,M,O⟩:=h;refine⟨A,c,X,h1,M,O.imp id fun⟨g,o,R,T⟩=>⟨g,o,R,fun i U=> ?_⟩⟩;obtain⟨u,E,F,G⟩:=T i U;exact⟨u,cell_below t E,cell_below t F,G.below t⟩
theorem iK.nil(w:World)(k:Nat -> Nat)(s:Nat -> Nat -> ByteArray)(b:Nat -> ByteArray):iK w (.slice none 0 0) 0 k s b:=⟨[],World.ownsRow_nil _ _ _ _,fun j h=>absurd h oM⟩
theorem iK.shape(h:iK w v q k s b):∃A c,v= .slice A q c /\ q <= c /\ c <= maxLen:=by obtain⟨xs,t,_⟩:=h;exact sP t
theorem iK.lt(h:iK w v q k s b){g:Nat}(t:v.ownBlock=some g):g<w.heap.size:=by obtain⟨xs,E,_⟩:=h;exact(E.lt g t).2
theorem iK.row(h:iK w v q k s b){g:Nat}(t:v.ownBlock=some g):∃cs,Row w g 53 cs:=by obtain⟨xs,E,_⟩:=h;exact qN E t
theorem iK.below(h:iK w v q k s b)(t:Below w.heap.size w w'):iK w' v q k s b:=by
 obtain⟨xs,M,O⟩:=h;refine⟨xs,lI M (below_grown t) (by simp),fun i G=> ?_⟩;obtain⟨u,h1,E,F⟩:=O i G;exact⟨u,h1,E,eY.below F t⟩
theorem iK.other{g:Nat}{e:TypeId}{cs:List Value}(h:iK w v q k s b)(G:w.grownBy w' (some g))(M:Row w g e cs)(U:e≠53)(Y:e≠30):iK w' v q k s b:=by
 have R:v.ownBlock≠some g:=fun t=>by obtain⟨_,E⟩:=h.row t;exact U (M.ty E)
 obtain⟨xs,Z,hp⟩:=h;refine⟨xs,lI Z G (fun g' T t=>R (by rw[T];exact t.symm)),fun i X=> ?_⟩;obtain⟨u,h1,O,F⟩:=hp i X;exact⟨u,h1,O,eY.other F G (fun t=>by obtain⟨_,E⟩:=eY.row F t;exact Y (M.ty E))⟩
theorem Cb{n g:Nat}{t:Nat -> ByteArray}{e:TypeId}{cs:List Value}(h:fH w v n t)(F:w.grownBy w' (some g))(M:Row w g e cs)(G:e≠30):fH w' v n t:=
 eY.other h F (fun E=>by obtain⟨_,O⟩:=eY.row h E;exact G (M.ty O))
theorem II{n:Nat}{t:Nat -> ByteArray}(h:fH w v n t)(F:iK w u q k s b)(G:Turned w w' u u'):fH w' v n t:=
 eY.turned h G (zl (fun _ E=>eY.row h E) (fun _ E=>F.row E) dC)
theorem iK.kG(h:iK w v q k s b):fZ w v q k s b:=by
 obtain⟨A,c,rfl,h1,R⟩:=h.shape;refine⟨A,c,rfl,h1,R,?_⟩
 rcases Nat.eq_zero_or_pos q with h0 | h0
 ·exact .inl h0
 ·obtain⟨xs,U,X⟩:=h;obtain⟨g,cap,cs,F,E,t⟩:=C9 U h0;simp only[Value.slice.injEq,true_and] at F;refine .inr ⟨g,0,F.1,fun i T=> ?_⟩;obtain⟨u,G,M,O⟩:=X i T;refine⟨u,?_,?_,O.ts⟩
  ·rw[Nat.zero_add];exact E.at_ _ (t _ _ G)
  ·rw[Nat.zero_add];exact E.at_ _ (t _ _ M)
end
theorem IJ(w:World){o:Oper}{a:Act}{K:Act -> World -> Prop}{Q:Exit -> Act -> World -> Prop}(s x:Operand)
  (ho:o.op= .call {callee:= .builtin .append,args:= #[s,x],argTypes:= #[23,23]})
  (v:Value) (q:Nat) (k:Nat -> Nat) (t:Nat -> Nat -> ByteArray) (b:Nat -> ByteArray) (hs:a.eval s=v) (a1:iK w v q k t b)
  (A:Option Addr) (l c:Nat) (hu:fH w (.slice A l c) (k q) (t q)) (hx:a.eval x= .slice (some ⟨w.heap.size,0,none⟩) 1 1)
  (a6:q <= 1000000000000)
  (h:∀v' w',iK w' v' (q+1) k t b -> Turned w w' v v' -> K (a.put o.dst v') w'):Oper.wp prog o a (w.alloc (.cells #[.slice A l c, .string (b q)] 53)) K Q:=by
 obtain⟨i,hi,a4,a5,M⟩:=info_parts C8;obtain⟨xs,Y,a3⟩:=a1;have E:=eD w (.cells #[.slice A l c, .string (b q)] 53);have hr:Row (w.alloc (.cells #[.slice A l c, .string (b q)] 53)) w.heap.size 53 [.slice A l c, .string (b q)]:=eP _ _;have hl:xs.length=q*2:=Y.1;have Z:=lI Y (below_grown E) (by simp);refine lW _ s x _ ho _ i _ 2 40 underlying23 hi a4 a5 M rfl dC v q xs hs Z ⟨w.heap.size,0,none⟩ 1 1 [.slice A l c, .string (b q)] hx rfl ?_ ?_ (by unfold maxLen;omega) oM ?_
 ·intro j y U;rw[add0];exact hr.at_ j U
 ·intro y hy;simp only[List.mem_cons,List.not_mem_nil,or_false] at hy;rcases hy with rfl | rfl <;> rfl
 ·intro v' w' a2 F
  have T:∀ {z:Value} {n:Nat} {f:Nat -> ByteArray},fH w z n f -> fH w' z n f:=fun hz=>by
   have M:=eY.below hz E;exact eY.turned M F (zl (fun _ R=>eY.row M R) (fun _ R=>qN Z R) dC)
  refine h v' w' ⟨_,a2,fun j U=> ?_⟩ ⟨⟨F.grown.os.trans E.os,F.grown.tape.trans E.tape,F.grown.output.trans E.output,Nat.le_trans E.size F.grown.size,fun k X a0=>(F.grown.block k (Nat.lt_of_lt_of_le X E.size) a0).trans (E.block k X)⟩,?_⟩
  ·by_cases e:j=q
   ·subst e;refine⟨.slice A l c,?_,?_,T hu⟩
    ·rw[List.getElem?_append_right oM,show j*2-xs.length=0 by omega];rfl
    ·rw[List.getElem?_append_right oM,show j*2+1-xs.length=1 by omega];rfl
   ·obtain⟨u,h1,G,O⟩:=a3 j oM;exact⟨u,by rw[List.getElem?_append_left oM];exact h1,by rw[List.getElem?_append_left oM];exact G,T O⟩
  ·rcases F.own with G | ⟨g,G,O⟩
   ·exact .inl G
   ·exact .inr ⟨g,G,Nat.le_trans E.size O⟩
set_option maxRecDepth 100000 in
set_option maxHeartbeats 6400000 in
theorem vX(AO AR:Option Addr)(n m cO cR:Nat)(k:Nat -> Nat)(o:Nat -> ByteArray)(t:Nat -> Nat -> ByteArray)(b:Nat -> ByteArray)(w:World)(ho:TSA w (.slice AO n cO) n o)(hr:TRA w (.slice AR m cR) m k t b)(hn:n <= 1000000000)(hm:m <= 1000000000)(hk:∀i,i<m -> k i <= 1000000000):
  Calls prog 25 #[.agg #[.slice AO n cO, .slice AR m cR]] w fun e w'=>∃v u,e= .returned (.agg #[v,u]) /\ fH w' v n o /\ iK w' u m k t b /\ Below w.heap.size w w':=by
 have HO:=lH ho;have HR:=lH hr;have ab:=lH (And.intro hn (And.intro hm hk));clear ho hr;obtain⟨W,hW,PB,F,h⟩:=eN2 w [.slice AO n cO, .slice AR m cR] 25 [.slice none 0 0, .slice none 0 0] 25;go_enter func25,ntmps25;obtain⟨p0,p1⟩:=aT2 PB.o;have pl:=PB.o.lt;rw[hW] at p0 p1 pl;go_wp2_with fail
 rw[<- hW];clear hW p0 p1 pl;refine(zX _ n o _ (HO.o.below h.o) ab.o.1).mono ?_;rintro e w2 ⟨v,rfl,hv,_,_,a8⟩;obtain⟨G,M,rfl,_,_⟩:=eY.shape hv;have R:=lH hv;replace PB:=rW PB a8;replace F:=rW F a8;replace h:=bT h a8;clear a8 hv;obtain⟨w3,a6⟩:=eX (w2.alloc (.cells #[.slice G n M, .slice none 0 0] 25));obtain⟨g3,a9⟩:=eX (w2.heap.size);have a4:Below w2.heap.size w2 w3:=by rw[a6];exact eD _ _
 have E:Hid (Row w3 g3 25 [.slice G n M, .slice none 0 0]):=lH (by rw[a6,a9];exact eP _ _);have af:Hid (w.heap.size+1<g3):=lH (by rw[a9];exact F.o.lt);replace PB:=rW PB a4;replace F:=rW F a4;replace R:Hid (fH w3 (.slice G n M) n o):=lH (eY.below R.o a4);replace h:=bT h a4;obtain⟨p0,p1⟩:=aT2 PB.o;have pl:=PB.o.lt;rw[a6] at p0 p1 pl;go_wp2_with fail
 rw[<- a6, <- a9];clear a6 a9 a4 p0 p1 pl;have ag:=E;have ai:=R;have ah:=F;have ae:=h;clear E R F h PB
 go_loopw [13] (fun iv wr=>∃ (q:Nat) (B:Option Addr) (d:Nat),q <= m /\ iv= .int .i64 q /\ Row wr g3 25 [.slice G n M, .slice B q d] /\ fH wr (.slice G n M) n o /\ iK wr (.slice B q d) q k t b /\ Hid (∀g,(Value.slice B q d).ownBlock=some g -> w.heap.size <= g) /\ Row wr (w.heap.size+1) 25 [.slice none 0 0, .slice none 0 0] /\ Below w.heap.size w wr)
  (fun iv _=>m-(intOf iv).toNat)
 case atStart=>exact⟨0,none,0,Nat.zero_le _,rfl,ag.o,ai.o,iK.nil _ _ _ _,lH (fun g hg=>by simp[Value.ownBlock] at hg),ah.o,ae.o⟩
 case round=>
  clear ag ai ah ae;obtain⟨q,B,d,hq,rfl,ax,aB,av,au,aA,ao⟩:=hrel;have E:=lH ax;have R:=lH aB;have U:=lH av;have LO:=lH au.o;have F:=lH aA;have h:=lH ao;clear ax aB av au aA ao;by_cases aL:((q:Nat):Int)<((m:Nat):Int)
  ·have ay:q<m:=oM
   obtain⟨gR,oR,rfl,ar⟩:=HR.o.at_ oM;obtain⟨u,ap,aq,ac⟩:=ar q ay;obtain⟨X,x,rfl,_,_⟩:=ac.1.shape;have a7:=lH (ac.below h.o);have c1:=cell_below h.o ap;have c2:=cell_below h.o aq;have cl:=eG c1;clear ar ap aq ac;obtain⟨w4,aa⟩:=eX (wr.alloc (.cells #[.slice X (k q) x, .string (b q)] 53));obtain⟨g5,a5⟩:=eX (wr.heap.size);have a2:Below wr.heap.size wr w4:=by rw[aa];exact eD _ _
   have XB:Hid (Row w4 g5 53 [.slice X (k q) x, .string (b q)]):=lH (by rw[aa,a5];exact eP _ _);have aK:Hid (g3≠g5):=lH (by rw[a5];exact Nat.ne_of_lt E.o.lt);have aC:Hid (∀g,(Value.slice B q d).ownBlock=some g -> g≠g5):=lH (fun g hg=>by rw[a5];exact Nat.ne_of_lt (U.o.lt hg));replace E:=rW E a2;replace F:=rW F a2;replace R:Hid (fH w4 (.slice G n M) n o):=lH (eY.below R.o a2);replace U:=lH (U.o.below a2);replace a7:=lH (a7.o.below a2);replace h:=bT h a2
   go_upto_region 5 with (fail)
   rw[<- aa, <- a5];clear aa a5 a2 c1 c2 cl;go_wp2_with fail
   have a1:=rG w4;have aF:=E.o.lt;obtain⟨aj,al⟩:=aT2 E.o;have aG:=XB.o.lt;obtain⟨ak,am⟩:=aT2 XB.o;have KS:=lH (kC aj (kC al (kC ak (kN am))));clear aF aj al aG ak am;refine rL KS.o (fun i=>decide (11 <= i)) ?_;have O:=KS.o _ a1.o;refine tKs 0 17 O ?_;refine tKs 1 18 O ?_;refine tKs 2 19 O ?_;refine tKs 3 20 O ?_;refine tKs 4 21 O ?_;refine tKs 5 22 O ?_;refine rD 6 (fun K T=> ?_);go_simp;refine(zX _ (k q) (t q) _ (by exact a7.o) (ab.o.2.2 q ay)).mono ?_;rintro e w5 ⟨v5,rfl,ad,_,_,a0⟩;have a0:Below w4.heap.size w4 w5:=bD a0;replace E:=rW E a0;replace XB:=rW XB a0;replace F:=rW F a0;replace U:=lH (U.o.below a0);replace h:=bT h a0;replace a1:=bT a1 a0;obtain⟨Y,y,rfl,_,_⟩:=eY.shape ad;have V5:=lH ad;replace R:Hid (fH w5 (.slice G n M) n o):=lH (eY.below R.o a0);clear ad;clear O a0;have O:=KS.o _ a1.o;refine kH T O ?_;clear T K;refine rD 7 (fun K T=> ?_);go_simp;refine(oq (b q) Y (k q) y _).mono ?_;rintro e w6 ⟨rfl,Z⟩;have Z:Below w5.heap.size w5 w6:=bD Z;replace E:=rW E Z;replace XB:=rW XB Z;replace F:=rW F Z;replace U:=lH (U.o.below Z);replace h:=bT h Z;replace a1:=bT a1 Z;replace R:Hid (fH w6 (.slice G n M) n o):=lH (eY.below R.o Z);replace V5:Hid (fH w6 (.slice Y (k q) y) (k q) (t q)):=lH (eY.below V5.o Z);clear O Z;have O:=KS.o _ a1.o;refine kH T O ?_;clear T K;refine rD 8 (fun K T=> ?_);go_simp;refine T.out _ _ (fun _=>KS.o _ (a1.o.trans ((eD _ _).mono a1.o.size))) ?_;clear T K O;refine rD 9 (fun K T=> ?_);rw[if_pos (by rfl)];refine IJ w6 (.tmp 18) (.tmp 25) rfl (.slice B q d) q k t b rfl U.o Y (k q) y V5.o rfl (by have:=ab.o.2.1;omega) ?_;intro va w8 ho a3;show K (Act.put _ (some 26) va) w8;obtain⟨B2,d2,rfl,_,_⟩:=ho.shape;have aw:(Value.slice B q d).ownBlock≠some g3:=fun e=>by obtain⟨_,hx⟩:=U.o.row e;exact absurd (E.o.ty hx) dC
   have az:(Value.slice B q d).ownBlock≠some (w.heap.size+1):=fun e=>by obtain⟨_,hx⟩:=U.o.row e;exact absurd (F.o.ty hx) dC
   replace E:=lH (E.o.turned a3 aw);replace F:=lH (F.o.turned a3 az);replace XB:=lH (XB.o.turned a3 (fun e=>aC.o _ e rfl));replace R:Hid (fH w8 (.slice G n M) n o):=lH (II R.o U.o a3);have an:=a3.below (B:=w.heap.size) h.o.size LO.o;have aD:=lH (a3.base h.o.size LO.o);replace h:=lH (h.o.trans an);have aE:=lH ho;clear an a3 ho aw az V5 a7 U LO a0 Z;have O:=And.intro (E.o.at_ 0 rfl) (And.intro (E.o.at_ 1 rfl) (And.intro (XB.o.at_ 0 rfl) (XB.o.at_ 1 rfl)));refine kH T O ?_;clear T K;refine tKs 10 27 O ?_;have k1:=aI 1 E;have f1:=E.o.free 1;have kl:=E.o.lt;refine rD 11 (fun K T=> ?_);go_simp;refine kL T ?_;clear T K;refine dN ?_ _;clear O KS a1;clear k1 f1 kl;have hg:World.grownBy w8 (w8.setCell ⟨g3,1,none⟩ (.slice B2 (q+1) d2)) (some g3):=grownBy_set _ _ _ _;have QN:Row (w8.setCell ⟨g3,1,none⟩ (.slice B2 (q+1) d2)) g3 25 [.slice G n M, .slice B2 (q+1) d2]:=E.o.set 1 (.slice B2 (q+1) d2);have VN:fH (w8.setCell ⟨g3,1,none⟩ (.slice B2 (q+1) d2)) (.slice G n M) n o:=Cb R.o hg E.o dC;have ON:=aE.o.other hg E.o dC dC;have RN:=F.o.other hg (by have:=af.o;omega);have HN:=h.o.grown hg h.o.size (by have:=af.o;first | (simp;done) | (simp;omega));go_wp2_with fail
   go_roundw
   case rel=>exact⟨q+1,B2,d2,by omega,by go_num,QN,VN,ON,aD,RN,HN⟩
   case measure=>exact mZ
  ·have aH:m=q:=oM
   subst aH;obtain⟨q0,q1⟩:=aT2 E.o;have ql:=E.o.lt;obtain⟨r0,r1⟩:=aT2 F.o;have f0:=F.o.free 0;have f1:=F.o.free 1;have rl:=F.o.lt;go_wp2_with fail
   clear q0 q1 ql r0 r1 f0 f1 rl;have hg:World.grownBy wr ((wr.setCell ⟨w.heap.size+1,0,none⟩ (.slice G n M)).setCell ⟨w.heap.size+1,1,none⟩ (.slice B m d)) (some (w.heap.size+1)):=grownBy_trans (grownBy_set _ _ _ _) (grownBy_set _ _ _ _);have RE:Row ((wr.setCell ⟨w.heap.size+1,0,none⟩ (.slice G n M)).setCell ⟨w.heap.size+1,1,none⟩ (.slice B m d)) (w.heap.size+1) 25 [.slice G n M, .slice B m d]:=(F.o.set 0 (.slice G n M)).set 1 (.slice B m d);have VN:fH ((wr.setCell ⟨w.heap.size+1,0,none⟩ (.slice G n M)).setCell ⟨w.heap.size+1,1,none⟩ (.slice B m d)) (.slice G n M) n o:=Cb R.o hg F.o dC;have ON:=U.o.other hg F.o dC dC;have HN:=h.o.grown hg h.o.size (by first | (simp;done) | (simp;omega));obtain⟨wE,aJ⟩:=eX (((wr.setCell ⟨w.heap.size+1,0,none⟩ (.slice G n M)).setCell ⟨w.heap.size+1,1,none⟩ (.slice B m d)));rw[<- aJ] at RE VN ON HN ⊢;have k0:=RE.at_ 0 rfl;have k1:=RE.at_ 1 rfl;refine bodyPost_ret (v:= .agg #[.slice G n M, .slice B m d]) (by simp[results,results25,go_sem,k0,k1]) rfl ?_;exact⟨_,_,rfl,VN,ON,HN⟩
end
section
open Go.ChangeShapes Go.WideShapes Go.ChangeAt Go.RowKit
theorem rf{W:World}{H:Type}{enc:TypeId × Value -> H}{fuel:Nat}{v:Value}{x:DataW H × List MemPlace}(R:DataW.trod enc prog W 0 (fun _=>true) true fuel 22 [v]=some x):∃n s,TSA W v n s:=by
 rcases Go.Deep.open_strs underlying22 underlying30 kR R with ⟨h0,_⟩ | ⟨a,len,cap,m,t,h0,_,F,G,T,_,E⟩
 ·simp only[List.cons.injEq,and_true] at h0;subst h0;exact⟨0,fun _=>⟨#[]⟩,⟨_,_,rfl,Nat.le_refl _,Nat.zero_le _, .inl rfl⟩, .inl ⟨rfl,rfl⟩⟩
 ·simp only[List.cons.injEq,and_true] at h0;subst h0
  rcases Nat.eq_zero_or_pos len with O | O
  ·subst O;exact⟨0,t,⟨_,_,rfl,F,G, .inl rfl⟩, .inr (.inr ⟨rfl,a,cap,rfl⟩)⟩
  ·have Y:len <= m:=by rw[T];split <;> omega
   have M:=World.cell?_spot (E 0 oM).1;obtain⟨b,o,h⟩:=a
   have U:h=none:=by
    have h1:((⟨b,o,h⟩:Addr).add 0)=⟨b,o,h⟩:=by unfold Addr.add;rw[if_pos rfl]
    rw[h1] at M;exact M
   subst U;refine⟨len,t,⟨_,_,rfl,F,G, .inr ⟨b,o,rfl,fun j X=> ?_⟩⟩, .inr (.inl ⟨b,o,cap,rfl⟩)⟩;have h1:=(E j oM).1;rw[add_plain] at h1;exact h1
theorem Cc{W:World}{H:Type}{enc:TypeId × Value -> H}{fuel:Nat}{v:Value}{x:DataW H × List MemPlace}(hf:DataW.trod enc prog W 0 (fun _=>true) true fuel 23 [v]=some x):∃m k t b,TRA W v m k t b:=by
 rcases Go.Deep.open_slice_pairs underlying23 underlying53 kR rfl rfl kR kR hf with ⟨h0,_⟩ | ⟨a,len,cap,m,n',G,Y,D0,D1,P0,P1,h0,_,O,R,a0,_,h⟩
 ·simp only[List.cons.injEq,and_true] at h0;subst h0;exact⟨0,fun _=>0,fun _ _=>⟨#[]⟩,fun _=>⟨#[]⟩,_,_,rfl,Nat.le_refl _,Nat.zero_le _, .inl rfl⟩
 ·simp only[List.cons.injEq,and_true] at h0;subst h0;have a2:len <= m:=by rw[a0];split <;> omega
  rcases Nat.eq_zero_or_pos len with X | X
  ·subst X;exact⟨0,fun _=>0,fun _ _=>⟨#[]⟩,fun _=>⟨#[]⟩,_,_,rfl,O,R, .inl rfl⟩
  ·have U:=World.cell?_spot (h 0 oM).1;obtain⟨g,o,F⟩:=a
   have a1:F=none:=by
    have h1:((⟨g,o,F⟩:Addr).add (0*2))=⟨g,o,F⟩:=by unfold Addr.add;rw[if_pos rfl]
    rw[h1] at U;exact U
   subst a1
   have Z:∀i,i<len -> ∃q:Nat × (Nat -> ByteArray) × ByteArray,Y i= .string q.2.2 /\ TSA W (G i) q.1 q.2.1:=fun i E=>by
    obtain⟨_,_,h0,h1⟩:=h i oM;obtain⟨s,M,_,_⟩:=DataW.trod_string underlying30 h1;obtain⟨n,t,ht⟩:=rf h0;simp only[List.cons.injEq,and_true] at M;exact⟨(n,t,s),M,ht⟩
   obtain⟨q,T⟩:=Go.Deep.choose_lt Z;refine⟨len,fun i=>(q i).1,fun i=>(q i).2.1,fun i=>(q i).2.2,_,_,rfl,O,R, .inr ⟨g,o,rfl,fun i E=> ?_⟩⟩;obtain⟨h0,h1,_,_⟩:=h i oM;rw[add_plain] at h0 h1;refine⟨G i,h0,?_,(T i E).2⟩;rw[<- (T i E).1];exact h1
set_option maxRecDepth 100000 in
theorem IK{W:World}{base:Nat}{v:Value}{H:Type}{enc:TypeId × Value -> H}{d:DataW H}{G:List MemPlace}(F:Value.okWide prog W .any base 23 v)(h:DataW.Trod enc prog W 0 (fun _=>true) true 23 v d G):
  ∃m k t b,TRA W v m k t b:=by
 obtain⟨a,n,c,rfl⟩:=okWide_slice underlying23 F;obtain⟨fuel,E⟩:=h;exact Cc E
end
section
open Go.RowKit
open Lp (RL upd eu eB sumTo sumTo_congr)
structure OTx where
 kk:Int
 s:ByteArray
 np:Nat
 p:Nat -> ByteArray
 ny:Nat
 y:Nat -> ByteArray
 nd:Nat
 d:Nat -> ByteArray
def mE(w:World)(v:Value)(O:OTx):Prop:=∃vp vy vd,v= .agg #[.int .i64 O.kk, .string O.s,vp,vy,vd] /\ TSA w vp O.np O.p /\ TSA w vy O.ny O.y /\ TSA w vd O.nd O.d
theorem mE.below{w w':World}{v:Value}{O:OTx}(h:mE w v O)(t:Below w.heap.size w w'):mE w' v O:=by
 obtain⟨R,T,M,G,h1,E,F⟩:=h;exact⟨R,T,M,G,h1.below t,E.below t,F.below t⟩
def OTx.Fit(O:OTx)(K:Nat):Prop:=O.s.size <= K /\ (∀j,j<O.np -> (O.p j).size <= K) /\ (∀j,j<O.ny -> (O.y j).size <= K) /\ ∀j,j<O.nd -> (O.d j).size <= K
theorem OTx.Fit.mono{O:OTx}{a b:Nat}(h:O.Fit a)(E:a <= b):O.Fit b:=⟨Nat.le_trans h.1 E,fun j t=>Nat.le_trans (h.2.1 j t) E,fun j t=>Nat.le_trans (h.2.2.1 j t) E,fun j t=>Nat.le_trans (h.2.2.2 j t) E⟩
def OTx.iE(O:OTx)(n m:Nat):Prop:=O.np=(if O.kk=2 then 0 else n) /\ O.ny=(if O.kk=3 then 0 else m) /\ O.nd=(if O.kk=3 then n else 0) /\ (O.kk=1 \/ O.s=⟨#[]⟩)
def OTx.ja(O:OTx):Nat:=if fo O.np (fun j=>sE (O.p j))≠0 then fo O.np (fun j=>sE (O.p j)) else if fo O.ny (fun j=>sE (O.y j))≠0 then fo O.ny (fun j=>sE (O.y j)) else fo O.nd (fun j=>sE (O.d j))
def OTx.err(O:OTx):Nat:=if O.kk=1 /\ sE O.s≠0 then sE O.s else O.ja
structure OTx.Is (O:OTx) (v:Rat) (x y d:Nat -> Rat):Prop where
 val:O.kk=1 -> O.s.data.toList=fA v
 pt:∀j,j<O.np -> (O.p j).data.toList=fA (x j)
 du:∀j,j<O.ny -> (O.y j).data.toList=fA (y j)
 ray:∀j,j<O.nd -> (O.d j).data.toList=fA (d j)
def kI(m n:Nat)(kk:Int)(A:Nat -> Nat -> Rat)(b c:Nat -> Rat)(v:Rat)(x y d:Nat -> Rat):Prop:=
 (kk=1 -> Lp.Opt m n A b c v x y) /\ (kk=2 -> Lp.Inf m n A b y) /\ (kk=3 -> Lp.Unb m n A b c x d)
def ou(n m:Nat)(k:Nat -> Nat)(o:Nat -> ByteArray)(t:Nat -> Nat -> ByteArray)(b:Nat -> ByteArray)(O:OTx)(code:Nat):Prop:=
 (fD n m k o t b≠0 /\ code=fD n m k o t b) \/
 (fD n m k o t b=0 /\ (((O.kk<1 \/ 3<O.kk) /\ code=12) \/
  ((1 <= O.kk /\ O.kk <= 3) /\ ((¬O.iE n m /\ code=13) \/
   (O.iE n m /\ ((O.err≠0 /\ code=O.err) \/
    (O.err=0 /\ ∃A bq c v x y d,jk n m o t b A bq c /\ O.Is v x y d /\ ((kI m n O.kk A bq c v x y d /\ code=0) \/ (¬kI m n O.kk A bq c v x y d /\ code=27)))))))))
theorem ow{n:Nat}{a t x x':Nat -> Rat}(h:∀k,k<n -> a k=t k)(F:∀k,k<n -> x k=x' k):eB n a x=eB n t x':=sumTo_congr fun k E=>by rw[h k E,F k E]
section
variable {m n:Nat} {A A':Nat -> Nat -> Rat} {b b' c c' x x' y y' d d':Nat -> Rat} {v v':Rat}
theorem Ce(E:∀i,i<m -> ∀j,j<n -> A i j=A' i j)(F:∀i,i<m -> b i=b' i)(G:∀j,j<n -> x j=x' j)(h:Lp.jC m n A b x):Lp.jC m n A' b' x':=fun i t=>by
 rw[<- ow (E i t) G, <- F i t];exact h i t
theorem Cf(G:∀i,i<m -> ∀j,j<n -> A i j=A' i j)(F:∀i,i<m -> y i=y' i)(M:∀j,j<n -> c j=c' j)(h:Lp.jc m n A y c):Lp.jc m n A' y' c':=
 ⟨fun i t=>by rw[<- F i t];exact h.pos i t,fun k E=>by rw[<- ow F (fun i t=>G i t k E), <- M k E];exact h.sum k E⟩
theorem IL(t:∀i,i<m -> ∀j,j<n -> A i j=A' i j)(E:∀i,i<m -> b i=b' i)(F:∀j,j<n -> c j=c' j)(M:∀j,j<n -> x j=x' j)(O:∀i,i<m -> y i=y' i)(G:v=v')(h:Lp.Opt m n A b c v x y):Lp.Opt m n A' b' c' v' x' y':=
 ⟨Cf t O F h.du,by rw[<- ow O E, <- G];exact h.bound,Ce t E M h.holds,by rw[<- ow F M, <- G];exact h.value⟩
theorem IM(E:∀i,i<m -> ∀j,j<n -> A i j=A' i j)(F:∀i,i<m -> b i=b' i)(t:∀i,i<m -> y i=y' i)(h:Lp.Inf m n A b y):Lp.Inf m n A' b' y':=
 ⟨Cf E t (fun _ _=>rfl) h.du,by rw[<- ow t F];exact h.bound⟩
theorem IP(t:∀i,i<m -> ∀j,j<n -> A i j=A' i j)(G:∀i,i<m -> b i=b' i)(M:∀j,j<n -> c j=c' j)(O:∀j,j<n -> x j=x' j)(E:∀j,j<n -> d j=d' j)(h:Lp.Unb m n A b c x d):Lp.Unb m n A' b' c' x' d':=
 ⟨Ce t G O h.holds,fun i F=>by rw[<- ow (t i F) E];exact h.ray i F,by rw[<- ow M E];exact h.up⟩
end
theorem lq{l:List UInt8}{p q:Rat}(h:l=fA p)(t:l=fA q):p=q:=rQ (h.symm.trans t)
theorem Cg{n m:Nat}{o:Nat -> ByteArray}{t:Nat -> Nat -> ByteArray}{bt:Nat -> ByteArray}{O:OTx}{A A':Nat -> Nat -> Rat}{b b' c c' x x' y y' d d':Nat -> Rat}{v v':Rat}
  (hs:O.iE n m) (T:jk n m o t bt A b c) (F:O.Is v x y d) (U:jk n m o t bt A' b' c') (G:O.Is v' x' y' d') (h:kI m n O.kk A b c v x y d):kI m n O.kk A' b' c' v' x' y' d':=by
 have R:∀i,i<m -> ∀j,j<n -> A i j=A' i j:=fun i M j E=>lq (T.rows i M j E) (U.rows i M j E)
 have X:∀i,i<m -> b i=b' i:=fun i M=>lq (T.bounds i M) (U.bounds i M)
 have Y:∀j,j<n -> c j=c' j:=fun j E=>lq (T.obj j E) (U.obj j E)
 obtain⟨Z,s2,s3,_⟩:=hs;refine⟨fun e=> ?_,fun e=> ?_,fun e=> ?_⟩
 ·rw[if_neg oM] at Z s2;exact IL R X Y (fun j E=>lq (F.pt j oM) (G.pt j oM)) (fun j E=>lq (F.du j oM) (G.du j oM)) (lq (F.val e) (G.val e)) (h.1 e)
 ·rw[if_neg oM] at s2;exact IM R X (fun j E=>lq (F.du j oM) (G.du j oM)) (h.2.1 e)
 ·rw[if_neg oM] at Z;rw[if_pos e] at s3;exact IP R X Y (fun j E=>lq (F.pt j oM) (G.pt j oM)) (fun j E=>lq (F.ray j oM) (G.ray j oM)) (h.2.2 e)
theorem ou.uniq{n m:Nat}{k:Nat -> Nat}{o:Nat -> ByteArray}{t:Nat -> Nat -> ByteArray}{b:Nat -> ByteArray}{O:OTx}{R T:Nat}(h:ou n m k o t b O R)(E:ou n m k o t b O T):R=T:=by
 rcases h with ⟨a,e⟩ | ⟨a,h⟩ <;> rcases E with ⟨F,e'⟩ | ⟨F,E⟩
 ·rw[e,e']
 ·exact absurd F a
 ·exact absurd a F
 rcases h with ⟨q,e⟩ | ⟨q,h⟩ <;> rcases E with ⟨q',e'⟩ | ⟨q',E⟩
 ·rw[e,e']
 ·omega
 ·omega
 rcases h with ⟨z,e⟩ | ⟨z,h⟩ <;> rcases E with ⟨M,e'⟩ | ⟨M,E⟩
 ·rw[e,e']
 ·exact absurd M z
 ·exact absurd z M
 rcases h with ⟨r,e⟩ | ⟨r,A,bq,c,v,x,y,d,h1,X,Z⟩ <;> rcases E with ⟨G,e'⟩ | ⟨G,A',a1,c',v',x',y',d',U,Y,a0⟩
 ·rw[e,e']
 ·exact absurd G r
 ·exact absurd r G
 rcases Z with ⟨p,e⟩ | ⟨p,e⟩ <;> rcases a0 with ⟨p',e'⟩ | ⟨p',e'⟩
 ·rw[e,e']
 ·exact absurd (Cg z h1 X U Y p) p'
 ·exact absurd (Cg z U Y h1 X p') p
 ·rw[e,e']
theorem jE{s:ByteArray}{q:Rat}(h:s.data.toList=fA q):s=eF q:=lY (by rw[jI];exact h)
theorem Ch(q:Rat):sE (eF q)=0:=by unfold sE;rw[jI];exact mP q
theorem vY(n:Nat)(x:Nat -> Rat):fo n (fun j=>sE (eF (x j)))=0:=kF.2 fun _ _=>Ch _
theorem Ci{n m:Nat}{k:Nat -> Nat}{o:Nat -> ByteArray}{t:Nat -> Nat -> ByteArray}{b:Nat -> ByteArray}{O:OTx}{E:Nat}{A:Nat -> Nat -> Rat}{bq c x y d:Nat -> Rat}{v:Rat}
  (h:ou n m k o t b O E) (h0:fD n m k o t b=0) (R:1 <= O.kk /\ O.kk <= 3) (U:O.iE n m) (M:O.err=0) (G:jk n m o t b A bq c) (F:O.Is v x y d) (T:kI m n O.kk A bq c v x y d):E=0:=
 h.uniq (.inr ⟨h0, .inr ⟨R, .inr ⟨U, .inr ⟨M,A,bq,c,v,x,y,d,G,F, .inl ⟨T,rfl⟩⟩⟩⟩⟩)
theorem iA.tx{w:World}{m n K:Nat}{A:Nat -> Nat -> Rat}{bq c:Nat -> Rat}{v:Value}(h:iA w m n K A bq c v):
  ∃O:OTx,mE w v O /\ O.Fit (2*K+5) /\ (1 <= O.kk /\ O.kk <= 3) /\ O.iE n m /\ O.err=0 /\ ∃q x y d,O.Is q x y d /\ kI m n O.kk A bq c q x y d:=by
 cases h with
 | opt P T Y U q x y h1 F G E M=>
  refine⟨⟨1,eF q,n,fun j=>eF (x j),m,fun j=>eF (y j),0,fun _=>⟨#[]⟩⟩,⟨_,_,_,h1,F,G,sQ _ _⟩,⟨oh E.1,fun j t=>oh (E.2.1 j t),fun j t=>oh (E.2.2 j t),fun j t=>absurd t (Nat.not_lt_zero _)⟩,⟨show(1:Int) <= 1 by decide,show(1:Int) <= 3 by decide⟩,⟨rfl,rfl,rfl, .inl rfl⟩,?_,q,x,y,fun _=>0,⟨fun _=>jI _,fun j _=>jI _,fun j _=>jI _,fun j t=>absurd t (Nat.not_lt_zero _)⟩,⟨fun _=>M,fun e=>absurd (show(1:Int)=2 from e) dC,fun e=>absurd (show(1:Int)=3 from e) dC⟩⟩;unfold OTx.err OTx.ja;rw[if_neg (fun h=>h.2 (Ch q))];simp only[vY,ne_eq,not_true_eq_false,if_false];rfl
 | inf Y U y h1 F E G=>
  refine⟨⟨2,⟨#[]⟩,0,fun _=>⟨#[]⟩,m,fun j=>eF (y j),0,fun _=>⟨#[]⟩⟩,⟨_,_,_,h1,sQ _ _,F,sQ _ _⟩,⟨Nat.zero_le _,fun j t=>absurd t (Nat.not_lt_zero _),fun j t=>oh (E j t),fun j t=>absurd t (Nat.not_lt_zero _)⟩,⟨show(1:Int) <= 2 by decide,show(2:Int) <= 3 by decide⟩,⟨rfl,rfl,rfl, .inr rfl⟩,?_,0,fun _=>0,y,fun _=>0,⟨fun e=>absurd (show(2:Int)=1 from e) dC,fun j t=>absurd t (Nat.not_lt_zero _),fun j _=>jI _,fun j t=>absurd t (Nat.not_lt_zero _)⟩,⟨fun e=>absurd (show(2:Int)=1 from e) dC,fun _=>G,fun e=>absurd (show(2:Int)=3 from e) dC⟩⟩;unfold OTx.err OTx.ja;rw[if_neg (fun h=>absurd (show(2:Int)=1 from h.1) dC)];simp only[vY,ne_eq,not_true_eq_false,if_false,fo]
 | unb P T R cr x d h1 F G E M=>
  refine⟨⟨3,⟨#[]⟩,n,fun j=>eF (x j),0,fun _=>⟨#[]⟩,n,fun j=>eF (d j)⟩,⟨_,_,_,h1,F,sQ _ _,G⟩,⟨Nat.zero_le _,fun j t=>oh (E.1 j t),fun j t=>absurd t (Nat.not_lt_zero _),fun j t=>oh (E.2 j t)⟩,⟨show(1:Int) <= 3 by decide,show(3:Int) <= 3 by decide⟩,⟨rfl,rfl,rfl, .inr rfl⟩,?_,0,x,fun _=>0,d,⟨fun e=>absurd (show(3:Int)=1 from e) dC,fun j _=>jI _,fun j t=>absurd t (Nat.not_lt_zero _),fun j _=>jI _⟩,⟨fun e=>absurd (show(3:Int)=1 from e) dC,fun e=>absurd (show(3:Int)=2 from e) dC,fun _=>M⟩⟩;unfold OTx.err OTx.ja;rw[if_neg (fun h=>absurd (show(3:Int)=1 from h.1) dC)];simp only[vY,ne_eq,not_true_eq_false,if_false,fo]
end
end Go.Proofs.YtdefghfjhgmpfaaGreatDoor
