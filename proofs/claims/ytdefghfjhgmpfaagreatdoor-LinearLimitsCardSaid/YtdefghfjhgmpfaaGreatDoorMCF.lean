/- Parts of this proof: QHolds QComb. -/
import Derived.Test.YtdefghfjhgmpfaaGreatDoorMAE
import Derived.Test.YtdefghfjhgmpfaaGreatDoorMBM
import Derived.Test.YtdefghfjhgmpfaaGreatDoorMAO
import Derived.Test.YtdefghfjhgmpfaaGreatDoorMAP
namespace Go.Proofs.YtdefghfjhgmpfaaGreatDoor
open Go.Proofs.Tryz
section
open Go.RowKit
open Lp (RL upd eu)
set_option maxRecDepth 100000 in
set_option maxHeartbeats 3200000 in
theorem Cw(AC AR Z AX:Option Addr)(n m cC cR cD cX:Nat)(A:Nat -> Nat -> Rat)(C x:Nat -> Rat)(w:World)(hA:iD w (.slice AR m cR) m n A)(hD:eZ w (.slice Z m cD) m C)(hx:eZ w (.slice AX n cX) n x)(hm:m <= 1000000000)
  (af:∀i,i<m -> ∀j,j<n -> RL 400000000000 (A i j)) (ai:∀j,j<n -> RL 400000000000 (x j)) (ag:∀i,i<m -> RL 1000000000000 (C i)) (ah:∀i,i<m -> ∀k,k <= n -> RL 1000000000000 (Lp.eB k (A i) x)):
  Calls prog 83 #[.agg #[.slice AC n cC, .slice AR m cR, .slice Z m cD], .slice AX n cX] w fun e w'=>((Lp.jC m n A C x /\ e= .returned (.bool true)) \/ (¬Lp.jC m n A C x /\ e= .returned (.bool false))) /\ Below w.heap.size w w':=by
 have HA:=lH hA;have HD:=lH hD;have HX:=lH hx;have an:=lH af;have ap:=lH ai;have ao:=lH ag;have a3:=lH ah;clear hA hD hx af ai ag ah;obtain⟨W,hW,G,t⟩:=eN1 w [.slice AC n cC, .slice AR m cR, .slice Z m cD] 98;go_enter func83,ntmps83;obtain⟨p0,p1,p2⟩:=aT3 G.o;have pl:=G.o.lt;rw[hW] at p0 p1 p2 pl;go_wp2_with fail
 rw[<- hW];clear hW p0 p1 p2 pl;have a4:=G;have a2:=t;clear G t
 go_loopw [10] (fun iv wr=>∃q:Nat,q <= m /\ iv= .int .i64 q /\ Hid (∀i,i<q -> Lp.eB n (A i) x <= C i) /\ Below W.heap.size W wr)
  (fun iv _=>m-(intOf iv).toNat)
 case atStart=>exact⟨0,Nat.zero_le _,rfl,lH (fun i hi=>absurd hi oM),Below.refl _ _⟩
 case round=>
  obtain⟨q,hq,rfl,hz,Y⟩:=hrel;have HZ:=lH hz.o;have F:=lH Y;have G:=lH (a4.o.below Y a4.o.lt);have t:=lH (a2.o.trans (Y.mono a2.o.size));clear hz Y;by_cases ay:((q:Nat):Int)<((m:Nat):Int)
  ·have O:q<m:=oM
   have ax:((q:Nat):Int) <= 1000000000:=oM
   obtain⟨gR,rfl,ae⟩:=HA.o.at_ oM;obtain⟨X,y,ad,_,al⟩:=ae q O;have aq:=lH (al.below t.o);obtain⟨gD,rfl,aj⟩:=HD.o.at_ oM;have ak:=aj.below t.o;obtain⟨sz,Az,lz,cz,tz,Bz,mz,dz,ac,am⟩:=ak.fO O;have QB:=lH ac;have Vz:=lH am;have c1:=cell_below t.o ad;have cl:=eG c1;clear ae ad al aj ak ac am;have ar:=lH (HX.o.below t.o);go_wp2_with fail
   clear c1 cl;obtain⟨zb,R⟩:∃z:Bool,z=decide (0<jq (Lp.eB n (A q) x) (C q)):=⟨_,rfl⟩
   go_wp2_with fail
   have E:=rG wr;have au:=G.o.lt;obtain⟨a5,a7,a9⟩:=aT3 G.o;have av:=QB.o.lt;obtain⟨a6,a8,aa,ab⟩:=QB.o;have U:=lH (kC a5 (kC a7 (kC a9 (kC a6 (kC a8 (kC aa (kN ab)))))));clear au a5 a7 a9 av a6 a8 aa ab;refine rL U.o (fun i=>false) ?_;have r:=U.o _ E.o;refine tKs 0 15 r ?_;refine tKs 1 16 r ?_;refine tKs 3 18 r ?_;refine tKs 4 19 r ?_;refine tKs 5 20 r ?_;refine tKs 6 21 r ?_;refine tKs 7 22 r ?_;refine rD 2 (fun K V=> ?_);go_simp;refine(qK _ _ n n (A q) x _ (by exact aq.o) (by exact ar.o) (Nat.le_refl _) (an.o q O) ap.o (a3.o q O)).mono ?_;rintro e w3 ⟨vd,rfl,a1,M⟩;have M:Below wr.heap.size wr w3:=bD M;replace Vz:=lH (Vz.o.below M);replace t:=bT t M;replace E:=bT E M;replace F:=lH (F.o.trans (M.mono F.o.size));obtain⟨sd,Ad,ld,cd,td,Bd,md,dd,rfl⟩:=a1.shape;have Vd:=lH a1;clear a1;clear r M;have r:=U.o _ E.o;refine kH V r ?_;clear V K;refine rD 8 (fun K V=> ?_);go_simp;refine(sM _ _ (Lp.eB n (A q) x) (C q) _ (by exact Vd.o) (by exact Vz.o) (a3.o q O n (Nat.le_refl _)) (ao.o q O)).mono ?_;rintro e w4 ⟨rfl,T⟩;have T:Below w3.heap.size w3 w4:=bD T;replace t:=bT t T;replace E:=bT E T;replace F:=lH (F.o.trans (T.mono F.o.size));clear r T;have r:=U.o _ E.o;refine kH V r ?_;clear V K;refine jf (i:=9) (v:= .bool zb) (some 24) rfl (by rfl) kR kR kR kR (fun _ _ _ h=>h) (Or.inl ⟨by rfl,?_⟩) r ?_
   ·(intro w' aw;clear aw;go_simp;(first | done | (rw[R];done) | (rw[R];rfl) | (simp[R];done)))
   simp only[Act.put,List.setIfInBounds_toArray,List.set_cons_zero,List.set_cons_succ];refine dN ?_ _;clear r U E;by_cases h0:Lp.eB n (A q) x <= C q
   ·have a0:zb=false:=R.trans (decide_eq_false (fun h=>uk.1 h h0));clear R;subst a0;have HC:=lH h0;clear h0;go_wp2_with fail
    go_roundw
    case rel=>exact⟨q+1,by omega,by go_num,lH (fun i hi=>by by_cases e:i=q;subst e;exact HC.o;exact HZ.o i oM),F.o⟩
    case measure=>exact mZ
   ·have a0:zb=true:=R.trans (decide_eq_true (uk.2 h0));clear R;subst a0;have HC:Hid (¬Lp.jC m n A C x):=lH (fun h=>h0 (h q O));clear h0;go_wp2_with fail
    go_returns;exact⟨.inr ⟨HC.o,rfl⟩,t.o⟩
  ·obtain rfl:m=q:=oM
   go_wp2_with fail
   go_returns;exact⟨.inl ⟨HZ.o,rfl⟩,t.o⟩
end
section
open Go.RowKit
open Lp (RL upd eu)
theorem Jp(g Y nb Z:Nat)(B:Option Addr)(f:Nat -> Rat)(U:Value)(q:Rat)(w:World)(_:RB w g 0 f)(T:eO w U q):
  Calls prog 150 #[.slice (some ⟨g,0,none⟩) 0 Y, .slice B nb Z,U] w fun e w'=>e= .returned (.tuple #[]) /\ Below w.heap.size w w':=by
 obtain⟨sq,V,lq,cq,tq,X,mq,dq,rfl⟩:=T.shape;obtain⟨W,r,O,h⟩:=eN1 w [.bool sq, .slice V lq cq, .bool tq, .slice X mq dq] 105;have R:=lH ((T).below h.o);go_enter func150,ntmps150;obtain⟨C,E,F,G⟩:=aT4 O.o;have M:=O.o.lt;rw[r] at C E F G M;by_cases h0:q=0
 ·go_wp2_with fail
  rw[<- r];clear r C E F G M;refine(fU _ q _ R.o).mono ?_;rintro e w1 ⟨rfl,t⟩;replace h:=bT h t;clear t;have hz:sgI q.num=0:=iZ.2 h0;rw[hz];go_wp2_with fail
  go_returns;exact⟨rfl,h.o⟩
 ·go_wp2_with fail
  rw[<- r];clear r C E F G M;refine(fU _ q _ R.o).mono ?_;rintro e w1 ⟨rfl,t⟩;replace h:=bT h t;clear t;have a1:(sgI q.num==0)=false:=by simpa using (not_congr iZ).2 h0
  clear h0;go_wp2_with fail
  clear a1
  go_loopw [12] (fun iv wr=>iv= .int .i64 0 /\ Below w.heap.size w wr) (fun _ _=>0)
  case atStart=>exact⟨rfl,h.o⟩
  case round=>
   clear h;obtain⟨rfl,a0⟩:=hrel;go_wp2_with fail
   go_returns;exact⟨rfl,a0⟩
theorem Jq(g t n x:Nat)(X:Option Addr)(f p:Nat -> Rat)(r:Value)(q:Rat)(w:World)(C:RB w g n f)(W:eZ w (.slice X n x) n p)(U:0<n -> ∀h,X=some ⟨h,0,none⟩ -> g≠h)(V:n <= 9223372036854775807)(F:eO w r q)
  (O:∀j,j<n -> RL 400000000000 (f j)) (R:∀j,j<n -> RL 400000000000 (p j)) (T:RL 400000000000 q):
  Calls prog 150 #[.slice (some ⟨g,0,none⟩) n t, .slice X n x,r] w fun e w'=>e= .returned (.tuple #[]) /\ RB w' g n (fun j=>f j-q*p j) /\ Chg (fun k=>k=g) w w':=by
 rcases Nat.eq_zero_or_pos n with h0 | h0
 ·subst h0;refine(Jp g t 0 x X f r q w C F).mono ?_;rintro e w' ⟨G,E⟩;exact⟨G,(C.below E).congr (fun j M=>absurd M oM),Chg.of_below E⟩
 ·obtain⟨h,rfl,Y⟩:=W.at_ h0;exact vC g h t x n n f p r q w C Y (U h0 h rfl) (Nat.le_refl _) V F O R T
set_option maxRecDepth 100000 in
set_option maxHeartbeats 6400000 in
theorem Jr(AC AR AD AY AW:Option Addr)(n m cC cR cD cY cW O:Nat)(A:Nat -> Nat -> Rat)(bq y c:Nat -> Rat)(w:World)(hA:iD w (.slice AR m cR) m n A)(hD:eZ w (.slice AD m cD) m bq)(hy:eZ w (.slice AY m cY) m y)(hc:eZ w (.slice AW n cW) n c)(hm:m <= 1000000000)(hn:n <= 1000000000)
  (aX:∀i,i<m -> ∀j,j<n -> RL O (A i j)) (aY:∀i,i<m -> RL O (bq i)) (b0:∀i,i<m -> RL O (y i)) (aZ:∀j,j<n -> RL O (c j)) (R:1+m* (O+O+1) <= 100000000000 /\ O <= 100000000000):
  Calls prog 122 #[.agg #[.slice AC n cC, .slice AR m cR, .slice AD m cD], .slice AY m cY, .slice AW n cW] w fun e w'=>((Lp.jc m n A y c /\ ∃v,e= .returned (.tuple #[v, .bool true]) /\ eO w' v (Lp.eB m y bq)) \/ (¬Lp.jc m n A y c /\ e= .returned (.tuple #[.agg #[.bool false, .slice none 0 0, .bool false, .slice none 0 0], .bool false]))) /\ Below w.heap.size w w':=by
 have HA:=lH hA;have HD:=lH hD;have HY:=lH hy;have HC:=lH hc;have aq:=lH aX;have ar:=lH aY;have ae:=lH b0;have bc:=lH aZ;have HK:=lH R;clear hA hD hy hc aX aY b0 aZ R;have au:Hid (∀k,k <= m -> ∀j,j<n -> RL 100000000000 (Lp.eB k y (fun i=>A i j))):=lH (fun k V j hj=>(jy ae.o (fun i U=>aq.o i U j hj) k V).mono (by have:=HK.o.1;have:=Nat.mul_le_mul_right (O+O+1) V;omega));obtain⟨W,hW,F,C,t⟩:=eN2 w [.slice AC n cC, .slice AR m cR, .slice AD m cD] 98 [.bool false, .slice none 0 0, .bool false, .slice none 0 0] 105;go_enter func122,ntmps122;have b6:W.heap.size=w.heap.size+1+1:=by rw[hW];simp
 go_wp2_with (at_make;refine pu _ rfl (.tmp 13) (.tmp 13) rfl _ _ n rfl rfl rfl rfl oM ?_)
 rw[<- hW];clear hW;intro w1 ag a5 b4;rw[<- b6] at ag a5 b4 ⊢;obtain⟨gS,aW⟩:=eX (W.heap.size);rw[<- aW] at ag ⊢;have ad:Hid (w.heap.size+1<gS):=lH oM;have aB:=lH (ag.congr (f':=fun j=>Lp.eB 0 y (fun i=>A i j)) (fun j _=>rfl));have ax:=lH (F.o.below a5 F.o.lt);have az:=lH (C.o.below a5 C.o.lt);have an:=lH (t.o.trans (a5.mono t.o.size));clear ag a5 b4 aW b6 F C t;go_wp2_with fail
 go_loopw [17] (fun iv wr=>∃q:Nat,q <= m /\ iv= .int .i64 q /\ RB wr gS n (fun j=>Lp.eB q y (fun i=>A i j)) /\ Hid (∀i,i<q -> 0 <= y i) /\ Row wr w.heap.size 98 [.slice AC n cC, .slice AR m cR, .slice AD m cD] /\ Row wr (w.heap.size+1) 105 [.bool false, .slice none 0 0, .bool false, .slice none 0 0] /\ Below w.heap.size w wr)
  (fun iv _=>m-(intOf iv).toNat)
 case atStart=>exact⟨0,Nat.zero_le _,rfl,aB.o,lH (fun i U=>absurd U oM),ax.o,az.o,an.o⟩
 case round=>
  clear aB ax az an;obtain⟨q,hq,rfl,a2,hz,a8,ab,a6⟩:=hrel;have SB:=lH a2;have HZ:=lH hz.o;have F:=lH a8;have C:=lH ab;have t:=lH a6;clear a2 hz a8 ab a6;by_cases bA:((q:Nat):Int)<((m:Nat):Int)
  ·have a9:q<m:=oM
   obtain⟨gY,rfl,b3⟩:=HY.o.at_ oM;have al:=b3.below t.o;obtain⟨sy,Ay,ly,cy,ty,By,my,dy,bj,b8⟩:=al.fO a9;obtain⟨bs,bu,bv,bw⟩:=bj;have bx:=al.lt;have Vy:=lH b8;clear b8 b3 al;obtain⟨w2,ac⟩:=eX (wr.alloc (.cells #[.bool sy, .slice Ay ly cy, .bool ty, .slice By my dy] 105));obtain⟨gT,a7⟩:=eX (wr.heap.size);have a4:Below wr.heap.size wr w2:=by rw[ac];exact eD _ _
   have G:Hid (Row w2 gT 105 [.bool sy, .slice Ay ly cy, .bool ty, .slice By my dy]):=lH (by rw[ac,a7];exact eP _ _);have af:Hid (gS≠gT):=lH (by rw[a7];exact Nat.ne_of_lt SB.o.lt);replace SB:=lH (SB.o.below a4);replace F:=rW F a4;replace C:=rW C a4;replace Vy:=lH (Vy.o.below a4);replace t:=bT t a4;obtain⟨t0,t1,t2,t3⟩:=aT4 G.o;have tl:=G.o.lt;rw[ac,a7] at t0 t1 t2 t3 tl;go_wp2_with fail
   rw[<- ac, <- a7];clear ac a7 a4 t0 t1 t2 t3 tl bs bu bv bw bx;refine(fU _ (y q) _ Vy.o).mono ?_;rintro e w3 ⟨rfl,a0⟩;replace F:=rW F a0;replace C:=rW C a0;replace G:=rW G a0;replace SB:=lH (SB.o.below a0);replace Vy:=lH (Vy.o.below a0);replace t:=bT t a0;clear a0;by_cases h0:¬0 <= y q
   ·have b5:decide (sgI (y q).num<0)=true:=by simp;exact pK (Rat.not_le.1 h0)
    have HN:Hid (¬Lp.jc m n A y c):=lH (fun h=>h0 (h.pos q a9));clear h0;obtain⟨r0,f0,r1,f1,r2,f2,r3,f3⟩:=aF4 C.o;have rl:=C.o.lt;go_wp2_with fail
    refine bodyPost_ret (v:= .tuple #[.agg #[.bool false, .slice none 0 0, .bool false, .slice none 0 0], .bool false]) (by simp[results,results122,go_sem,r0,r1,r2,r3]) rfl ?_;exact⟨.inr ⟨HN.o,rfl⟩,lF t.o oM _ _ _ _⟩
   ·replace h0:0 <= y q:=Classical.not_not.1 h0;have b5:decide (sgI (y q).num<0)=false:=by have:=h0;simp;exact pM h0
    have HP:=lH h0;clear h0;obtain⟨gR,rfl,aV⟩:=HA.o.at_ oM;obtain⟨X,x,ai,_,ak⟩:=aV q a9;have ah:=lH (ak.below t.o);have C1:=lH (cell_below t.o ai);have C0:=lH ai;have bd:Hid (0<n -> ∀h,X=some ⟨h,0,none⟩ -> gS≠h):=lH (fun bn h e=>by obtain⟨h2,e2,bp⟩:=ak.at_ bn;have:=bp.lt;rw[e] at e2;simp only[Option.some.injEq,Addr.mk.injEq,and_true] at e2;have:=ad.o;omega);clear aV ai ak
    go_upto_region 7 with (fail)
    clear b5;go_wp2_with fail
    have M:=rG w3;have bf:=F.o.lt;obtain⟨aD,aH,aM⟩:=aT3 F.o;have be:=eG C1.o;have aC:=C1.o;have bi:=G.o.lt;obtain⟨aG,aL,aP,aS⟩:=aT4 G.o;have Y:=lH (kC aD (kC aH (kC aM (kC aC (kC aG (kC aL (kC aP (kN aS))))))));clear bf aD aH aM be aC bi aG aL aP aS;refine rL Y.o (fun i=>false) ?_;have E:=Y.o _ M.o;refine tKs 0 26 E ?_;refine tKs 1 27 E ?_;refine tKs 2 28 E ?_;refine tKs 3 29 E ?_;refine tKs 4 30 E ?_;refine tKs 5 31 E ?_;refine tKs 6 32 E ?_;refine rD 7 (fun K R=> ?_);go_simp;refine(nU _ (y q) _ (by exact Vy.o)).mono ?_;rintro e w4 ⟨vk,rfl,V,T⟩;have T:Below w3.heap.size w3 w4:=bD T;obtain⟨sk,Ak,lk,ck,tk,Bk,mk,dk,rfl⟩:=V.shape;have Vk:=lH V;clear V;replace F:=rW F T;replace C:=rW C T;replace G:=rW G T;replace SB:=lH (SB.o.below T);replace ah:=lH (ah.o.below T);replace C1:=lH (cell_below T C1.o);replace t:=bT t T;replace M:=bT M T;clear E T;have E:=Y.o _ M.o;refine kH R E ?_;clear R K;refine rD 8 (fun K R=> ?_);go_simp;refine(Jq gS n n x X _ (A q) _ (-(y q)) _ SB.o ah.o bd.o oM Vk.o (fun j hj=>(au.o q oM j hj).mono oM) (fun j hj=>(aq.o q a9 j hj).mono (by have:=HK.o.2;omega)) ((ae.o q a9).neg.mono (by have:=HK.o.2;omega))).mono ?_;rintro e w5 ⟨rfl,a2,a1⟩;have bl:Below w.heap.size w4 w5:=a1.below t.o.size (fun k V=>by have:=ad.o;omega);replace F:=lH (F.o.chg a1 (by have:=ad.o;omega));replace C:=lH (C.o.chg a1 (by have:=ad.o;omega));have bz:=C1.o;have SN:=lH (a2.congr (f':=fun j=>Lp.eB (q+1) y (fun i=>A i j)) (fun j _=>by show _=Lp.eB q y (fun i=>A i j)+y q*A q j;grind));replace t:=lH (t.o.trans bl);have bm:_:=And.intro (F.o.at_ 0 rfl) (And.intro (F.o.at_ 1 rfl) (And.intro (F.o.at_ 2 rfl) (And.intro (cell_below t.o C0.o) (And.intro ((G.o.chg a1 (fun e=>af.o e.symm)).at_ 0 rfl) (And.intro ((G.o.chg a1 (fun e=>af.o e.symm)).at_ 1 rfl) (And.intro ((G.o.chg a1 (fun e=>af.o e.symm)).at_ 2 rfl) ((G.o.chg a1 (fun e=>af.o e.symm)).at_ 3 rfl)))))));clear E;have E:=bm;refine kH R E ?_;clear R K;refine dN ?_ _;clear E Y M;go_wp2_with fail
    go_roundw
    case rel=>exact⟨q+1,by omega,by go_num,SN.o,lH (fun i U=>by by_cases e:i=q;subst e;exact HP.o;exact HZ.o i oM),F.o,C.o,t.o⟩
    case measure=>exact mZ
  ·have bo:m=q:=oM
   subst bo;have av:=SB;have ao:=t;have ay:=F;have aA:=C;clear SB t F C;go_wp2_with fail
   obtain⟨wa,rfl⟩:=eX (wr)
   go_loopw [38] (fun iv wr=>∃r:Nat,r <= n /\ iv= .int .i64 r /\ RB wr gS n (fun j=>Lp.eB m y (fun i=>A i j)) /\ Hid (∀j,j<r -> Lp.eB m y (fun i=>A i j)=c j) /\ Row wr w.heap.size 98 [.slice AC n cC, .slice AR m cR, .slice AD m cD] /\ Row wr (w.heap.size+1) 105 [.bool false, .slice none 0 0, .bool false, .slice none 0 0] /\ Below w.heap.size w wr)
    (fun iv _=>n-(intOf iv).toNat)
   case atStart=>exact⟨0,Nat.zero_le _,rfl,av.o,lH (fun i U=>absurd U oM),ay.o,aA.o,ao.o⟩
   case round=>
    clear av ay aA ao;obtain⟨r,hr,rfl,a2,he,a8,ab,a6⟩:=hrel;have SB:=lH a2;have HE:=lH he.o;have F:=lH a8;have C:=lH ab;have t:=lH a6;clear a2 he a8 ab a6;by_cases b1:((r:Nat):Int)<((n:Nat):Int)
    ·have aa:r<n:=oM
     obtain⟨ss,As,ls,cs,ts,Bs,ms,ds,aT,b7⟩:=SB.o.fO aa;have QS:=lH aT;have Vs:=lH b7;obtain⟨gW,rfl,b2⟩:=HC.o.at_ oM;obtain⟨sz,Az,lz,cz,tz,Bz,mz,dz,aU,b9⟩:=(b2.below t.o).fO aa;have QZ:=lH aU;have Vz:=lH b9;clear aT b7 aU b9 b2;obtain⟨zb,a3⟩:∃z:Bool,z=(jq (Lp.eB m y (fun i=>A i r)) (c r) !=0):=⟨_,rfl⟩
     go_wp2_with fail
     have M:=rG wr;have bg:=QS.o.lt;obtain⟨aE,aJ,aN,aQ⟩:=QS.o;have bh:=QZ.o.lt;obtain⟨aF,aK,aO,aR⟩:=QZ.o;have Y:=lH (kC aE (kC aJ (kC aN (kC aQ (kC aF (kC aK (kC aO (kN aR))))))));clear bg aE aJ aN aQ bh aF aK aO aR;refine rL Y.o (fun i=>false) ?_;have E:=Y.o _ M.o;refine tKs 0 41 E ?_;refine tKs 1 42 E ?_;refine tKs 2 43 E ?_;refine tKs 3 44 E ?_;refine tKs 4 45 E ?_;refine tKs 5 46 E ?_;refine tKs 6 47 E ?_;refine tKs 7 48 E ?_;refine rD 8 (fun K R=> ?_);go_simp;refine(sM _ _ (Lp.eB m y (fun i=>A i r)) (c r) _ (by exact Vs.o) (by exact Vz.o) ((au.o m (Nat.le_refl _) r aa).mono oM) ((bc.o r aa).mono (by have:=HK.o.2;omega))).mono ?_;rintro e w7 ⟨rfl,Z⟩;have Z:Below wr.heap.size wr w7:=bD Z;replace F:=rW F Z;replace C:=rW C Z;replace SB:=lH (SB.o.below Z);replace t:=bT t Z;replace M:=bT M Z;clear E Z;have E:=Y.o _ M.o;refine kH R E ?_;clear R K;refine jf (i:=9) (v:= .bool zb) (some 50) rfl (by rfl) kR kR kR kR (fun _ _ _ h=>h) (Or.inl ⟨by rfl,?_⟩) E ?_
     ·(intro w' bk;clear bk;go_simp;(first | done | (rw[a3];done) | (rw[a3];rfl) | (simp[a3];done)))
     simp only[Act.put,List.setIfInBounds_toArray,List.set_cons_zero,List.set_cons_succ];refine dN ?_ _;clear E Y M;by_cases h0:Lp.eB m y (fun i=>A i r)=c r
     ·have aj:zb=false:=by rw[a3];unfold jq;rw[if_neg (by rw[h0];exact Rat.lt_irrefl),if_pos h0];rfl
      clear a3;subst aj;have ba:=lH h0;clear h0;go_wp2_with fail
      go_roundw
      case rel=>exact⟨r+1,by omega,by go_num,SB.o,lH (fun j hj=>by by_cases e:j=r;subst e;exact ba.o;exact HE.o j oM),F.o,C.o,t.o⟩
      case measure=>exact mZ
     ·have aj:zb=true:=by rw[a3];unfold jq;rw[if_neg h0];split <;> rfl
      clear a3;subst aj;have HN:Hid (¬Lp.jc m n A y c):=lH (fun h=>h0 (h.sum r aa));clear h0;obtain⟨r0,f0,r1,f1,r2,f2,r3,f3⟩:=aF4 C.o;have rl:=C.o.lt;go_wp2_with fail
      refine bodyPost_ret (v:= .tuple #[.agg #[.bool false, .slice none 0 0, .bool false, .slice none 0 0], .bool false]) (by simp[results,results122,go_sem,r0,r1,r2,r3]) rfl ?_;exact⟨.inr ⟨HN.o,rfl⟩,lF t.o oM _ _ _ _⟩
    ·have b1:n=r:=oM
     subst b1;have bb:Hid (Lp.jc m n A y c):=lH ⟨HZ.o,HE.o⟩;have aw:=lH (HY.o.below t.o);have ap:=lH (HD.o.below t.o);have p2:=aI 2 F;have pl:=F.o.lt;go_wp2_with fail
     clear p2 pl;refine(qK _ _ m m y bq _ (by exact aw.o) (by exact ap.o) (Nat.le_refl _) (fun i U=>(ae.o i U).mono (by have:=HK.o.2;omega)) (fun i U=>(ar.o i U).mono (by have:=HK.o.2;omega)) (fun k V=>(jy ae.o ar.o k V).mono (by have:=HK.o.1;have:=Nat.mul_le_mul_right (O+O+1) V;omega))).mono ?_;rintro e w8 ⟨vd,rfl,am,hb⟩;obtain⟨sd,Ad,ld,cd,td,Bd,md,dd,rfl⟩:=am.shape;have Vd:=lH am;replace C:=rW C hb;replace t:=bT t hb;clear hb am aw ap;obtain⟨r0,f0,r1,f1,r2,f2,r3,f3⟩:=aF4 C.o;have rl:=C.o.lt;go_wp2_with fail
     clear rl r0 f0 r1 f1 r2 f2 r3 f3;have hg:World.grownBy w8 ((((w8.setCell ⟨w.heap.size+1,0,none⟩ (.bool sd)).setCell ⟨w.heap.size+1,1,none⟩ (.slice Ad ld cd)).setCell ⟨w.heap.size+1,2,none⟩ (.bool td)).setCell ⟨w.heap.size+1,3,none⟩ (.slice Bd md dd)) (some (w.heap.size+1)):=il _ _ _ _ _ _ _ _ _ _;have RE:Row ((((w8.setCell ⟨w.heap.size+1,0,none⟩ (.bool sd)).setCell ⟨w.heap.size+1,1,none⟩ (.slice Ad ld cd)).setCell ⟨w.heap.size+1,2,none⟩ (.bool td)).setCell ⟨w.heap.size+1,3,none⟩ (.slice Bd md dd)) (w.heap.size+1) 105 [.bool sd, .slice Ad ld cd, .bool td, .slice Bd md dd]:=C.o.jh;have VN:=Vd.o.other hg C.o dC;have HN:=t.o.grown hg t.o.size (by first | (simp;done) | (simp;omega));obtain⟨wE,br⟩:=eX (((((w8.setCell ⟨w.heap.size+1,0,none⟩ (.bool sd)).setCell ⟨w.heap.size+1,1,none⟩ (.slice Ad ld cd)).setCell ⟨w.heap.size+1,2,none⟩ (.bool td)).setCell ⟨w.heap.size+1,3,none⟩ (.slice Bd md dd)));rw[<- br] at RE VN HN ⊢;have k0:=RE.at_ 0 rfl;have k1:=RE.at_ 1 rfl;have k2:=RE.at_ 2 rfl;have k3:=RE.at_ 3 rfl;refine bodyPost_ret (v:= .tuple #[.agg #[.bool sd, .slice Ad ld cd, .bool td, .slice Bd md dd], .bool true]) (by simp[results,results122,go_sem,k0,k1,k2,k3]) rfl ?_;exact⟨.inl ⟨bb.o,_,rfl,VN⟩,HN⟩
end
end Go.Proofs.YtdefghfjhgmpfaaGreatDoor
