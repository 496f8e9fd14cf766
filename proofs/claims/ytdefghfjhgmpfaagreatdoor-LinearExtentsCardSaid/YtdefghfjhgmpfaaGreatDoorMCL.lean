/- Parts of this proof: LExt. -/
import Derived.Test.YtdefghfjhgmpfaaGreatDoorMAE
import Derived.Test.YtdefghfjhgmpfaaGreatDoorMBB
import Derived.Test.YtdefghfjhgmpfaaGreatDoorMBG
import Derived.Test.YtdefghfjhgmpfaaGreatDoorMAV
import Derived.Test.YtdefghfjhgmpfaaGreatDoorMAY
import Derived.Test.YtdefghfjhgmpfaaGreatDoorMAZ
import Derived.Test.YtdefghfjhgmpfaaGreatDoorMBC
namespace Go.Proofs.YtdefghfjhgmpfaaGreatDoor
open Go.Proofs.Tryz
open Go.RowKit
open Lp (RL upd eu)
theorem nz.kinds{w:World}{m n K:Nat}{A:Nat -> Nat -> Rat}{b c:Nat -> Rat}{v:Value}(h:nz w m n K A b c v):
  ∃ (kk:Int) (s:Bool) (A':Option Addr) (l c':Nat) (t:Bool) (B:Option Addr) (d f:Nat) (P:Option Addr) (U r:Nat) (Y:Option Addr) (W C:Nat) (R:Option Addr) (V cr:Nat) (q:Rat) (x y z:Nat -> Rat),
   v= .agg #[.int .i64 kk, .bool s, .slice A' l c', .bool t, .slice B d f, .slice P U r, .slice Y W C, .slice R V cr] /\ (1 <= kk /\ kk <= 3) /\ (kk=1 -> eO w (.agg #[.bool s, .slice A' l c', .bool t, .slice B d f]) q /\ RL K q) /\ kI m n kk A b c q x y z:=by
 cases h with
 | opt s A' l c' t B d f P r Y C q x y h1 E G F M O X T=>exact⟨1,s,A',l,c',t,B,d,f,P,n,r,Y,m,C,none,0,0,q,x,y,x,h1,⟨by decide,by decide⟩,fun _=>⟨E,M⟩,⟨fun _=>T,fun e=>absurd e dC,fun e=>absurd e dC⟩⟩
 | inf Y C y h1 E G F=>exact⟨2,false,none,0,0,false,none,0,0,none,0,0,Y,m,C,none,0,0,0,y,y,y,h1,⟨by decide,by decide⟩,fun e=>absurd e dC,⟨fun e=>absurd e dC,fun _=>F,fun e=>absurd e dC⟩⟩
 | unb P r R cr x d h1 E G F M O=>exact⟨3,false,none,0,0,false,none,0,0,P,n,r,none,0,0,R,n,cr,0,x,x,d,h1,⟨by decide,by decide⟩,fun e=>absurd e dC,⟨fun e=>absurd e dC,fun e=>absurd e dC,fun _=>O⟩⟩
def KY(kk:Int)(s:ByteArray):ByteArray:=if kk=1 then s else⟨#[]⟩
def KZ(kk:Int):Int:=if kk=1 then 1 else 2
def L8(n m:Nat)(k:Nat -> Nat)(o:Nat -> ByteArray)(t:Nat -> Nat -> ByteArray)(b:Nat -> ByteArray)(s1 s2:ByteArray)(e1 e2 z:Int):Prop:=
 (fD n m k o t b≠0 /\ s1=⟨#[]⟩ /\ s2=⟨#[]⟩ /\ e1=0 /\ e2=0 /\ z=(fD n m k o t b:Nat)) \/
 (fD n m k o t b=0 /\ ∃A bq c,jk n m o t b A bq c /\ ∃ (kk:Int) (q:Rat) (x y d:Nat -> Rat),(1 <= kk /\ kk <= 3) /\ kI m n kk A bq c q x y d /\
  ((kk=2 /\ s1=⟨#[]⟩ /\ s2=⟨#[]⟩ /\ e1=0 /\ e2=0 /\ z=21) \/
   (kk≠2 /\ ∃ (k2:Int) (q2:Rat) (x2 y2 d2:Nat -> Rat),(1 <= k2 /\ k2 <= 3) /\ kI m n k2 A bq (fun j=> -(c j)) q2 x2 y2 d2 /\
    s1=KY k2 (eF (-q2)) /\ s2=KY kk (eF q) /\ e1=KZ k2 /\ e2=KZ kk /\ z=0)))
def La(n m:Nat)(k:Nat -> Nat)(o:Nat -> ByteArray)(t:Nat -> Nat -> ByteArray)(b:Nat -> ByteArray)(e:Ending):Prop:=
 ∃s1 s2 e1 e2 z,e= .returned (.tuple #[.agg #[.string s1, .string s2, .int .i64 e1, .int .i64 e2], .int .i64 z]) /\ L8 n m k o t b s1 s2 e1 e2 z
set_option maxRecDepth 100000 in
set_option maxHeartbeats 12800000 in
theorem L6(AO AR:Option Addr)(n m cO cR:Nat)(k:Nat -> Nat)(o:Nat -> ByteArray)(t:Nat -> Nat -> ByteArray)(b:Nat -> ByteArray)(K:Nat)(w:World)(ho:TS w (.slice AO n cO) n o)(hr:fZ w (.slice AR m cR) m k t b)(hn:n <= 1000000000)(hm:m <= 1000000000)
  (bx:0<K) (bz:K <= 65536) (hK:Lp.wide m n K+1 <= 1000000) (bE:∀j,j<n -> (o j).size <= K) (bF:∀i,i<m -> ∀j,j<k i -> (t i j).size <= K) (bC:∀i,i<m -> (b i).size <= K) (ht:Tab w) (G:iG w):
  Calls prog 28 #[.slice AO n cO, .slice AR m cR] w fun e w'=>La n m k o t b e /\ Below w.heap.size w w':=by
 have bU:=lH (wm AO AR n m cO cR k o t b);have HO:=lH ho;have HR:=lH hr;have HL:=lH (And.intro bE (And.intro bF bC));have HK:=lH (And.intro bx (And.intro bz hK));have a9:=lH (And.intro hn hm);have bR:=lH G;have bn:=lH ht;clear ho hr G bE bF bC bx bz hK ht hn hm;obtain⟨W,hW,M,E⟩:=eN1 w [.string ⟨#[]⟩, .string ⟨#[]⟩, .int .i64 0, .int .i64 0] 45;go_enter func28,ntmps28;go_wp2_with fail
 rw[<- hW];clear hW;refine(bU.o _ (HO.o.below E.o) (HR.o.below E.o) a9.o.1 a9.o.2 (fun j hj=>Nat.le_trans (HL.o.1 j hj) HK.o.2.1) (fun i hi j hj=>Nat.le_trans (HL.o.2.1 i hi j hj) HK.o.2.1) (fun i hi=>Nat.le_trans (HL.o.2.2 i hi) HK.o.2.1) (bR.o.below E.o)).mono ?_;rintro e w1 ⟨hr,O⟩;replace M:=rW M O;replace E:=bT E O;clear O
 rcases hr with ⟨h0,rfl⟩ | ⟨h0,AC,AS,AD,cC,cS,cD,A,bq,c,rfl,hc,hA,hD,hP,_⟩
 ·obtain⟨cc,aX⟩:=eX (fD n m k o t b);rw[<- aX] at h0 ⊢;have ce:((cc:Nat):Int)≠0:=oM
  have cF:(((cc:Nat):Int) !=0)=true:=by simpa using ce
  have cG:(cc !=0)=true:=by simpa using h0
  have bP:=lH h0;have bi:=lH aX;clear h0 aX;obtain⟨U,a3⟩:=eX (w1.alloc (.cells #[.slice none 0 0, .slice none 0 0, .slice none 0 0] 98));obtain⟨gQ,ac⟩:=eX (w1.heap.size);have a5:Below w1.heap.size w1 U:=by rw[a3];exact eD _ _
  have QB:Hid (Row U gQ 98 [.slice none 0 0, .slice none 0 0, .slice none 0 0]):=lH (by rw[a3,ac];exact eP _ _);replace M:=rW M a5;replace E:=bT E a5
  go_upto_region 3 with (fail)
  rw[<- a3];clear a3 a5 ac QB;obtain⟨r0,f0,r1,Y,r2,Z,r3,f3⟩:=aF4 M.o;have rl:=M.o.lt;go_wp2_with fail
  clear rl r0 f0 r1 Y r2 Z r3 f3;have G:=il U w.heap.size 0 1 2 3 (.string ⟨#[]⟩) (.string ⟨#[]⟩) (.int .i64 0) (.int .i64 0);have R:=(((M.o.set 0 (.string ⟨#[]⟩)).set 1 (.string ⟨#[]⟩)).set 2 (.int .i64 0)).set 3 (.int .i64 0);have a2:=E.o.grown G E.o.size (by first | (simp;done) | (simp;omega));obtain⟨wE,af⟩:=eX (((((U.setCell ⟨w.heap.size,0,none⟩ (.string ⟨#[]⟩)).setCell ⟨w.heap.size,1,none⟩ (.string ⟨#[]⟩)).setCell ⟨w.heap.size,2,none⟩ (.int .i64 0)).setCell ⟨w.heap.size,3,none⟩ (.int .i64 0)));rw[<- af] at R a2 ⊢;have k0:=R.at_ 0 rfl;have k1:=R.at_ 1 rfl;have k2:=R.at_ 2 rfl;have k3:=R.at_ 3 rfl;refine bodyPost_ret (v:= .tuple #[.agg #[.string ⟨#[]⟩, .string ⟨#[]⟩, .int .i64 0, .int .i64 0], .int .i64 (cc:Nat)]) (by simp[results,results28,go_sem,k0,k1,k2,k3]) rfl ?_;exact⟨⟨_,_,_,_,_,rfl, .inl ⟨by rw[<- bi.o];exact bP.o,rfl,rfl,rfl,rfl,by rw[<- bi.o]⟩⟩,a2⟩
 ·have au:=lH h0;have av:=lH hP;have HC:=lH hc;have HA:=lH hA;have HD:=lH hD;clear h0 hP hc hA hD;have ag:=lH (pO au.o av.o HL.o.1 HL.o.2.1 HL.o.2.2);obtain⟨U,a3⟩:=eX (w1.alloc (.cells #[.slice AC n cC, .slice AS m cS, .slice AD m cD] 98));obtain⟨gQ,ac⟩:=eX (w1.heap.size);have a5:Below w1.heap.size w1 U:=by rw[a3];exact eD _ _
  have QB:Hid (Row U gQ 98 [.slice AC n cC, .slice AS m cS, .slice AD m cD]):=lH (by rw[a3,ac];exact eP _ _);replace M:=rW M a5;replace HC:=lH (HC.o.below a5);replace HA:=lH (HA.o.below a5);replace HD:=lH (HD.o.below a5);replace E:=bT E a5;clear a5
  skip
  have bp:=QB;have bg:=E;obtain⟨w3,aq⟩:=eX (U.alloc (.cells #[.string ⟨#[]⟩, .string ⟨#[]⟩, .int .i64 2, .int .i64 2] 45));obtain⟨gI,aF⟩:=eX (U.heap.size);have aC:Below U.heap.size U w3:=by rw[aq];exact eD _ _
  have r:Hid (Row w3 gI 45 [.string ⟨#[]⟩, .string ⟨#[]⟩, .int .i64 2, .int .i64 2]):=lH (by rw[aq,aF];exact eP _ _);replace QB:=rW QB aC;replace E:=bT E aC;clear E;have E:=bg;clear bg;have h:=lH aC;have aS:Hid (U.heap.size <= gI):=lH (by rw[aF];exact Nat.le_refl _);clear aC;obtain⟨b2,b5,b8⟩:=aT3 QB.o;have bd:=QB.o.lt;rw[aq,a3] at b2 b5 b8 bd;rw[ac] at b2 b5 b8 bd;go_wp2_with fail
  have bH:w1.heap.size+1=gI:=by rw[aF,a3];simp
  rw[<- a3, <- aq,bH, <- ac];clear a3 aq ac aF bH QB b2 b5 b8 bd;have QB:=bp;clear bp;refine(Cr AC AS AD n m cC cS cD K A bq c _ (HC.o.below h.o) (by exact ag.o.1) (HA.o.below h.o) (HD.o.below h.o) a9.o.1 a9.o.2 ag.o.2.1 ag.o.2.2 HK.o.1 (by have:=HK.o.2.2;omega)).mono ?_;rintro e w4 ⟨v,rfl,hv,O⟩;replace r:=rW r O;replace h:=lH (h.o.trans (O.mono h.o.size));clear O;obtain⟨F,s1,A1,l1,c1,t1,B1,d1,Y,P1,aL,ax,Y1,aP,aA,R1,aN,ay,X,x1,y1,z1,rfl,an,ao,ap⟩:=hv.kinds;have aT:=lH an;have bl:=lH ao;have aw:=lH ap;clear hv an ao ap;obtain⟨w5,a8⟩:=eX (w4.alloc (.cells #[.int .i64 F, .bool s1, .slice A1 l1 c1, .bool t1, .slice B1 d1 Y, .slice P1 aL ax, .slice Y1 aP aA, .slice R1 aN ay] 107));obtain⟨T,ad⟩:=eX (w4.heap.size);have aD:Below w4.heap.size w4 w5:=by rw[a8];exact eD _ _
  have C:Hid (Row w5 T 107 [.int .i64 F, .bool s1, .slice A1 l1 c1, .bool t1, .slice B1 d1 Y, .slice P1 aL ax, .slice Y1 aP aA, .slice R1 aN ay]):=lH (by rw[a8,ad];exact eP _ _);have bS:Hid (U.heap.size <= T):=lH (by rw[ad];exact h.o.size);replace r:=rW r aD;replace h:=lH (h.o.trans (aD.mono h.o.size));have bh:=lH aD;clear aD;by_cases ah:F=2
  ·have cE:=lH (aw.o);have hd:(F==2)=true:=by simpa using ah
   have ar:=lH ah;have a0:=aI 0 C;have a1:=C.o.lt;rw[a8] at a0 a1;rw[ad] at a0 a1;clear ah
   go_upto_region 7 with (fail)
   rw[<- a8];clear a8 ad hd a0 a1;replace M:=lH (M.o.below h.o M.o.lt);replace E:=lH (E.o.trans (h.o.mono E.o.size));obtain⟨r0,f0,r1,Y,r2,Z,r3,f3⟩:=aF4 M.o;have rl:=M.o.lt;go_wp2_with fail
   clear rl r0 f0 r1 Y r2 Z r3 f3;have G:=il w5 w.heap.size 0 1 2 3 (.string ⟨#[]⟩) (.string ⟨#[]⟩) (.int .i64 0) (.int .i64 0);have R:=(((M.o.set 0 (.string ⟨#[]⟩)).set 1 (.string ⟨#[]⟩)).set 2 (.int .i64 0)).set 3 (.int .i64 0);have a2:=E.o.grown G E.o.size (by first | (simp;done) | (simp;omega));obtain⟨wE,af⟩:=eX (((((w5.setCell ⟨w.heap.size,0,none⟩ (.string ⟨#[]⟩)).setCell ⟨w.heap.size,1,none⟩ (.string ⟨#[]⟩)).setCell ⟨w.heap.size,2,none⟩ (.int .i64 0)).setCell ⟨w.heap.size,3,none⟩ (.int .i64 0)));rw[<- af] at R a2 ⊢;have k0:=R.at_ 0 rfl;have k1:=R.at_ 1 rfl;have k2:=R.at_ 2 rfl;have k3:=R.at_ 3 rfl;refine bodyPost_ret (v:= .tuple #[.agg #[.string ⟨#[]⟩, .string ⟨#[]⟩, .int .i64 0, .int .i64 0], .int .i64 21]) (by simp[results,results28,go_sem,k0,k1,k2,k3]) rfl ?_;exact⟨⟨_,_,_,_,_,rfl, .inr ⟨au.o,A,bq,c,av.o,F,X,x1,y1,z1,aT.o,aw.o, .inl ⟨ar.o,rfl,rfl,rfl,rfl,rfl⟩⟩⟩,a2⟩
  ·have hd:(F==2)=false:=by simpa using ah
   have ar:=lH ah;have a0:=aI 0 C;have a1:=C.o.lt;rw[a8] at a0 a1;rw[ad] at a0 a1;clear ah
   go_upto_if 33 with (fail)
   rw[<- a8, <- ad];clear a8 ad hd a0 a1
   go_cut [7] (fun ev wx=>ev= .int .i64 0 /\ Hid (Row wx gI 45 [.string ⟨#[]⟩, .string (KY F (eF X)), .int .i64 2, .int .i64 (KZ F)]) /\ Hid (Row wx T 107 [.int .i64 F, .bool s1, .slice A1 l1 c1, .bool t1, .slice B1 d1 Y, .slice P1 aL ax, .slice Y1 aP aA, .slice R1 aN ay]) /\ Hid (Below U.heap.size U wx))
   case first=>
    by_cases V:F=1
    ·have hd:(F==1)=true:=by simpa using V
     have bW:Hid (eO w5 (.agg #[.bool s1, .slice A1 l1 c1, .bool t1, .slice B1 d1 Y]) X):=lH ((bl.o V).1.below (show Below w4.heap.size w4 w5 from bh.o));have aV:=lH ((bl.o V).2);have aj:=lH V;clear V;have cB:=lH (aS.o);obtain⟨a0,b3,b6,b9,bb⟩:=aT5 C.o;have a1:=C.o.lt;go_wp2_with fail
     clear hd a0 b3 b6 b9 bb a1;refine(tQ _ X (Lp.wide m n K+1) _ (by exact bW.o) aV.o HK.o.2.2 (bn.o.below (E.o.trans (h.o.mono E.o.size)))).mono ?_;rintro e w6 ⟨rfl,O⟩;replace r:=rW r O;replace C:=rW C O;replace h:=lH (h.o.trans (O.mono h.o.size));clear O;have k1:=aI 1 r;have k3:=aI 3 r;have Y:=r.o.free 1;have f3:=r.o.free 3;have kl:=r.o.lt;go_wp2_with fail
     clear kl k1 Y k3 f3;have G:World.grownBy w6 ((w6.setCell ⟨gI,1,none⟩ (.string (eF X))).setCell ⟨gI,3,none⟩ (.int .i64 1)) (some gI):=grownBy_trans (grownBy_set _ _ _ _) (grownBy_set _ _ _ _);have am:=(r.o.set 1 (.string (eF X))).set 3 (.int .i64 1);have c0:=C.o.other G (fun e=>by subst e;exact absurd (C.o.ty r.o) dC);have ai:=h.o.grown G h.o.size (by have:=aS.o;first | (simp;done) | (simp;omega))
     go_meet
     exact⟨rfl,lH (by unfold KY KZ;rw[if_pos aj.o,if_pos aj.o];exact am),lH c0,lH ai⟩
    ·have hd:(F==1)=false:=by simpa using V
     have aj:=lH V;clear V;have a0:=aI 0 C;have a1:=C.o.lt;go_wp2_with fail
     clear hd a0 a1
     go_meet
     exact⟨rfl,lH (by unfold KY KZ;rw[if_neg aj.o,if_neg aj.o];exact r.o),C,h⟩
   case rest=>
    clear r C h bh;obtain⟨rfl,r,C,h⟩:=hcut;have aW:=lH (QB.o.below h.o QB.o.lt);obtain⟨ci,ck,cm⟩:=aT3 aW.o;have cq:=aW.o.lt;obtain⟨w8,aJ⟩:=eX (wc.alloc (.cells #[.slice none 0 0, .slice AS m cS, .slice AD m cD] 98));obtain⟨gB,aG⟩:=eX (wc.heap.size);have aE:Below wc.heap.size wc w8:=by rw[aJ];exact eD _ _
    have BB:Hid (Row w8 gB 98 [.slice none 0 0, .slice AS m cS, .slice AD m cD]):=lH (by rw[aJ,aG];exact eP _ _);have bQ:Hid (U.heap.size <= gB):=lH (by rw[aG];exact h.o.size);replace r:=rW r aE;replace C:=rW C aE;replace h:=lH (h.o.trans (aE.mono h.o.size));clear aE
    skip
    go_wp2_with fail
    rw[<- aJ, <- aG];clear aJ aG ci ck cm cq
    go_loopw [47] (fun iv wr=>∃ (k:Nat) (Ap:Option Addr) (cp:Nat),k <= n /\ iv= .int .i64 k /\ Hid (gH wr (.slice Ap k cp) k (fun j=> -(c j))) /\ Hid (∀g,(Value.slice Ap k cp).ownBlock=some g -> U.heap.size <= g) /\ Hid (Row wr gB 98 [.slice Ap k cp, .slice AS m cS, .slice AD m cD]) /\ Hid (Row wr gI 45 [.string ⟨#[]⟩, .string (KY F (eF X)), .int .i64 2, .int .i64 (KZ F)]) /\ Hid (Row wr T 107 [.int .i64 F, .bool s1, .slice A1 l1 c1, .bool t1, .slice B1 d1 Y, .slice P1 aL ax, .slice Y1 aP aA, .slice R1 aN ay]) /\ Hid (Below U.heap.size U wr))
     (fun iv _=>n-(intOf iv).toNat)
    case atStart=>exact⟨0,none,0,Nat.zero_le _,rfl,lH (gH.nil _ _),lH (fun g G=>by simp[Value.ownBlock] at G),BB,r,C,h⟩
    case round=>
     clear BB r C h aW;obtain⟨k,Ap,cp,hk,rfl,OW,LO,BB,r,C,h⟩:=hrel;by_cases cI:((k:Nat):Int)<(n:Nat)
     ·have cg:k<n:=oM
      have cH:((k:Nat):Int) <= 1000000000:=by have:=a9.o.1;omega
      obtain⟨gC,rfl,bG⟩:=HC.o.at_ oM;have aZ:=(bG.take (Nat.le_refl _)).below h.o;clear bG;have cf:=aZ.lt;obtain⟨sx,Ax,lx,cx,tx,Bx,mx,dx,bA,bI⟩:=(aZ).fO cg;have Qx:=lH bA;have Vx:=lH bI;clear bA bI;obtain⟨ct,cu,cw,cz⟩:=Qx.o;have cA:=Qx.o.lt;clear Qx aZ cf;obtain⟨w9,aK⟩:=eX (wr.alloc (.cells #[.bool sx, .slice Ax lx cx, .bool tx, .slice Bx mx dx] 105));obtain⟨gX,aY⟩:=eX (wr.heap.size);have ab:Below wr.heap.size wr w9:=by rw[aK];exact eD _ _
      have XC:Hid (Row w9 gX 105 [.bool sx, .slice Ax lx cx, .bool tx, .slice Bx mx dx]):=lH (by rw[aK,aY];exact eP _ _);have bY:Hid (∀g,(Value.slice Ap k cp).ownBlock=some g -> g≠gX):=lH (fun g e=>by have:=OW.o.lt e;omega);replace BB:=rW BB ab;replace r:=rW r ab;replace C:=rW C ab;replace OW:=lH (OW.o.below ab);replace Vx:=lH (Vx.o.below ab);replace h:=lH (h.o.trans (ab.mono h.o.size));clear ab
      go_upto_region 14 with (fail)
      rw[<- aK, <- aY];clear aK aY ct cu cw cz cA;have E:=h;go_wp2_with fail
      have aa:=rG w9;have cb:=BB.o.lt;have br:=aI 0 BB;have cd:=XC.o.lt;obtain⟨bs,bu,bv,bw⟩:=aT4 XC.o;have KS:=lH (kC br (kC bs (kC bu (kC bv (kN bw)))));clear cb br cd bs bu bv bw;refine rL KS.o (fun i=>decide (7 <= i)) ?_;have hh:=KS.o _ aa.o;refine tKs 0 51 hh ?_;refine tKs 1 52 hh ?_;refine tKs 2 53 hh ?_;refine rD 3 (fun K hK=> ?_);go_simp;refine(nU _ (c k) _ (by exact Vx.o)).mono ?_;rintro e bK ⟨vy,rfl,hy,a4⟩;have a4:Below w9.heap.size w9 bK:=bD a4;obtain⟨sy,Ay,ly,cy,ty,By,my,dy,rfl⟩:=hy.shape;have Vy:=lH hy;clear hy;replace BB:=rW BB a4;replace XC:=rW XC a4;replace r:=rW r a4;replace C:=rW C a4;replace OW:=lH (OW.o.below a4);replace E:=bT E a4;replace aa:=bT aa a4;clear hh a4;have hh:=KS.o _ aa.o;refine kH hK hh ?_;clear hK K;refine rD 4 (fun K hK=> ?_);go_simp;refine hK.out _ _ (fun _=>KS.o _ (aa.o.trans ((eD _ _).mono aa.o.size))) ?_;clear hK K;refine jL 5 kR rfl (by rfl) (fun K hK=> ?_);refine zm _ (.tmp 52) (.tmp 55) rfl (.slice Ap k cp) k _ rfl OW.o sy Ay ly cy ty By my dy Vy.o rfl oM ?_;intro va bL ho ae;obtain⟨aR,a7,rfl,_,_⟩:=ho.shape;have aH:∀ {g:Nat} {e:TypeId} {cs:List Value},Row bK g e cs -> e≠105 -> (Value.slice Ap k cp).ownBlock≠some g:=fun hr he e=>by obtain⟨_,hx⟩:=OW.o.row e;exact he (hr.ty hx)
      replace BB:=lH (BB.o.turned ae (aH BB.o dC));replace r:=lH (r.o.turned ae (aH r.o dC));replace C:=lH (C.o.turned ae (aH C.o dC));replace XC:=lH (XC.o.turned ae (fun e=>bY.o _ e rfl));have bB:=ae.below (B:=U.heap.size) E.o.size LO.o;have bZ:=lH (ae.base E.o.size LO.o);replace E:=lH (E.o.trans bB);have bo:=lH ho;clear bB ae ho LO OW aH;clear hh;have hh:=And.intro (BB.o.at_ 0 rfl) (And.intro (XC.o.at_ 0 rfl) (And.intro (XC.o.at_ 1 rfl) (And.intro (XC.o.at_ 2 rfl) (XC.o.at_ 3 rfl))));refine kH hK hh ?_;clear hK K;refine tKs 6 57 hh ?_;have cn:=aI 0 BB;have fT:=BB.o.free 0;have lT:=BB.o.lt;refine rD 7 (fun K hK=> ?_);go_simp;refine kL hK ?_;clear hK K;refine dN ?_ _;clear hh KS aa;clear cn fT lT;have G:World.grownBy bL (bL.setCell ⟨gB,0,none⟩ (.slice aR (k+1) a7)) (some gB):=grownBy_set _ _ _ _;have BN:=BB.o.set 0 (.slice aR (k+1) a7);have XN:=r.o.other G (fun e=>by subst e;exact absurd (r.o.ty BB.o) dC);have ON:=C.o.other G (fun e=>by subst e;exact absurd (C.o.ty BB.o) dC);have WN:=bo.o.other G BB.o dC (fun e=>by obtain⟨_,hx⟩:=bo.o.row e;exact absurd (BB.o.ty hx) dC);have HN:=E.o.grown G E.o.size (by have:=bQ.o;first | (simp;done) | (simp;omega));go_wp2_with fail
      go_roundw
      case rel=>exact⟨k+1,aR,a7,by omega,by go_num,lH WN,bZ,lH BN,lH XN,lH ON,lH HN⟩
      case measure=>exact mZ
     ·obtain rfl:n=k:=oM
      obtain⟨ch,cj,cl⟩:=aT3 BB.o;have co:=BB.o.lt;go_wp2_with fail
      clear ch cj cl co;have bj:Hid (eZ wr (.slice Ap n cp) n (fun j=> -(c j))):=lH OW.o.ky;clear OW LO;refine(Cr Ap AS AD n m cp cS cD K A bq (fun j=> -(c j)) _ bj.o (fun j hj=>(ag.o.1 j hj).neg) (HA.o.below h.o) (HD.o.below h.o) a9.o.1 a9.o.2 ag.o.2.1 ag.o.2.2 HK.o.1 (by have:=HK.o.2.2;omega)).mono ?_;rintro e be ⟨v,rfl,hv,O⟩;replace r:=rW r O;replace C:=rW C O;replace h:=lH (h.o.trans (O.mono h.o.size));clear O;obtain⟨a6,s2,A2,l2,c2,t2,B2,d2,Z,P2,aM,a7,Y2,aQ,aB,R2,aO,az,q2,x2,y2,z2,rfl,an,ao,ap⟩:=hv.kinds;have bk:=lH an;have aU:=lH ao;have bm:=lH ap;clear hv an ao ap;clear bj BB;obtain⟨k0,k1,k2,k3,k4,k5,k6,k7⟩:=aT8 C.o;have c3:=C.o.free 0;have c4:=C.o.free 1;have c5:=C.o.free 2;have c6:=C.o.free 3;have c7:=C.o.free 4;have c8:=C.o.free 5;have c9:=C.o.free 6;have ca:=C.o.free 7;have kl:=C.o.lt;have G:=iM be T (.int .i64 a6) (.bool s2) (.slice A2 l2 c2) (.bool t2) (.slice B2 d2 Z) (.slice P2 aM a7) (.slice Y2 aQ aB) (.slice R2 aO az);have BN:=C.o.iL (v0:= .int .i64 a6) (v1:= .bool s2) (v2:= .slice A2 l2 c2) (v3:= .bool t2) (v4:= .slice B2 d2 Z) (v5:= .slice P2 aM a7) (v6:= .slice Y2 aQ aB) (v7:= .slice R2 aO az);have XN:=r.o.other G (fun e=>by subst e;exact absurd (r.o.ty C.o) dC);have HN:=h.o.grown G h.o.size (by have:=bS.o;first | (simp;done) | (simp;omega))
      skip
      have al:Hid (a6=1 -> eO ((((((((be.setCell ⟨T,0,none⟩ (.int .i64 a6)).setCell ⟨T,1,none⟩ (.bool s2)).setCell ⟨T,2,none⟩ (.slice A2 l2 c2)).setCell ⟨T,3,none⟩ (.bool t2)).setCell ⟨T,4,none⟩ (.slice B2 d2 Z)).setCell ⟨T,5,none⟩ (.slice P2 aM a7)).setCell ⟨T,6,none⟩ (.slice Y2 aQ aB)).setCell ⟨T,7,none⟩ (.slice R2 aO az)) (.agg #[.bool s2, .slice A2 l2 c2, .bool t2, .slice B2 d2 Z]) q2 /\ RL (Lp.wide m n K+1) q2):=lH (fun e=>⟨(aU.o e).1.other G C.o dC,(aU.o e).2⟩);obtain⟨bM,b0⟩:=eX (((((((((be.setCell ⟨T,0,none⟩ (.int .i64 a6)).setCell ⟨T,1,none⟩ (.bool s2)).setCell ⟨T,2,none⟩ (.slice A2 l2 c2)).setCell ⟨T,3,none⟩ (.bool t2)).setCell ⟨T,4,none⟩ (.slice B2 d2 Z)).setCell ⟨T,5,none⟩ (.slice P2 aM a7)).setCell ⟨T,6,none⟩ (.slice Y2 aQ aB)).setCell ⟨T,7,none⟩ (.slice R2 aO az)));rw[<- b0] at BN XN HN al
      go_upto_region 17 with (fail)
      rw[<- b0];clear b0 kl k0 c3 k1 c4 k2 c5 k3 c6 k4 c7 k5 c8 k6 c9 k7 ca G;replace C:=lH BN;replace r:=lH XN;replace h:=lH HN;clear BN XN HN aU;by_cases V:a6=1
      ·have hd:(a6==1)=true:=by simpa using V
       have bX:=lH (al.o V).1;have aV:=lH (al.o V).2;have ak:=lH V;clear V al;obtain⟨a0,b3,b6,b9,bb⟩:=aT5 C.o;have a1:=C.o.lt;go_wp2_with fail
       clear hd a0 b3 b6 b9 bb a1;refine(nU _ q2 _ (by exact bX.o)).mono ?_;rintro e cJ ⟨v,rfl,hv,O⟩;obtain⟨sv,Av,lv,cv,tv,Bv,mv,dv,rfl⟩:=hv.shape;have VV:=lH hv;clear hv;replace r:=rW r O;replace h:=lH (h.o.trans (O.mono h.o.size));clear O;go_wp2_with fail
       refine(tQ _ (-q2) (Lp.wide m n K+1) _ (by exact VV.o) aV.o.neg HK.o.2.2 (bn.o.below (E.o.trans (h.o.mono E.o.size)))).mono ?_;rintro e bf ⟨rfl,O⟩;replace r:=rW r O;replace h:=lH (h.o.trans (O.mono h.o.size));clear O;have k0:=aI 0 r;have k2:=aI 2 r;have f0:=r.o.free 0;have Z:=r.o.free 2;have kl:=r.o.lt
       go_upto_region 19 with (fail)
       clear kl k0 f0 k2 Z;have G:World.grownBy bf ((bf.setCell ⟨gI,0,none⟩ (.string (eF (-q2)))).setCell ⟨gI,2,none⟩ (.int .i64 1)) (some gI):=grownBy_trans (grownBy_set _ _ _ _) (grownBy_set _ _ _ _);have am:=(r.o.set 0 (.string (eF (-q2)))).set 2 (.int .i64 1);have ai:=h.o.grown G h.o.size (by have:=aS.o;first | (simp;done) | (simp;omega));obtain⟨bO,bJ⟩:=eX (((bf.setCell ⟨gI,0,none⟩ (.string (eF (-q2)))).setCell ⟨gI,2,none⟩ (.int .i64 1)));rw[<- bJ] at am ai ⊢;clear bJ G;replace r:=lH am;replace h:=lH ai;clear am ai;replace M:=lH (M.o.below h.o M.o.lt);replace E:=lH (E.o.trans (h.o.mono E.o.size));obtain⟨b1,b4,b7,ba⟩:=aT4 r.o;have bc:=r.o.lt;obtain⟨r0,f0,r1,Y,r2,Z,r3,f3⟩:=aF4 M.o;have rl:=M.o.lt;go_wp2_with fail
       clear rl r0 f0 r1 Y r2 Z r3 f3 b1 b4 b7 ba bc;have G:=il bO w.heap.size 0 1 2 3 (.string (eF (-q2))) (.string (KY F (eF X))) (.int .i64 1) (.int .i64 (KZ F));have R:=(((M.o.set 0 (.string (eF (-q2)))).set 1 (.string (KY F (eF X)))).set 2 (.int .i64 1)).set 3 (.int .i64 (KZ F));have a2:=E.o.grown G E.o.size (by first | (simp;done) | (simp;omega));obtain⟨wE,af⟩:=eX (((((bO.setCell ⟨w.heap.size,0,none⟩ (.string (eF (-q2)))).setCell ⟨w.heap.size,1,none⟩ (.string (KY F (eF X)))).setCell ⟨w.heap.size,2,none⟩ (.int .i64 1)).setCell ⟨w.heap.size,3,none⟩ (.int .i64 (KZ F))));rw[<- af] at R a2 ⊢;have k0:=R.at_ 0 rfl;have k1:=R.at_ 1 rfl;have k2:=R.at_ 2 rfl;have k3:=R.at_ 3 rfl;refine bodyPost_ret (v:= .tuple #[.agg #[.string (eF (-q2)), .string (KY F (eF X)), .int .i64 1, .int .i64 (KZ F)], .int .i64 0]) (by simp[results,results28,go_sem,k0,k1,k2,k3]) rfl ?_;exact⟨⟨_,_,_,_,_,rfl, .inr ⟨au.o,A,bq,c,av.o,F,X,x1,y1,z1,aT.o,aw.o, .inr ⟨ar.o,a6,q2,x2,y2,z2,bk.o,bm.o,by unfold KY;rw[if_pos ak.o],rfl,by unfold KZ;rw[if_pos ak.o],rfl,rfl⟩⟩⟩,a2⟩
      ·have hd:(a6==1)=false:=by simpa using V
       have ak:=lH V;clear V al;replace M:=lH (M.o.below h.o M.o.lt);replace E:=lH (E.o.trans (h.o.mono E.o.size));have a0:=aI 0 C;have a1:=C.o.lt;obtain⟨b1,b4,b7,ba⟩:=aT4 r.o;have bc:=r.o.lt;obtain⟨r0,f0,r1,Y,r2,Z,r3,f3⟩:=aF4 M.o;have rl:=M.o.lt;go_wp2_with fail
       clear rl r0 f0 r1 Y r2 Z r3 f3 a0 a1 b1 b4 b7 ba bc hd;have G:=il bM w.heap.size 0 1 2 3 (.string ⟨#[]⟩) (.string (KY F (eF X))) (.int .i64 2) (.int .i64 (KZ F));have R:=(((M.o.set 0 (.string ⟨#[]⟩)).set 1 (.string (KY F (eF X)))).set 2 (.int .i64 2)).set 3 (.int .i64 (KZ F));have a2:=E.o.grown G E.o.size (by first | (simp;done) | (simp;omega));obtain⟨wE,af⟩:=eX (((((bM.setCell ⟨w.heap.size,0,none⟩ (.string ⟨#[]⟩)).setCell ⟨w.heap.size,1,none⟩ (.string (KY F (eF X)))).setCell ⟨w.heap.size,2,none⟩ (.int .i64 2)).setCell ⟨w.heap.size,3,none⟩ (.int .i64 (KZ F))));rw[<- af] at R a2 ⊢;have k0:=R.at_ 0 rfl;have k1:=R.at_ 1 rfl;have k2:=R.at_ 2 rfl;have k3:=R.at_ 3 rfl;refine bodyPost_ret (v:= .tuple #[.agg #[.string ⟨#[]⟩, .string (KY F (eF X)), .int .i64 2, .int .i64 (KZ F)], .int .i64 0]) (by simp[results,results28,go_sem,k0,k1,k2,k3]) rfl ?_;exact⟨⟨_,_,_,_,_,rfl, .inr ⟨au.o,A,bq,c,av.o,F,X,x1,y1,z1,aT.o,aw.o, .inr ⟨ar.o,a6,q2,x2,y2,z2,bk.o,bm.o,by unfold KY;rw[if_neg ak.o],rfl,by unfold KZ;rw[if_neg ak.o],rfl,rfl⟩⟩⟩,a2⟩
end Go.Proofs.YtdefghfjhgmpfaaGreatDoor
