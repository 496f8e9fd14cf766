/- Parts of this proof: SVal40 LValues. -/
import Derived.Test.YtokagbahdkfagaaGreatDoorMAE
import Derived.Test.YtokagbahdkfagaaGreatDoorMBL
import Derived.Test.YtokagbahdkfagaaGreatDoorMAY
import Derived.Test.YtokagbahdkfagaaGreatDoorMBM
namespace Go.Proofs.YtokagbahdkfagaaGreatDoor
open Go.Proofs.Tryz
section
open Go.RowKit
open Lp (RL upd eH)
set_option maxRecDepth 100000 in
set_option maxHeartbeats 12800000 in
theorem IL(F:Frm)(T X:Option Addr)(cT n cX:Nat)(x:Nat -> Rat)(K X0:Nat)(w:World)(hT:TT w (.slice T F.N cT) F.N F.d F.f)(hX:fD w (.slice X n cX) n x)(hd:∀k,k<F.N -> 0 <= F.d k /\ F.d k<(n:Nat))(hc:F.c.size <= K)(hf:∀k,k<F.N -> (F.f k).size <= K)(hx:∀j,j<n -> RL X0 (x j))(M:0<K /\ K <= 65536)(av:X0 <= 65536)(hN:F.N <= 1000000)(hg:fF w):
  Calls prog 20 #[.agg #[.string F.c, .slice T F.N cT], .slice X n cX] w fun e w'=>∃v,e= .returned v /\ eP w' v (fw F x F.N) /\ Below w.heap.size w w':=by
 have aA:∀k,k <= F.N -> RL 1000000000000 (fw F x k):=fun k hk=>(rE (K:=K) (X:=X0) (ig hc M.1) (fun k hk=>ig (hf k hk) M.1) (fun k hk=>hx _ (by have:=hd k hk;omega)) k hk).mono (by
  have h1:k* (K+X0+1) <= 1000000*131073:=Nat.mul_le_mul oM oM
  omega)
 have aH:=lH aA;have HD:=lH hd;have a2:=lH (And.intro hc hf);have ag:=lH hx;have a0:=lH (And.intro M av);have aJ:=lH hN;have ad:=lH hg;clear aA hd hc hf hx M av hN hg;have HT:=lH hT;have HX:=lH hX;clear hT hX;obtain⟨W,hW,C,h,E⟩:=eN2 w [.string F.c, .slice T F.N cT] 25 [.bool false, .slice none 0 0, .bool false, .slice none 0 0] 40;go_enter func20,ntmps20;go_wp2_with fail
 rw[<- hW];clear hW;have aU:=aI 0 C;have ab:=C.o.lt;go_wp2_with fail
 clear aU ab;refine(AA F.c _ (Nat.le_trans a2.o.1 a0.o.1.2) (ad.o.below E.o)).mono ?_;rintro e Z ⟨vz,rfl,hz,hb⟩;obtain⟨sz,Az,lz,cz,tz,Bz,mz,dz,rfl⟩:=hz.shape;have R:=lH hz;clear hz;replace C:=rW C hb;replace h:=rW h hb;replace E:=bT E hb;clear hb;have ae:=h.o.lt;obtain⟨w2,a5⟩:=eX (Z.alloc (.cells #[.bool sz, .slice Az lz cz, .bool tz, .slice Bz mz dz] 40));obtain⟨G,a3⟩:=eX (Z.heap.size);have O:Below Z.heap.size Z w2:=by rw[a5];exact eD _ _
 have t:Hid (Row w2 G 40 [.bool sz, .slice Az lz cz, .bool tz, .slice Bz mz dz]):=lH (by rw[a5,a3];exact eO _ _);replace C:=rW C O;replace h:=rW h O;replace R:=lH (R.o.below O);replace E:=bT E O;have aG:Hid (w.heap.size+1<G):=lH (by rw[a3];exact ae);clear ae O
 go_upto_region 2 with (fail)
 rw[<- a5, <- a3];clear a5 a3;go_wp2_with fail
 have ac:=lH (AtQ.mk (q:=fw F x 0) t.o R.o)
 go_loopw [6] (fun iv wr=>∃k:Nat,k <= F.N /\ iv= .int .i64 k /\ AtQ wr G (fw F x k) /\ Row wr w.heap.size 25 [.string F.c, .slice T F.N cT] /\ Row wr (w.heap.size+1) 40 [.bool false, .slice none 0 0, .bool false, .slice none 0 0] /\ Below w.heap.size w wr) (fun iv _=>F.N-(intOf iv).toNat)
 case atStart=>exact⟨0,Nat.zero_le _,rfl,ac.o,C.o,h.o,E.o⟩
 case round=>
  clear C h t R E ac;obtain⟨k,hk,rfl,aP,aC,aD,aw⟩:=hrel;obtain⟨sz,Az,lz,cz,tz,Bz,mz,dz,ro,ay⟩:=aP;have t:=lH ro;have R:=lH ay;have C:=lH aC;have h:=lH aD;have E:=lH aw;clear ro ay aC aD aw;have aW:=aI 1 C;have ab:=C.o.lt;by_cases ba:((k:Nat):Int)<(F.N:Nat)
  ·have a1:k<F.N:=oM
   obtain⟨z,hz⟩:∃z:Nat,F.d k=(z:Int):=⟨(F.d k).toNat,by have:=HD.o k a1;omega⟩
   have a9:z<n:=by have:=HD.o k a1;omega
   have bb:((z:Nat):Int)<((n:Nat):Int):=oM
   have HZ:Hid ((F.d k).toNat=z):=lH oM;obtain⟨gA,oA,rfl,ax⟩:=(HT.o.below E.o).at_ oM;obtain⟨aa,aF⟩:=ax k a1;rw[hz] at aa;have a6:=lH aa;have a7:=lH aF;clear hz ax aa aF
   go_upto_region 5 with (fail)
   clear aW ab;obtain⟨gx,rfl,aB⟩:=(HX.o.below E.o).at_ oM;obtain⟨sx,Ax,lx,cx,tx,Bx,mx,dx,au,aE⟩:=aB.fK a9;have Qx:=lH au;have Vx:=lH aE;clear aB au aE;go_wp2_with fail
   have U:=rG wr;have aO:=t.o.lt;obtain⟨al,an,ap,ar⟩:=aT4 t.o;have aN:=C.o.lt;have ak:=aI 1 C;have aK:=eF a6.o;have ah:=a6.o;have aL:=eF a7.o;have ai:=a7.o;have aM:=Qx.o.lt;obtain⟨aj,am,ao,aq⟩:=Qx.o;have KS:=lH (kC al (kC an (kC ap (kC ar (kC ak (kC ah (kC ai (kC aj (kC am (kC ao (kN aq)))))))))));clear aO al an ap ar aN ak aK ah aL ai aM aj am ao aq;refine rL KS.o (fun i=>decide (19 <= i)) ?_;have r:=KS.o _ U.o;refine tKs 0 17 r ?_;refine tKs 1 18 r ?_;refine tKs 2 19 r ?_;refine tKs 3 20 r ?_;refine tKs 4 21 r ?_;refine tKs 5 22 r ?_;refine tKs 6 23 r ?_;refine tKs 8 25 r ?_;refine tKs 9 26 r ?_;refine tKs 10 27 r ?_;refine tKs 11 28 r ?_;refine tKs 12 29 r ?_;refine tKs 13 30 r ?_;refine tKs 14 31 r ?_;refine tKs 15 32 r ?_;refine tKs 16 33 r ?_;refine rD 7 (fun K M=> ?_);go_simp;refine(AA (F.f k) _ (Nat.le_trans (a2.o.2 k a1) a0.o.1.2) (ad.o.below E.o.drew)).mono ?_;rintro e Z ⟨vf,rfl,hf,V⟩;have V:Below wr.heap.size wr Z:=bD V;obtain⟨sf,Af,lf,cf,tf,Bf,mf,df,rfl⟩:=hf.shape;have Vf:=lH hf;clear hf;replace R:=lH (R.o.below V);replace Vx:=lH (Vx.o.below V);replace C:=rW C V;replace h:=rW h V;replace t:=rW t V;replace E:=bT E V;replace U:=bT U V;clear r V;have r:=KS.o _ U.o;refine kH M r ?_;clear M K;refine rD 17 (fun K M=> ?_);go_simp;refine(mO _ _ (qof (F.f k)) (x z) _ (by exact Vf.o) (by exact Vx.o) ((ig (a2.o.2 k a1) a0.o.1.1).mono (by have:=a0.o.1.2;omega)) ((ag.o z a9).mono (by have:=a0.o.2;omega))).mono ?_;rintro e w2 ⟨vp,rfl,hp,O⟩;have O:Below Z.heap.size Z w2:=bD O;obtain⟨sp,Ap,lp,cp,tp,Bp,mp,dp,rfl⟩:=hp.shape;have Vp:=lH hp;clear hp;replace R:=lH (R.o.below O);replace C:=rW C O;replace h:=rW h O;replace t:=rW t O;replace E:=bT E O;replace U:=bT U O;clear r O;have r:=KS.o _ U.o;refine kH M r ?_;clear M K;refine rD 18 (fun K M=> ?_);go_simp;refine(u7 _ _ (fw F x k) (qof (F.f k)*x z) _ (by exact R.o) (by exact Vp.o) (aH.o k hk) (((ig (a2.o.2 k a1) a0.o.1.1).mul (ag.o z a9)).mono (by have:=a0.o;omega))).mono ?_;rintro e w3 ⟨vr,rfl,hr,Y⟩;have Y:Below w2.heap.size w2 w3:=bD Y;obtain⟨sr,Ar,lr,cr,tr,Br,mr,dr,rfl⟩:=hr.shape;have Vr:=lH hr;clear hr;replace C:=rW C Y;replace h:=rW h Y;replace t:=rW t Y;replace E:=bT E Y;replace U:=bT U Y;obtain⟨b0,b1,b2,b3⟩:=aT4 t.o;have b4:=t.o.lt;have aV:=t.o.free 0;have aX:=t.o.free 1;have aY:=t.o.free 2;have aZ:=t.o.free 3;clear r Y;have r:=KS.o _ U.o;refine kH M r ?_;clear M K;refine rD 19 (fun K M=> ?_);go_simp;refine kL M ?_;clear M K;refine dN ?_ _;clear r KS U;clear b0 aV b1 aX b2 aY b3 aZ b4;have b8:=aG.o;clear Qx Vx Vf Vp R a6 a7;have a4:World.grownBy w3 ((((w3.setCell ⟨G,0,none⟩ (.bool sr)).setCell ⟨G,1,none⟩ (.slice Ar lr cr)).setCell ⟨G,2,none⟩ (.bool tr)).setCell ⟨G,3,none⟩ (.slice Br mr dr)) (some (G)):=gJ _ _ _ _ _ _ _ _ _ _;have b5:=C.o.lt;have b6:=h.o.lt;have b7:=t.o.lt;replace Vr:=lH (Vr.o.other a4 t.o dC);replace C:=lH (C.o.other a4 oM);replace h:=lH (h.o.other a4 oM);replace E:Hid (Below w.heap.size w ((((w3.setCell ⟨G,0,none⟩ (.bool sr)).setCell ⟨G,1,none⟩ (.slice Ar lr cr)).setCell ⟨G,2,none⟩ (.bool tr)).setCell ⟨G,3,none⟩ (.slice Br mr dr))):=lH (jq E.o oM _ _ _ _);replace t:Hid (Row ((((w3.setCell ⟨G,0,none⟩ (.bool sr)).setCell ⟨G,1,none⟩ (.slice Ar lr cr)).setCell ⟨G,2,none⟩ (.bool tr)).setCell ⟨G,3,none⟩ (.slice Br mr dr)) (G) 40 [.bool sr, .slice Ar lr cr, .bool tr, .slice Br mr dr]):=lH (t.o.iJ);obtain⟨w4,a8⟩:=eX (((((w3.setCell ⟨G,0,none⟩ (.bool sr)).setCell ⟨G,1,none⟩ (.slice Ar lr cr)).setCell ⟨G,2,none⟩ (.bool tr)).setCell ⟨G,3,none⟩ (.slice Br mr dr)));rw[<- a8] at Vr C h t E;clear a4 b5 b6 b7;rw[<- a8];clear a8;have b9:=aJ.o;go_wp2_with fail
   go_roundw
   case rel=>exact⟨k+1,a1,by simp,AtQ.mk t.o (by rw[fw,HZ.o];exact Vr.o),C.o,h.o,E.o⟩
   case measure=>exact mZ
  ·have az:k=F.N:=oM
   rw[az] at R;clear az;obtain⟨bc,bd,be,bf⟩:=aT4 t.o;have bl:=t.o.lt;obtain⟨aQ,aR,aS,aT⟩:=aT4 h.o;have bk:=h.o.lt;have bg:=h.o.free 0;have bh:=h.o.free 1;have bi:=h.o.free 2;have bj:=h.o.free 3;have hr:=ic h.o gM oM E.o R.o;have af:=lH hr;clear hr;go_wp2_with fail
   refine bodyPost_ret (v:= .agg #[.bool sz, .slice Az lz cz, .bool tz, .slice Bz mz dz]) (by simp[results,results20,go_sem,aQ,aR,aS,aT]) rfl ?_;exact⟨_,rfl,af.o.1,af.o.2⟩
end
section
open Go.RowKit
open Lp (RL upd eH)
set_option maxRecDepth 100000 in
set_option maxHeartbeats 12800000 in
theorem AB(n:Int)(W:Value)(N:Nat)(s:Nat -> ByteArray)(w:World)(C:TS w W N s)(hN:N <= 1000000000)(V:∀j,j<N -> (s j).size <= 400)(T:fF w):
  Calls prog 19 #[.int .i64 n,W] w fun e w'=>rH w.heap.size w' n N s e /\ Below w.heap.size w w':=by
 obtain⟨A,c,rfl,a1,a2⟩:=C.shape;have X:=lH C;have a0:=lH V;have Z:=lH hN;have Y:=lH T;clear C V hN T;by_cases h:(N:Int)=n
 ·have U:((N:Int) !=n)=false:=by simpa using h
  have t:=lH h;go_enter func19,ntmps19;go_wp2_with fail
  refine(qW _ N s _ X.o Z.o (fun j E=>Nat.le_trans (a0.o j E) dC) Y.o).mono ?_;rintro e w1 ⟨r,R⟩;have G:=lH R;have M:=lH (zx h r);clear U R h t
  rcases r with ⟨j,E,h1,h2,rfl⟩ | ⟨g,f,hB,rfl,r,hf⟩
  ·clear E h1 h2;go_wp2_with fail
   go_returns;exact⟨M.o,G.o⟩
  ·clear hB r hf;go_wp2_with fail
   go_returns;exact⟨M.o,G.o⟩
 ·have U:((N:Int) !=n)=true:=by simpa using h
  have t:=lH h;clear h;go_enter func19,ntmps19;go_wp2_with fail
  go_returns;have O:jH n N s=13:=by unfold jH;rw[if_pos t.o]
  exact⟨.inl ⟨by rw[O];decide,by rw[O];rfl⟩,Below.refl _ _⟩
set_option maxRecDepth 100000 in
set_option maxHeartbeats 12800000 in
theorem IM(n:Int)(F:Frm)(T:Option Addr)(M:Nat)(va:Value)(N:Nat)(s:Nat -> ByteArray)(w:World)(hT:TT w (.slice T F.N M) F.N F.d F.f)(ha:TS w va N s)(hg:fF w)(ht:Tab w):
  Calls prog 3 #[.int .i64 n, .agg #[.string F.c, .slice T F.N M],va] w fun e w'=>e= .returned (.bool true) /\ Below w.heap.size w w':=by
 obtain⟨A,c,rfl,ag,ah⟩:=ha.shape;have HA:=lH ha;have HT:=lH hT;have G:=lH hg;have a2:=lH ht;have ao:=lH (Nat.le_trans ag ah);clear ha hT hg ht ag ah;obtain⟨W,hW,C,r⟩:=eN1 w [.string F.c, .slice T F.N M] 25;go_enter func3,ntmps3
 go_upto_region 1 with (fail)
 rw[<- hW];clear hW;go_wp2_with fail
 refine(uX _ (G.o.below r.o) (a2.o.below r.o)).mono ?_;rintro e w1 ⟨rfl,t⟩;replace C:=rW C t;replace r:=bT r t;clear t;obtain⟨R,U⟩:=aT2 C.o;have Y:=C.o.lt;go_wp2_with fail
 clear R U Y;refine(II F T M _ (HT.o.below r.o)).mono ?_;rintro e w2 ⟨hf,t⟩;replace C:=rW C t;replace r:=bT r t;clear t
 rcases hf with ⟨hf,rfl⟩ | ⟨hf,rfl⟩
 ·have ac:=lH hf;clear hf;by_cases a5:(66:Int)<(N:Nat)
  ·have a6:decide ((66:Int)<(N:Nat))=true:=decide_eq_true a5;go_wp2_with fail
   clear a5 a6;refine(uX _ (G.o.below r.o) (a2.o.below r.o)).mono ?_;rintro e w3 ⟨rfl,t⟩;replace r:=bT r t;clear t;go_wp2_with fail
   go_returns;exact⟨rfl,r.o⟩
  ·have a6:decide ((66:Int)<(N:Nat))=false:=decide_eq_false a5;have a3:Hid (N <= 66):=lH oM;go_wp2_with fail
   clear a5 a6
   go_loopw [7] (fun iv wr=>∃ (k:Nat),k <= N /\ iv= .int .i64 k /\ Hid (∀j,j<k -> (s j).size <= 60) /\ Hid (Row wr w.heap.size 25 [.string F.c, .slice T F.N M]) /\ Hid (Below w.heap.size w wr)) (fun iv _=>N-(intOf iv).toNat)
   case atStart=>exact⟨0,Nat.zero_le _,rfl,lH (fun j Z=>absurd Z oM),C,r⟩
   case round=>
    clear C r;obtain⟨k,O,rfl,HF,C,r⟩:=hrel;by_cases ax:((k:Nat):Int)<(N:Nat)
    ·have ak:k<N:=oM
     obtain⟨gA,oA,rfl,ai⟩:=HA.o.at_ oM;have ay:=cell_below r.o (ai k ak);have aA:=eF ay;have az:=a3.o;clear ai;by_cases av:(60:Int)<((s k).size:Nat)
     ·go_wp2_with fail
      go_returns;exact⟨rfl,r.o⟩
     ·have an:=lH av;go_wp2_with fail
      go_roundw
      case rel=>exact⟨k+1,ak,by simp,lH (fun j Z=>by by_cases e:j=k;rw[e];have:=an.o;omega;exact HF.o j oM),C,r⟩
      case measure=>exact mZ
    ·have aj:k=N:=oM
     rw[aj] at HF;clear aj;have HS:Hid (F.c.size <= 65536 /\ ∀k,k<F.N -> (F.f k).size <= 65536):=lH ⟨by have h:=ac.o.2.1;unfold gz at h;omega,fun k O=>by have h:=ac.o.2.2 k O;unfold gz at h;omega⟩;obtain⟨R,U⟩:=aT2 C.o;have Y:=C.o.lt;go_wp2_with fail
     clear O ax R U Y;refine(IK n F T M _ (HT.o.below r.o) HS.o (G.o.below r.o)).mono ?_;rintro e w4 ⟨rfl,t⟩;replace C:=rW C t;replace r:=bT r t;clear t;obtain⟨E,hE⟩:=eX (iL n F);rw[<- hE];have HE:=lH hE;clear hE;obtain⟨R,U⟩:=aT2 C.o;have Y:=C.o.lt;go_wp2_with fail
     clear R U Y;refine(qd n F T M _ (HT.o.below r.o) (G.o.below r.o)).mono ?_;rintro e w5 ⟨rfl,t⟩;replace C:=rW C t;replace r:=bT r t;clear t;rw[<- HE.o];obtain⟨R,U⟩:=aT2 C.o;have Y:=C.o.lt;go_wp2_with fail
     clear R U Y;refine(GR n F T M _ N s _ (HT.o.below r.o) (HA.o.below r.o) (by have:=a3.o;omega) HF.o (a2.o.below r.o) (G.o.below r.o)).mono ?_;rintro e w6 ⟨hv,t⟩;replace C:=rW C t;replace r:=bT r t;clear t;obtain⟨V,hV⟩:=eX (kz n F N s);rw[<- hV] at hv;have HV:=lH hV;clear hV;by_cases h0:E=0
     ·subst h0;have aa:Hid (iL n F=0):=lH HE.o.symm;clear HE;have a4:Hid (V=jH n N s):=lH (by rw[HV.o];unfold kz;rw[if_neg (by rw[aa.o];simp)]);obtain⟨VT,a7⟩:=eX (uI F s);rw[<- a7] at hv;have au:=lH a7;clear a7;have af:Hid ((V≠0 /\ e= .returned (.tuple #[.string ⟨#[]⟩, .int .i64 (V:Nat)])) \/ V=0 /\ e= .returned (.tuple #[.string VT, .int .i64 0])):=lH hv
      rcases hv with ⟨a1,rfl⟩ | ⟨a1,rfl⟩
      ·have H1:=lH a1;clear a1 af;go_wp2_with fail
       refine(AB n _ N s _ (HA.o.below r.o) (by have:=a3.o;omega) (fun j Z=>Nat.le_trans (HF.o j Z) dC) (G.o.below r.o)).mono ?_;rintro e w7 ⟨hr,t⟩;replace r:=bT r t;clear t
       rcases hr with ⟨_,rfl⟩ | ⟨h0,_⟩
       ·rw[<- a4.o];have a8:¬((V:Nat):Int)=0:=by have:=H1.o;omega
        have aw:(((V:Nat):Int) !=0)=true:=by simpa using a8
        go_wp2_with fail
        go_returns;exact⟨rfl,r.o⟩
       ·exact absurd (a4.o.trans h0) H1.o
      ·subst a1;clear af;go_wp2_with fail
       refine(AB n _ N s _ (HA.o.below r.o) (by have:=a3.o;omega) (fun j Z=>Nat.le_trans (HF.o j Z) dC) (G.o.below r.o)).mono ?_;rintro e w7 ⟨hr,t⟩;replace C:=rW C t;replace r:=bT r t;clear t
       rcases hr with ⟨h0,_⟩ | ⟨_,g,hg,rfl,hr⟩
       ·exact absurd a4.o.symm h0
       ·have ar:=lH (hr.jD (Nat.le_refl _) ao.o);have ap:Hid ((N:Int)=n):=lH (by have h:=a4.o;unfold jH at h;by_cases e:(N:Int)=n;exact e;rw[if_pos e] at h;cases h);clear hg hr;obtain⟨R,U⟩:=aT2 C.o;have Y:=C.o.lt;go_wp2_with fail
        clear R U Y;have a9:=qg aa.o;have am:TOk ((N:Nat):Int) F:=by rw[ap.o];exact a9.ok
        have al:∀j,j<N -> RL 60 (qof (s j)):=fun j Z=>ig (HF.o j Z) dC
        have ab:=lH a9;have a0:=lH am;have ad:=lH al;clear a9 am al;refine(IL F T (some ⟨g,0,none⟩) M N N (fun j=>qof (s j)) 400 60 _ (HT.o.below r.o) ar.o (fun k O=>a0.o.lt O) ab.o.rF a0.o.size ad.o dC dC (by have:=a0.o.few;omega) (G.o.below r.o)).mono ?_;rintro e w8 ⟨vz,rfl,hz,t⟩;obtain⟨sz,Az,lz,cz,tz,Bz,mz,dz,rfl⟩:=hz.shape;have VZ:=lH hz;clear hz;replace r:=bT r t;clear t;have aq:Hid (RL 100000 (fw F (fun j=>qof (s j)) F.N)):=lH ((rE (K:=400) (X:=60) (ig ab.o.rF dC) (fun k O=>ig (a0.o.size k O) dC) (fun k O=>ad.o _ (by have:=a0.o.lt O;omega)) F.N (Nat.le_refl _)).mono (by have:=a0.o.few;omega));go_wp2_with fail
        refine(jE _ _ 100000 _ VZ.o aq.o dC (a2.o.below r.o)).mono ?_;rintro e w9 ⟨rfl,t⟩;replace r:=bT r t;clear t;rw[show eB (fw F (fun j=>qof (s j)) F.N)=VT from au.o.symm];go_wp2_with fail
        go_returns;exact⟨rfl,r.o⟩
     ·have H1:=lH h0;clear h0;have a8:¬((E:Nat):Int)=0:=by have:=H1.o;omega
      have aw:(((E:Nat):Int) !=0)=true:=by simpa using a8
      have ae:Hid (V=E):=lH (by rw[HV.o];unfold kz;rw[<- HE.o,if_pos H1.o])
      rcases hv with ⟨_,rfl⟩ | ⟨a1,_⟩
      ·rw[ae.o];go_wp2_with fail
       go_returns;exact⟨rfl,r.o⟩
      ·exact absurd (ae.o.symm.trans a1) H1.o
 ·clear hf;go_wp2_with fail
  refine(uX _ (G.o.below r.o) (a2.o.below r.o)).mono ?_;rintro e w3 ⟨rfl,t⟩;replace r:=bT r t;clear t;go_wp2_with fail
  go_returns;exact⟨rfl,r.o⟩
end
end Go.Proofs.YtokagbahdkfagaaGreatDoor
