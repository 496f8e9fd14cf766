/- Parts of this proof: SForm. -/
import Derived.Test.YtokagbahdkfagaaGreatDoorMAE
import Derived.Test.YtokagbahdkfagaaGreatDoorMAS
import Derived.Test.YtokagbahdkfagaaGreatDoorMAR
import Derived.Test.YtokagbahdkfagaaGreatDoorMAM
namespace Go.Proofs.YtokagbahdkfagaaGreatDoor
open Go.Proofs.Tryz
open Go.RowKit
def fG(n:Int)(d:Nat -> Int)(f:Nat -> ByteArray)(k:Nat):Nat:=
 if d k<0 \/ n <= d k then 10 else if 0<k /\ d k <= d (k-1) then 8 else if gm (f k).data.toList≠0 then gm (f k).data.toList else if(f k).data.toList= [48] then 19 else 0
def qX(n:Int)(c:ByteArray)(N:Nat)(d:Nat -> Int)(f:Nat -> ByteArray)(x:Nat):Prop:=
 ((n<0 \/ 64<n) /\ x=2) \/ (0 <= n /\ n <= 64 /\ ((gm c.data.toList≠0 /\ x=gm c.data.toList) \/ (gm c.data.toList=0 /\ ((64<N /\ x=6) \/ (N <= 64 /\
  ((∃k,k<N /\ (∀j,j<k -> fG n d f j=0) /\ fG n d f k≠0 /\ x=fG n d f k) \/ ((∀j,j<N -> fG n d f j=0) /\ x=0)))))))
set_option maxRecDepth 100000 in
set_option maxHeartbeats 6400000 in
theorem FE(n:Int)(c:ByteArray)(va:Value)(N:Nat)(d:Nat -> Int)(f:Nat -> ByteArray)(w:World)(ha:TT w va N d f)(hg:fF w):
  Calls prog 17 #[.int .i64 n, .agg #[.string c,va]] w fun e w'=>(∃x:Nat,e= .returned (.int .i64 x) /\ qX n c N d f x) /\ Below w.heap.size w w':=by
 obtain⟨A,cA,rfl,au,av⟩:=ha.shape;have HA:=lH ha;have a6:=lH hg;clear ha hg;obtain⟨W,hW,G,t⟩:=eN1 w [.string c, .slice A N cA] 25;by_cases n1:n<0
 ·go_enter func17,ntmps17;go_wp2_with fail
  rw[<- hW];go_returns;exact⟨⟨2,rfl, .inl ⟨.inl n1,rfl⟩⟩,t.o⟩
 by_cases n2:64<n
 ·go_enter func17,ntmps17;go_wp2_with fail
  rw[<- hW];go_returns;exact⟨⟨2,rfl, .inl ⟨.inr n2,rfl⟩⟩,t.o⟩
 have N1:=lH n1;have N2:=lH n2;have aq:=aI 0 G;have ad:=G.o.lt;go_enter func17,ntmps17;go_wp2_with fail
 rw[<- hW];clear hW n1 n2;go_wp2_with fail
 refine(pV c _ (a6.o.below t.o)).mono ?_;rintro e w1 ⟨hr,r⟩;replace G:=rW G r;replace t:=bT t r;clear r aq ad
 rcases hr with ⟨h0,rfl⟩ | ⟨q,v,h0,hl,rfl,hv⟩
 ·go_wp2_with fail
  go_returns;exact⟨⟨_,rfl, .inr ⟨by have:=N1.o;omega,by have:=N2.o;omega, .inl ⟨h0,rfl⟩⟩⟩,t.o.alloc t.o.size _⟩
 have H0:=lH h0;obtain⟨sv,Av,lv,cv,tv,Bv,mv,dv,rfl⟩:=hv.shape;clear h0 hl hv;obtain⟨W2,a7⟩:=eX (w1.alloc (.cells #[.bool sv, .slice Av lv cv, .bool tv, .slice Bv mv dv] 40));have r:Below w1.heap.size w1 W2:=by rw[a7];exact eD _ _
 replace G:=rW G r;replace t:=bT t r;clear r
 go_upto_region 4 with (fail)
 rw[<- a7];clear a7;have ar:=aI 1 G;have ad:=G.o.lt;by_cases n3:((64:Nat):Int)<(N:Nat)
 ·have aj:(64:Int)<(N:Nat):=n3;have U:=lH n3;clear n3;go_wp2_with fail
  go_returns;exact⟨⟨6,rfl, .inr ⟨by have:=N1.o;omega,by have:=N2.o;omega, .inr ⟨H0.o, .inl ⟨by have:=U.o;omega,rfl⟩⟩⟩⟩,t.o⟩
 have U:=lH n3;have aj:¬(64:Int)<(N:Nat):=n3;clear n3;go_wp2_with fail
 clear ar ad aj
 go_loopw [33] (fun iv wr=>∃ (k:Nat),k <= N /\ iv= .int .i64 k /\ Hid (∀j,j<k -> fG n d f j=0) /\ Hid (Row wr w.heap.size 25 [.string c, .slice A N cA]) /\ Hid (Below w.heap.size w wr)) (fun iv _=>N-(intOf iv).toNat)
 case atStart=>exact⟨0,Nat.zero_le _,rfl,lH (fun j hj=>absurd hj oM),G,t⟩
 case round=>
  clear G t;obtain⟨k,hk,rfl,HF,G,t⟩:=hrel;by_cases ax:((k:Nat):Int)<(N:Nat)
  ·have Y:k<N:=oM
   obtain⟨gA,oA,rfl,a9⟩:=HA.o.at_ oM;have ah:=cell_below t.o (a9 k Y).1;have ao:=cell_below t.o (a9 k Y).2;have ap:=eF ah;obtain⟨gT,aa⟩:=eX (wr.heap.size);obtain⟨X,a5⟩:=eX (wr.alloc (.cells #[.int .i64 (d k), .string (f k)] 126));have r:Below wr.heap.size wr X:=by rw[a5];exact eD _ _
   have R:Hid (Row X gT 126 [.int .i64 (d k), .string (f k)]):=lH (by rw[a5,aa];exact eO _ _);have ag:=lH (G.o.below r G.o.lt);have a4:=lH (t.o.trans (r.mono t.o.size));clear r
   go_upto_region 11 with (fail)
   clear ah ao ap G t;rw[<- a5, <- aa];clear a5 aa;have ai:=aI 0 R;have a3:=R.o.lt;by_cases c1:d k<0
   ·have C1:=lH c1;go_wp2_with fail
    go_returns;have M:fG n d f k=10:=by unfold fG;rw[if_pos (.inl C1.o)]
    exact⟨⟨10,rfl, .inr ⟨by have:=N1.o;omega,by have:=N2.o;omega, .inr ⟨H0.o, .inr ⟨by have:=U.o;omega, .inl ⟨k,Y,HF.o,by rw[M];decide,M.symm⟩⟩⟩⟩⟩,a4.o⟩
   by_cases c2:n <= d k
   ·have C2:=lH c2;go_wp2_with fail
    go_returns;have M:fG n d f k=10:=by unfold fG;rw[if_pos (.inr C2.o)]
    exact⟨⟨10,rfl, .inr ⟨by have:=N1.o;omega,by have:=N2.o;omega, .inr ⟨H0.o, .inr ⟨by have:=U.o;omega, .inl ⟨k,Y,HF.o,by rw[M];decide,M.symm⟩⟩⟩⟩⟩,a4.o⟩
   have C1:=lH c1;have C2:=lH c2
   go_upto_region 13 with (fail)
   clear c1 c2;have G:=ag;have t:=a4;clear ag a4;by_cases ab:k=0
   ·subst ab;have C3:Hid (¬(0<0 /\ d 0 <= d (0-1))):=lH oM;clear ai a3
    go_upto_region 13 with (fail)
    refine iC (fun w'=> w'.cell? ⟨gT,0,none⟩=some (.int .i64 (d 0))) (fun i=>false) kR ?_;obtain⟨y1,a0⟩:=eX (X.drew);rw[<- a0];have r:Below X.heap.size X y1:=by rw[a0];exact(Below.refl _ _).drew
    clear a0;replace G:=rW G r;replace R:=rW R r;replace t:=bT t r;have af:=lH r;clear r;have C:=aI 0 R;refine tKs 0 49 C ?_;refine tKs 1 50 C ?_;refine tKs 2 51 C ?_;refine tUs 3 52 C ?_;refine tUs 4 53 C ?_;refine tUs 5 54 C ?_;refine tUs 6 55 C ?_;refine tUs 7 56 C ?_;refine tUs 8 57 C ?_;refine tUs 9 58 C ?_;refine tUs 10 59 C ?_;refine tUs 11 60 C ?_;refine tUs 12 61 C ?_;refine tKs 13 62 C ?_;refine tKs 14 48 C ?_;refine dN ?_ _;clear C;have ae:=aI 1 R;have a3:=R.o.lt;go_wp2_with fail
    clear ae a3;refine(pV (f (0)) _ (a6.o.below t.o)).mono ?_;rintro e T ⟨hr,r⟩;replace G:=rW G r;replace t:=bT t r;clear r;obtain⟨E,hE⟩:=eX (gm (f (0)).data.toList);unfold lF at hr;rw[<- hE] at hr;have HE:=lH hE;clear hE
    rcases hr with ⟨h0,rfl⟩ | ⟨V,v,h0,hl,rfl,hv⟩
    ·have H1:=lH h0;clear h0;obtain⟨W5,O⟩:=eX (T.alloc (.cells #[.bool false, .slice none 0 0, .bool false, .slice none 0 0] 40));have r:Below T.heap.size T W5:=by rw[O];exact eD _ _
     replace t:=bT t r;clear r;have a8:¬((E:Nat):Int)=0:=by have:=H1.o;omega
     have al:(((E:Nat):Int) !=0)=true:=by simpa using a8
     go_upto_region 16 with (fail)
     rw[<- O];clear O;go_wp2_with fail
     go_returns;have M:fG n d f (0)=E:=by unfold fG;rw[if_neg (by have:=C1.o;have:=C2.o;omega),if_neg C3.o, <- HE.o,if_pos H1.o]
     exact⟨⟨_,rfl, .inr ⟨by have:=N1.o;omega,by have:=N2.o;omega, .inr ⟨H0.o, .inr ⟨by have:=U.o;omega, .inl ⟨0,Y,HF.o,by rw[M];exact H1.o,M.symm⟩⟩⟩⟩⟩,t.o⟩
    ·have H1:=lH h0;subst h0;have HL:=lH hl;obtain⟨sw,Aw,lw,cw,tw,Bw,mw,dw,rfl⟩:=hv.shape;have HV:=lH hv;clear hl hv;obtain⟨gR,a2⟩:=eX (T.heap.size);obtain⟨W5,O⟩:=eX (T.alloc (.cells #[.bool sw, .slice Aw lw cw, .bool tw, .slice Bw mw dw] 40));have r:Below T.heap.size T W5:=by rw[O];exact eD _ _
     have RR:Hid (Row W5 gR 40 [.bool sw, .slice Aw lw cw, .bool tw, .slice Bw mw dw]):=lH (by rw[O,a2];exact eO _ _);replace G:=rW G r;replace HV:=lH (HV.o.below r);replace t:=bT t r;clear r
     go_upto_region 16 with (fail)
     rw[<- O, <- a2];clear O a2;obtain⟨k0,k1,k2,k3⟩:=aT4 RR.o;have kl:=RR.o.lt;go_wp2_with fail
     clear k0 k1 k2 k3 kl;refine(fQ _ V _ HV.o).mono ?_;rintro e w6 ⟨rfl,r⟩;replace G:=rW G r;replace t:=bT t r;clear r;by_cases Z:V.num=0
     ·have hs:sgI V.num=0:=by rw[Z];rfl
      have HQ:=lH Z;clear Z;rw[hs];go_wp2_with fail
      go_returns;have ac:V=0:=Rat.num_eq_zero.1 HQ.o;have M:fG n d f (0)=19:=by unfold fG;rw[if_neg (by have:=C1.o;have:=C2.o;omega),if_neg C3.o,if_neg (by rw[<- HE.o];decide),if_pos (by rw[HL.o,ac];kernel_rfl)]
      exact⟨⟨_,rfl, .inr ⟨by have:=N1.o;omega,by have:=N2.o;omega, .inr ⟨H0.o, .inr ⟨by have:=U.o;omega, .inl ⟨0,Y,HF.o,by rw[M];decide,M.symm⟩⟩⟩⟩⟩,t.o⟩
     ·have hs:¬sgI V.num=0:=by unfold sgI;split <;> (try split) <;> omega
      have am:(sgI V.num==0)=false:=by simpa using hs
      have HQ:=lH Z;clear Z;have ak:N <= 1000000000:=by have:=U.o;omega
      go_wp2_with fail
      go_roundw
      case rel=>
       refine⟨0+1,Y,by simp,lH (fun j hj=> ?_),G,t⟩;by_cases e:j<0
       ·exact HF.o j e
       obtain rfl:j=0:=oM
       unfold fG;rw[if_neg (by have:=C1.o;have:=C2.o;omega),if_neg C3.o,if_neg (by rw[<- HE.o];decide),if_neg];rw[HL.o,show [48]=fB 0 by kernel_rfl];intro e;exact HQ.o (by rw[kZ e];rfl)
      case measure=>exact mZ
   ·obtain⟨z,hz⟩:=eX (k-1);have an:z<N:=oM
    have ay:(k:Int)-1=(z:Nat):=oM
    have aw:(0:Int)<(k:Nat):=oM
    clear ai a3;have HC:=lH (a9 z an).1;replace HC:=lH (cell_below t.o HC.o);by_cases c3:d k <= d z
    ·have C4:Hid (0<k /\ d k <= d (k-1)):=lH ⟨by omega,by rw[<- hz];exact c3⟩;clear ab hz
     go_upto_region 13 with (fail)
     refine iC (fun w'=> w'.cell? ⟨gT,0,none⟩=some (.int .i64 (d k)) /\ w'.cell? ⟨w.heap.size,1,none⟩=some (.slice (some ⟨gA,oA,none⟩) N cA) /\ w'.cell? ⟨gA,oA+z*2,none⟩=some (.int .i64 (d z))) (fun i=>false) kR ?_;obtain⟨y1,a0⟩:=eX (X.drew);rw[<- a0];have r:Below X.heap.size X y1:=by rw[a0];exact(Below.refl _ _).drew
     clear a0;replace G:=rW G r;replace R:=rW R r;replace HC:=lH (cell_below r HC.o);replace t:=bT t r;have af:=lH r;clear r;have C:=And.intro (R.o.at_ 0 rfl) (And.intro (G.o.at_ 1 rfl) (HC.o));refine tKs 0 49 C ?_;refine jd (i:=1) (v:= .bool true) (some 50) rfl (by rfl) kR kR kR kR (fun _ _ _ h=>h) (Or.inl ⟨by rfl,?_⟩) C ?_
     ·(intro w' a1;clear a1;go_simp;omega)
     simp only[Act.put,List.setIfInBounds_toArray,List.set_cons_zero,List.set_cons_succ];refine tKs 2 51 C ?_;refine tKs 3 52 C ?_;refine tKs 4 53 C ?_;refine tKs 5 54 C ?_;refine tKs 6 55 C ?_;refine tKs 7 56 C ?_;refine jd (i:=8) (v:= .int .i64 (z:Nat)) (some 57) rfl (by rfl) kR kR kR kR (fun _ _ _ h=>h) (Or.inl ⟨by rfl,?_⟩) C ?_
     ·(intro w' a1;clear a1;go_simp;rw[IntKind.wrap_i64];have:=U.o;omega)
     simp only[Act.put,List.setIfInBounds_toArray,List.set_cons_zero,List.set_cons_succ];refine tKs 9 58 C ?_;refine tKs 10 59 C ?_;refine tKs 11 60 C ?_;refine tKs 12 61 C ?_;refine tKs 13 62 C ?_;refine tKs 14 48 C ?_;refine dN ?_ _;clear C;go_wp2_with fail
     go_returns;have M:fG n d f k=8:=by unfold fG;rw[if_neg (by have:=C1.o;have:=C2.o;omega),if_pos C4.o]
     exact⟨⟨_,rfl, .inr ⟨by have:=N1.o;omega,by have:=N2.o;omega, .inr ⟨H0.o, .inr ⟨by have:=U.o;omega, .inl ⟨k,Y,HF.o,by rw[M];decide,M.symm⟩⟩⟩⟩⟩,t.o⟩
    ·have C3:Hid (¬(0<k /\ d k <= d (k-1))):=lH (fun h=>c3 (by rw[hz];exact h.2));clear ab hz
     go_upto_region 13 with (fail)
     refine iC (fun w'=> w'.cell? ⟨gT,0,none⟩=some (.int .i64 (d k)) /\ w'.cell? ⟨w.heap.size,1,none⟩=some (.slice (some ⟨gA,oA,none⟩) N cA) /\ w'.cell? ⟨gA,oA+z*2,none⟩=some (.int .i64 (d z))) (fun i=>false) kR ?_;obtain⟨y1,a0⟩:=eX (X.drew);rw[<- a0];have r:Below X.heap.size X y1:=by rw[a0];exact(Below.refl _ _).drew
     clear a0;replace G:=rW G r;replace R:=rW R r;replace HC:=lH (cell_below r HC.o);replace t:=bT t r;have af:=lH r;clear r;have C:=And.intro (R.o.at_ 0 rfl) (And.intro (G.o.at_ 1 rfl) (HC.o));refine tKs 0 49 C ?_;refine jd (i:=1) (v:= .bool true) (some 50) rfl (by rfl) kR kR kR kR (fun _ _ _ h=>h) (Or.inl ⟨by rfl,?_⟩) C ?_
     ·(intro w' a1;clear a1;go_simp;omega)
     simp only[Act.put,List.setIfInBounds_toArray,List.set_cons_zero,List.set_cons_succ];refine tKs 2 51 C ?_;refine tKs 3 52 C ?_;refine tKs 4 53 C ?_;refine tKs 5 54 C ?_;refine tKs 6 55 C ?_;refine tKs 7 56 C ?_;refine jd (i:=8) (v:= .int .i64 (z:Nat)) (some 57) rfl (by rfl) kR kR kR kR (fun _ _ _ h=>h) (Or.inl ⟨by rfl,?_⟩) C ?_
     ·(intro w' a1;clear a1;go_simp;rw[IntKind.wrap_i64];have:=U.o;omega)
     simp only[Act.put,List.setIfInBounds_toArray,List.set_cons_zero,List.set_cons_succ];refine tKs 9 58 C ?_;refine tKs 10 59 C ?_;refine tKs 11 60 C ?_;refine tKs 12 61 C ?_;refine tKs 13 62 C ?_;refine tKs 14 48 C ?_;refine dN ?_ _;clear C;have ae:=aI 1 R;have a3:=R.o.lt;go_wp2_with fail
     clear ae a3;refine(pV (f (k)) _ (a6.o.below t.o)).mono ?_;rintro e T ⟨hr,r⟩;replace G:=rW G r;replace t:=bT t r;clear r;obtain⟨E,hE⟩:=eX (gm (f (k)).data.toList);unfold lF at hr;rw[<- hE] at hr;have HE:=lH hE;clear hE
     rcases hr with ⟨h0,rfl⟩ | ⟨V,v,h0,hl,rfl,hv⟩
     ·have H1:=lH h0;clear h0;obtain⟨W5,O⟩:=eX (T.alloc (.cells #[.bool false, .slice none 0 0, .bool false, .slice none 0 0] 40));have r:Below T.heap.size T W5:=by rw[O];exact eD _ _
      replace t:=bT t r;clear r;have a8:¬((E:Nat):Int)=0:=by have:=H1.o;omega
      have al:(((E:Nat):Int) !=0)=true:=by simpa using a8
      go_upto_region 16 with (fail)
      rw[<- O];clear O;go_wp2_with fail
      go_returns;have M:fG n d f (k)=E:=by unfold fG;rw[if_neg (by have:=C1.o;have:=C2.o;omega),if_neg C3.o, <- HE.o,if_pos H1.o]
      exact⟨⟨_,rfl, .inr ⟨by have:=N1.o;omega,by have:=N2.o;omega, .inr ⟨H0.o, .inr ⟨by have:=U.o;omega, .inl ⟨k,Y,HF.o,by rw[M];exact H1.o,M.symm⟩⟩⟩⟩⟩,t.o⟩
     ·have H1:=lH h0;subst h0;have HL:=lH hl;obtain⟨sw,Aw,lw,cw,tw,Bw,mw,dw,rfl⟩:=hv.shape;have HV:=lH hv;clear hl hv;obtain⟨gR,a2⟩:=eX (T.heap.size);obtain⟨W5,O⟩:=eX (T.alloc (.cells #[.bool sw, .slice Aw lw cw, .bool tw, .slice Bw mw dw] 40));have r:Below T.heap.size T W5:=by rw[O];exact eD _ _
      have RR:Hid (Row W5 gR 40 [.bool sw, .slice Aw lw cw, .bool tw, .slice Bw mw dw]):=lH (by rw[O,a2];exact eO _ _);replace G:=rW G r;replace HV:=lH (HV.o.below r);replace t:=bT t r;clear r
      go_upto_region 16 with (fail)
      rw[<- O, <- a2];clear O a2;obtain⟨k0,k1,k2,k3⟩:=aT4 RR.o;have kl:=RR.o.lt;go_wp2_with fail
      clear k0 k1 k2 k3 kl;refine(fQ _ V _ HV.o).mono ?_;rintro e w6 ⟨rfl,r⟩;replace G:=rW G r;replace t:=bT t r;clear r;by_cases Z:V.num=0
      ·have hs:sgI V.num=0:=by rw[Z];rfl
       have HQ:=lH Z;clear Z;rw[hs];go_wp2_with fail
       go_returns;have ac:V=0:=Rat.num_eq_zero.1 HQ.o;have M:fG n d f (k)=19:=by unfold fG;rw[if_neg (by have:=C1.o;have:=C2.o;omega),if_neg C3.o,if_neg (by rw[<- HE.o];decide),if_pos (by rw[HL.o,ac];kernel_rfl)]
       exact⟨⟨_,rfl, .inr ⟨by have:=N1.o;omega,by have:=N2.o;omega, .inr ⟨H0.o, .inr ⟨by have:=U.o;omega, .inl ⟨k,Y,HF.o,by rw[M];decide,M.symm⟩⟩⟩⟩⟩,t.o⟩
      ·have hs:¬sgI V.num=0:=by unfold sgI;split <;> (try split) <;> omega
       have am:(sgI V.num==0)=false:=by simpa using hs
       have HQ:=lH Z;clear Z;have ak:N <= 1000000000:=by have:=U.o;omega
       go_wp2_with fail
       go_roundw
       case rel=>
        refine⟨k+1,Y,by simp,lH (fun j hj=> ?_),G,t⟩;by_cases e:j<k
        ·exact HF.o j e
        obtain rfl:j=k:=oM
        unfold fG;rw[if_neg (by have:=C1.o;have:=C2.o;omega),if_neg C3.o,if_neg (by rw[<- HE.o];decide),if_neg];rw[HL.o,show [48]=fB 0 by kernel_rfl];intro e;exact HQ.o (by rw[kZ e];rfl)
       case measure=>exact mZ
  ·obtain rfl:N=k:=oM
   go_wp2_with fail
   go_returns;exact⟨⟨0,rfl, .inr ⟨by have:=N1.o;omega,by have:=N2.o;omega, .inr ⟨H0.o, .inr ⟨by have:=U.o;omega, .inr ⟨HF.o,rfl⟩⟩⟩⟩⟩,t.o⟩
end Go.Proofs.YtokagbahdkfagaaGreatDoor
