/- Parts of this proof: RatB Mul RatE. -/
import Derived.Test.YtdefghfjhgmpfaaGreatDoorMAE
import Derived.Test.YtdefghfjhgmpfaaGreatDoorMAK
import Derived.Test.YtdefghfjhgmpfaaGreatDoorMAC
import Derived.Test.YtdefghfjhgmpfaaGreatDoorMAL
namespace Go.Proofs.YtdefghfjhgmpfaaGreatDoor
open Tryz
section
open Go.RowKit
open Lp (RL)
set_option maxHeartbeats 1600000 in
theorem lG(va:Value)(a:Rat)(w:World)(ha:eO w va a)(hl:RL 8000000000000 a):
  Calls prog 106 #[va] w fun e w'=>e= .returned (.bool (decide (a.den=1))) /\ Below w.heap.size w w':=by
 obtain⟨sa,Aa,la,ca,ta,Ba,ma,da,rfl⟩:=ha.shape;obtain⟨aa,y,a6,hy⟩:=ha.parts;have HL:=lH hl;clear hl;by_cases h0:y=0
 ·subst h0;obtain⟨W,hW,F,E⟩:=eN1 w [.bool sa, .slice Aa la ca, .bool ta, .slice Ba ma da] 105;have G:=lH ((a6).below E.o);clear ha aa a6;have HY:=lH hy;clear hy;go_enter func106,ntmps106;go_wp2_with fail
  rw[<- hW];clear hW;go_wp2_with fail
  have h:=rG W;have a2:=F.o.lt;obtain⟨X,Y,Z,a0⟩:=aT4 F.o;have O:=lH (kC X (kC Y (kC Z (kN a0))));clear a2 X Y Z a0;refine rL O.o (fun i=>false) ?_;have T:=O.o _ h.o;refine tKs 0 3 T ?_;refine tKs 1 4 T ?_;refine rD 2 (fun K hK=> ?_);go_simp;refine(ko _ 0 _ (by exact G.o)).mono ?_;rintro e U ⟨rfl,t⟩;have t:Below W.heap.size W U:=bD t;replace E:=bT E t;replace h:=bT h t;rw[show sgI 0=0 from rfl];clear T t;have T:=O.o _ h.o;refine kH hK T ?_;clear hK K;refine tKs 3 6 T ?_;refine tKs 4 7 T ?_;refine tUs 5 8 T ?_;refine tUs 6 9 T ?_;refine tUs 7 10 T ?_;refine tUs 8 11 T ?_;refine tUs 9 12 T ?_;refine tKs 10 13 T ?_;refine tKs 11 2 T ?_;refine dN ?_ _;clear T O h;go_wp2_with fail
  go_returns;exact⟨by rw[show decide (a.den=1)=true from by have:=HY.o;have:=a.den_nz;simp;omega];rfl,E.o⟩
 ·have ac:y=(a.den:Int):=oM
  subst ac;have HN:=lH h0;clear h0 hy;obtain⟨W,hW,F,E⟩:=eN1 w [.bool sa, .slice Aa la ca, .bool ta, .slice Ba ma da] 105;have G:=lH ((a6).below E.o);clear ha aa a6;have a9:=HL.o.fB;have a7:=lH a9;clear a9;go_enter func106,ntmps106;go_wp2_with fail
  rw[<- hW];clear hW;have ab:sgI (a.den:Int)=1:=by have:=HN.o;unfold sgI;rw[if_neg oM,if_neg oM]
  have a8:=lH ab;clear ab;by_cases h1:a.den=1
  ·have H1:=lH h1;clear h1;have hc:gI (a.den:Int) 1=0:=by have:=H1.o;have:=HN.o;unfold gI;rw[if_neg oM,if_pos oM]
   have HC:=lH hc;clear hc;go_wp2_with fail
   have h:=rG W;have a1:Hid (Below W.heap.size W W.drew):=lH (Below.refl _ _).drew;have a2:=F.o.lt;obtain⟨X,Y,Z,a0⟩:=aT4 F.o;have O:=lH (kC X (kC Y (kC Z (kN a0))));have a3:True:=trivial;have a4:True:=trivial;have a5:True:=trivial
   go_region_held3 (fun w'=> w'.cell? ⟨w.heap.size,0,none⟩=some (.bool sa) /\ w'.cell? ⟨w.heap.size,1,none⟩=some (.slice Aa la ca) /\ w'.cell? ⟨w.heap.size,2,none⟩=some (.bool ta) /\ w'.cell? ⟨w.heap.size,3,none⟩=some (.slice Ba ma da))
    (first | (with_reducible exact O.o _ a1.o) | (with_reducible exact O.o _ h.o) | (exact O.o _ (h.o.trans ((eD _ _).mono h.o.size))) | (exact O.o _ (h.o.trans (((eD _ _).drew).mono h.o.size))) | go_keep)
    (first
     | (go_at_call 113
        have _t:=a3;refine(ko _ (a.den:Int) _ (by exact G.o)).mono ?_;rintro e U ⟨rfl,t⟩;have t:Below W.heap.size W U:=bD t;replace G:=lH (G.o.below t);replace F:=rW F t;replace E:=bT E t;replace h:=bT h t;rw[a8.o]
        clear t a3 _t)
     | (go_at_call 134
        have _t:=a4;refine(ku _).mono ?_;rintro e w2 ⟨vo,rfl,ho,R⟩;have R:Below U.heap.size U w2:=bD R;obtain⟨so,Ao,lo,co,rfl⟩:=ho.shape;have Vo:=lH ho;replace G:=lH (G.o.below R);replace F:=rW F R;replace E:=bT E R;replace h:=bT h R
        clear R a4 _t ho)
     | (go_at_call 133
        have _t:=a5;refine(jK _ _ (a.den:Int) 1 _ (by exact G.o) (by exact Vo.o) (a7.o.l1 dC) (pg.l1 dC)).mono ?_;rintro e w3 ⟨rfl,M⟩;have M:Below w2.heap.size w2 w3:=bD M;replace G:=lH (G.o.below M);replace Vo:=lH (Vo.o.below M);replace F:=rW F M;replace E:=bT E M;replace h:=bT h M;rw[HC.o]
        clear M a5 _t))
   clear a2 X Y Z a0 O h a1;go_wp2_with fail
   go_returns;exact⟨by rw[show decide (a.den=1)=true from by have:=H1.o;simp;try omega];rfl,E.o⟩
  ·have H1:=lH h1;clear h1;have hc:gI (a.den:Int) 1=1:=by have:=H1.o;have:=HN.o;unfold gI;rw[if_neg oM,if_neg oM]
   have HC:=lH hc;clear hc;go_wp2_with fail
   have h:=rG W;have a1:Hid (Below W.heap.size W W.drew):=lH (Below.refl _ _).drew;have a2:=F.o.lt;obtain⟨X,Y,Z,a0⟩:=aT4 F.o;have O:=lH (kC X (kC Y (kC Z (kN a0))));have a3:True:=trivial;have a4:True:=trivial;have a5:True:=trivial
   go_region_held3 (fun w'=> w'.cell? ⟨w.heap.size,0,none⟩=some (.bool sa) /\ w'.cell? ⟨w.heap.size,1,none⟩=some (.slice Aa la ca) /\ w'.cell? ⟨w.heap.size,2,none⟩=some (.bool ta) /\ w'.cell? ⟨w.heap.size,3,none⟩=some (.slice Ba ma da))
    (first | (with_reducible exact O.o _ a1.o) | (with_reducible exact O.o _ h.o) | (exact O.o _ (h.o.trans ((eD _ _).mono h.o.size))) | (exact O.o _ (h.o.trans (((eD _ _).drew).mono h.o.size))) | go_keep)
    (first
     | (go_at_call 113
        have _t:=a3;refine(ko _ (a.den:Int) _ (by exact G.o)).mono ?_;rintro e U ⟨rfl,t⟩;have t:Below W.heap.size W U:=bD t;replace G:=lH (G.o.below t);replace F:=rW F t;replace E:=bT E t;replace h:=bT h t;rw[a8.o]
        clear t a3 _t)
     | (go_at_call 134
        have _t:=a4;refine(ku _).mono ?_;rintro e w2 ⟨vo,rfl,ho,R⟩;have R:Below U.heap.size U w2:=bD R;obtain⟨so,Ao,lo,co,rfl⟩:=ho.shape;have Vo:=lH ho;replace G:=lH (G.o.below R);replace F:=rW F R;replace E:=bT E R;replace h:=bT h R
        clear R a4 _t ho)
     | (go_at_call 133
        have _t:=a5;refine(jK _ _ (a.den:Int) 1 _ (by exact G.o) (by exact Vo.o) (a7.o.l1 dC) (pg.l1 dC)).mono ?_;rintro e w3 ⟨rfl,M⟩;have M:Below w2.heap.size w2 w3:=bD M;replace G:=lH (G.o.below M);replace Vo:=lH (Vo.o.below M);replace F:=rW F M;replace E:=bT E M;replace h:=bT h M;rw[HC.o]
        clear M a5 _t))
   clear a2 X Y Z a0 O h a1;go_wp2_with fail
   go_returns;exact⟨by rw[show decide (a.den=1)=false from by have:=H1.o;simp;try omega];rfl,E.o⟩
end
section
open Go.RowKit
theorem jr(va vb:Value)(a b:Int)(w:World)(ha:eQ w va a)(hb:eQ w vb b)(aX:(ek a.natAbs).length<8796093022208)(aY:(ek b.natAbs).length<8796093022208):
  Calls prog 141 #[va,vb] w fun e w'=>∃v,e= .returned v /\ eQ w' v (a*b) /\ Below w.heap.size w w':=by
 obtain⟨A,ca,rfl,au,aD,aG⟩:=ha;obtain⟨B,cb,rfl,av,aE,aH⟩:=hb;have aw:=fF a.natAbs;have ax:=fF b.natAbs;have Z:=Dx a b;have am:=fu a.natAbs;have an:=fu b.natAbs;generalize ek a.natAbs=h at*;generalize ek b.natAbs=lb at*;rw[<- am, <- an] at Z;obtain⟨na,ak⟩:=eX (decide (a<0));obtain⟨nb,al⟩:=eX (decide (b<0));rw[<- ak, <- al] at Z ⊢;have aq:=lH Z;clear ak al am an Z au aD av aE;obtain⟨i0,aA,aK,aL,aM⟩:=info_parts mK;go_enter func141,ntmps141
 go_wp2_with (at_make;refine lM _ rfl (.tmp 17) (.tmp 17) 101 rfl 160 i0 (.int .u32 0) underlying101 aA aK aL rfl _ _ _ rfl rfl rfl rfl ?_ ?_ ?_)
 ·first | omega | (rw[aM];omega)
 ·unfold maxLen;omega
 obtain⟨W,hW⟩:=eX (((w.alloc (.cells #[.bool na, .slice A h.length ca] 103)).alloc (.cells #[.bool nb, .slice B lb.length cb] 103)).alloc (.cells #[.bool false, .slice none 0 0] 103));rw[<- hW];obtain⟨O,R,r3,a3,a2⟩:=kQ w (.cells #[.bool na, .slice A h.length ca] 103) (.cells #[.bool nb, .slice B lb.length cb] 103) (.cells #[.bool false, .slice none 0 0] 103);rw[<- hW] at O R r3 a3 a2;have O:Row W w.heap.size 103 [.bool na, .slice A h.length ca]:=O;have R:Row W (w.heap.size+1) 103 [.bool nb, .slice B lb.length cb]:=R;have r3:Row W (w.heap.size+2) 103 [.bool false, .slice none 0 0]:=r3;have f1:=O.at_ 1 rfl;have f2:=R.at_ 1 rfl;clear hW;intro w1 F a4 b3;have hr:=fI.made F;clear F;have HR:=lH hr;have a1:=lH a2;have aO:=lH a3;clear hr a2 a3;have U:=((fw a4).1 w.heap.size 1 oM).trans f1;have X:=((fw a4).1 (w.heap.size+1) 1 oM).trans f2;go_wp2_with fail
 go_loopw [22] (fun iv wr=>∃ (k:Nat) (lo:List Nat),k <= h.length /\ iv= .int .i64 k /\ fI wr (w.heap.size+1+1+1) lo /\ lo.length=h.length+lb.length /\ Dig lo /\ Hid (val lo=val (h.take k)*val lb) /\ Hid (∀j,k+lb.length <= j -> dg lo j=0) /\ Below (w.heap.size+1+1+1) W wr)
  (fun iv _=>h.length-(intOf iv).toNat)
 case atStart=>exact⟨0,_,Nat.zero_le _,rfl,HR.o,List.length_replicate,Dig.replicate _,by show _=_;rw[uw];simp[val],fun j _=>by rw[nG];split <;> rfl,a4⟩
 case round=>
  obtain⟨k,lo,hk,rfl,F,a5,ad,ah,hz,E⟩:=hrel;have a8:=lH ad;clear ad U X;have U:=((fw E).1 w.heap.size 1 oM).trans f1;have X:=((fw E).1 (w.heap.size+1) 1 oM).trans f2;by_cases aC:k<h.length
  ·obtain⟨b1,ao,rfl,aR,a9⟩:=Cells.at_ aG oM;have ab:=a9 k aC;have aT:((dg h k:Nat):Int)<4294967296:=by have:=aw k;omega
   have ac:=((fw E).1 b1 (ao+k) oM).trans (((fw a1.o).1 b1 (ao+k) oM).trans ab);clear a9 ab;go_wp2_with fail
   obtain⟨wo,a6⟩:=eX (wr);rw[<- a6];rw[<- a6] at F E U X ac;clear a6 wr
   go_loopw [8,30] (fun cv jv wr=>∃ (j c:Nat) (t:List Nat),j <= lb.length /\ cv= .int .u64 c /\ jv= .int .i64 j /\ fI wr (w.heap.size+1+1+1) t /\ t.length=h.length+lb.length /\ Dig t /\ ((c:Nat):Int)<4294967296 /\
     Hid (val t+BB^ (k+j)*c=val lo+BB^k* (dg h k*val (lb.take j))) /\ Hid (∀i,k+lb.length <= i -> dg t i=0) /\ Below (w.heap.size+1+1+1) W wr)
    (fun _ jv _=>lb.length-(intOf jv).toNat)
   case atStart=>exact⟨0,0,lo,Nat.zero_le _,rfl,rfl,F,a5,a8.o,by omega,by show _=_;simp[val],hz,E⟩
   case round=>
    obtain⟨j,c,t,hj,rfl,rfl,G,aj,ae,hc,ai,a7,M⟩:=hrel;have a0:=lH ae;clear ae;have aP:=((fw M).1 w.heap.size 1 oM).trans f1;have aQ:=((fw M).1 (w.heap.size+1) 1 oM).trans f2;clear U X ac;by_cases aB:j<lb.length
    ·obtain⟨b2,ap,rfl,aS,aa⟩:=Cells.at_ aH oM;have aV:=((fw M).1 b2 (ap+j) oM).trans (((fw a1.o).1 b2 (ap+j) oM).trans (aa j aB));have aU:((dg lb j:Nat):Int)<4294967296:=by have:=ax j;omega
     have az:=G.cell (j:=k+j) oM;have ay:=G.free (k+j);have aW:((dg t (k+j):Nat):Int)<4294967296:=by have:=a0.o (k+j);omega
     have hi:((k:Nat):Int)+ (j:Nat)<(h.length:Nat)+ (lb.length:Nat):=oM
     obtain⟨p,hp⟩:=eX (dg h k*dg lb j);have aZ:((dg h k:Nat):Int)* ((dg lb j:Nat):Int)=(p:Nat):=by rw[hp];simp
     have b0:((p:Nat):Int) <= 18446744065119617025:=by
      have:=Nat.mul_le_mul (show dg h k <= 4294967295 by omega) (show dg lb j <= 4294967295 by omega);omega
     have HP:=lH hp;clear hp aa;go_wp2_with fail
     go_roundw
     case rel=>
      have aF:=uG (lo:=t) (lb:=lb) (i:=k) (j:=j) (c:=c) (x:=dg h k) (s:=c+ (p+dg t (k+j))) (V:=val lo) oM ai (by rw[HP.o]);refine⟨j+1,(c+ (p+dg t (k+j))) / 4294967296,t.set (k+j) ((c+ (p+dg t (k+j)))%4294967296),by omega,by simp,by simp,G.set (k+j) _ (by simp),by rw[List.length_set];exact aj,a0.o.set _ _ (Nat.mod_lt _ oM),by omega,aF,?_,M.setCell (Nat.le_refl _) _⟩;intro i af;rw[iB,if_neg oM];exact a7.o i af
     case measure=>exact mZ
    ·obtain rfl:j=lb.length:=oM
     have az:=G.cell (j:=k+lb.length) oM;have ay:=G.free (k+lb.length);have hi:((k:Nat):Int)+ (lb.length:Nat)<(h.length:Nat)+ (lb.length:Nat):=oM
     go_wp2_with fail
     go_roundw
     case rel=>
      refine⟨k+1,t.set (k+lb.length) c,by omega,by simp,G.set (k+lb.length) c (by simp),by rw[List.length_set];exact aj,a0.o.set _ _ oM,xn oM (a7.o _ oM) ai ah,?_,M.setCell (Nat.le_refl _) _⟩;intro i af;rw[iB,if_neg oM];exact a7.o i oM
     case measure=>exact mZ
  ·obtain rfl:k=h.length:=oM
   have g3:=((fw E).1 w.heap.size 0 oM).trans (O.at_ 0 rfl);have g4:=((fw E).1 (w.heap.size+1) 0 oM).trans (R.at_ 0 rfl);go_wp2_with fail
   refine(lN _ _ lo _ ⟨_,_,by rw[a5],by rw[a5];exact Nat.le_refl _,by unfold maxLen;omega,F.u32,a8.o⟩).mono ?_;rintro e w2 ⟨v,rfl,ag,Y⟩;have b4:=F.lt;have T:Row w2 (w.heap.size+1+1) 103 [.bool false, .slice none 0 0]:=Row.below (Row.below r3 E oM) Y oM;have k1:=T.at_ 0 rfl;have k2:=T.at_ 1 rfl;have k3:=T.free 0;have k4:=T.free 1;have ar:Below w.heap.size w w2:=(a1.o.trans (E.mono oM)).trans (Y.mono oM)
   have aJ:sgn (!(na==nb)) (val lo)=a*b:=by
    rw[ah.o,iF (Nat.le_refl _), <- aq.o];rfl
   rw[aJ] at ag;obtain⟨A',c',rfl,h1,h2,h3⟩:=ag;have H3:=lH h3;have aN:=lH Y;clear h3 Y;go_wp2_with fail
   refine bodyPost_ret (v:= .agg #[.bool (decide (a*b<0)), .slice A' (ek (a*b).natAbs).length c']) (by simp[results,results141,go_sem,k1,k2]) rfl ?_;refine⟨_,rfl,⟨A',c',rfl,h1,h2,?_⟩,?_⟩
   ·exact H3.o.kept (je _ _ _ _ _ _) T (by simp)
   ·exact(ar.setCell (p:=⟨w.heap.size+1+1,0,none⟩) (by simp;omega) _).setCell (p:=⟨w.heap.size+1+1,1,none⟩) (by simp;omega) _
end
section
open Go.RowKit
open Lp (RL)
set_option maxHeartbeats 3200000 in
theorem pq(va vb:Value)(a b:Rat)(w:World)(ha:eO w va a)(hb:eO w vb b)(aC:RL 1000000000000 a)(aD:RL 1000000000000 b):
  Calls prog 128 #[va,vb] w fun e w'=>∃v,e= .returned v /\ eO w' v (a*b) /\ Below w.heap.size w w':=by
 obtain⟨sa,Aa,la,ca,ta,Ba,ma,da,rfl⟩:=ha.shape;obtain⟨sb,Ab,lb,cb,tb,Bb,mb,db,rfl⟩:=hb.shape;have a2:=lH aC;have a3:=lH aD;clear aC aD;by_cases ao:a.den=1
 ·have ap:=lH ao;clear ao;obtain⟨W,hW,t,RB,h,F⟩:=eN3 w [.bool sa, .slice Aa la ca, .bool ta, .slice Ba ma da] 105 [.bool sb, .slice Ab lb cb, .bool tb, .slice Bb mb db] 105 [.bool false, .slice none 0 0, .bool false, .slice none 0 0] 105;have G:=lH ((ha).below F.o);have M:=lH ((hb).below F.o);clear ha hb;obtain⟨k0,k1,k2,k3⟩:=aT4 t.o;have kl:=t.o.lt;go_enter func128,ntmps128;go_wp2_with fail
  rw[<- hW];clear hW;refine(lG _ a _ G.o (a2.o.mono dC)).mono ?_;rintro e w1 ⟨rfl,X⟩;replace G:=lH (G.o.below X);replace M:=lH (M.o.below X);replace t:=rW t X;replace RB:=rW RB X;replace h:=rW h X;replace F:=bT F X;clear X;clear k0 k1 k2 k3 kl;rw[show decide (a.den=1)=true from by simpa using ap.o];obtain⟨au,av,aw,ax⟩:=aT4 RB.o;have ay:=RB.o.lt;go_wp2_with fail
  clear au av aw ax ay;refine(lG _ b _ M.o (a3.o.mono dC)).mono ?_;rintro e w2 ⟨rfl,a0⟩;replace G:=lH (G.o.below a0);replace M:=lH (M.o.below a0);replace t:=rW t a0;replace RB:=rW RB a0;replace h:=rW h a0;replace F:=bT F a0;clear a0;by_cases X:b.den=1
  ·rw[show decide (b.den=1)=true from by simpa using X];have aA:=lH X;clear X;obtain⟨aK,aL,aM,aN⟩:=aT4 t.o;have aO:=t.o.lt;obtain⟨au,av,aw,ax⟩:=aT4 RB.o;have ay:=RB.o.lt;go_wp2_with fail
   clear aK aL aM aN aO au av aw ax ay;refine(jr _ _ a.num b.num _ G.o.parts.1 M.o.parts.1 ((a2.o.fE).l1 dC) ((a3.o.fE).l1 dC)).mono ?_;rintro e w3 ⟨vn,rfl,hn,R⟩;obtain⟨sn,An,ln,cn,rfl⟩:=hn.shape;have Vn:=lH hn;clear hn;replace h:=rW h R;replace F:=bT F R;clear R;obtain⟨af,ag,ah,ai⟩:=aT4 h.o;have aJ:=h.o.lt;have aE:=h.o.free 0;have aF:=h.o.free 1;have aG:=h.o.free 2;have aH:=h.o.free 3;have Y:=iY h.o dC oM F.o (eO.mk (q:=a*b) Vn.o (eQ.jU _) (ze ap.o aA.o).1.symm (.inr ⟨rfl,(ze ap.o aA.o).2⟩));have a4:=lH Y;clear Y;go_wp2_with fail
   refine bodyPost_ret (v:= .agg #[.bool sn, .slice An ln cn, .bool false, .slice none 0 0]) (by simp[results,results128,go_sem,af,ag,ah,ai]) rfl ?_;exact⟨_,rfl,a4.o.1,a4.o.2⟩
  ·rw[show decide (b.den=1)=false from by simpa using X];clear X;go_wp2_with fail
   have E:=rG w2;have ad:Hid (Below w2.heap.size w2 w2.drew):=lH (Below.refl _ _).drew;have aq:=t.o.lt;obtain⟨a5,a7,a9,ab⟩:=aT4 t.o;have ar:=RB.o.lt;obtain⟨a6,a8,aa,ac⟩:=aT4 RB.o;have KS:=lH (kC a5 (kC a7 (kC a9 (kC ab (kC a6 (kC a8 (kC aa (kN ac))))))));have az:=h.o.lt;have KT:=lH (k4C (w.heap.size+1+1) a5 (k4C (w.heap.size+1+1) a7 (k4C (w.heap.size+1+1) a9 (k4C (w.heap.size+1+1) ab (k4C (w.heap.size+1+1) a6 (k4C (w.heap.size+1+1) a8 (k4C (w.heap.size+1+1) aa (k4N (w.heap.size+1+1) ac))))))));clear az;have aj:True:=trivial;have ak:True:=trivial;have al:True:=trivial;have am:True:=trivial;have an:True:=trivial
   go_region_held3 (fun w'=> w'.cell? ⟨w.heap.size,0,none⟩=some (.bool sa) /\ w'.cell? ⟨w.heap.size,1,none⟩=some (.slice Aa la ca) /\ w'.cell? ⟨w.heap.size,2,none⟩=some (.bool ta) /\ w'.cell? ⟨w.heap.size,3,none⟩=some (.slice Ba ma da) /\ w'.cell? ⟨(w.heap.size+1),0,none⟩=some (.bool sb) /\ w'.cell? ⟨(w.heap.size+1),1,none⟩=some (.slice Ab lb cb) /\ w'.cell? ⟨(w.heap.size+1),2,none⟩=some (.bool tb) /\ w'.cell? ⟨(w.heap.size+1),3,none⟩=some (.slice Bb mb db))
    (first | (with_reducible exact KS.o _ ad.o) | (with_reducible exact KS.o _ E.o) | (with_reducible exact KT.o _ _ _ _ _ E.o) | (exact KS.o _ (E.o.trans ((eD _ _).mono E.o.size))) | (exact KS.o _ (E.o.trans (((eD _ _).drew).mono E.o.size))) | go_keep)
    (first
     | (go_at_call 141
        have _t:=aj;refine(jr _ _ a.num b.num _ (by exact G.o.parts.1) (by exact M.o.parts.1) ((a2.o.fE).l1 dC) ((a3.o.fE).l1 dC)).mono ?_;rintro e w3 ⟨vf,rfl,hf,R⟩;have R:Below w2.heap.size w2 w3:=bD R;obtain⟨sf,Af,lf,cf,rfl⟩:=hf.shape;have Z:=lH hf;replace G:=lH (G.o.below R);replace M:=lH (M.o.below R);replace t:=rW t R;replace RB:=rW RB R;replace h:=rW h R;replace F:=bT F R;replace E:=bT E R
        clear R aj _t hf)
     | (go_at_call 142
        have _t:=ak;refine(ji _ a _ (by exact G.o)).mono ?_;rintro e w4 ⟨vj,rfl,hj,U⟩;have U:Below w3.heap.size w3 w4:=bD U;obtain⟨sj,Aj,lj,cj,rfl⟩:=hj.shape;have Vj:=lH hj;replace G:=lH (G.o.below U);replace M:=lH (M.o.below U);replace Z:=lH (Z.o.below U);replace t:=rW t U;replace RB:=rW RB U;replace h:=rW h U;replace F:=bT F U;replace E:=bT E U
        clear U ak _t hj)
     | (go_at_call 142
        have _t:=al;refine(ji _ b _ (by exact M.o)).mono ?_;rintro e w5 ⟨vk,rfl,hk,T⟩;have T:Below w4.heap.size w4 w5:=bD T;obtain⟨sk,Ak,lk,ck,rfl⟩:=hk.shape;have Vk:=lH hk;replace G:=lH (G.o.below T);replace M:=lH (M.o.below T);replace Z:=lH (Z.o.below T);replace Vj:=lH (Vj.o.below T);replace t:=rW t T;replace RB:=rW RB T;replace h:=rW h T;replace F:=bT F T;replace E:=bT E T
        clear T al _t hk)
     | (go_at_call 141
        have _t:=am;refine(jr _ _ (a.den:Int) (b.den:Int) _ (by exact Vj.o) (by exact Vk.o) ((a2.o.fB).l1 dC) ((a3.o.fB).l1 dC)).mono ?_;rintro e w6 ⟨vo,rfl,ho,O⟩;have O:Below w5.heap.size w5 w6:=bD O;obtain⟨so,Ao,lo,co,rfl⟩:=ho.shape;have Vo:=lH ho;replace G:=lH (G.o.below O);replace M:=lH (M.o.below O);replace Z:=lH (Z.o.below O);replace Vj:=lH (Vj.o.below O);replace Vk:=lH (Vk.o.below O);replace t:=rW t O;replace RB:=rW RB O;replace h:=rW h O;replace F:=bT F O;replace E:=bT E O
        clear O am _t ho)
     | (go_at_call 154
        have _t:=an;refine(qJ _ _ (a.num*b.num) ((a.den:Int)* (b.den:Int)) _ (by exact Z.o) (by exact Vo.o) (by have h1:=a.den_nz;have h2:=b.den_nz;exact Int.mul_ne_zero oM oM) ((a2.o.fE.mul a3.o.fE).mono dC) ((a2.o.fB.mul a3.o.fB).mono dC)).mono ?_;rintro e w7 ⟨vr,rfl,Y,a1⟩;have a1:Below w6.heap.size w6 w7:=bD a1;obtain⟨sr,Ar,lr,cr,tr,Br,mr,dr,rfl⟩:=Y.shape;have Vr:=lH Y;replace G:=lH (G.o.below a1);replace M:=lH (M.o.below a1);replace Z:=lH (Z.o.below a1);replace Vj:=lH (Vj.o.below a1);replace Vk:=lH (Vk.o.below a1);replace Vo:=lH (Vo.o.below a1);replace t:=rW t a1;replace RB:=rW RB a1;replace h:=rW h a1;replace F:=bT F a1;replace E:=bT E a1;rw[vv] at Y;replace Vr:=lH Y;have Y:=iY h.o dC oM F.o Vr.o;have a4:=lH Y;clear Y;obtain⟨af,aE,ag,aF,ah,aG,ai,aH⟩:=aF4 h.o;have aJ:=h.o.lt
        clear a1 an _t Y))
   clear aq a5 a7 a9 ab ar a6 a8 aa ac KS E ad KT;go_wp2_with fail
   refine bodyPost_ret (v:= .agg #[.bool sr, .slice Ar lr cr, .bool tr, .slice Br mr dr]) (by simp[results,results128,go_sem,af,ag,ah,ai]) rfl ?_;exact⟨_,rfl,a4.o.1,a4.o.2⟩
 ·obtain⟨W,hW⟩:=eX ((((w.alloc (.cells #[.bool sa, .slice Aa la ca, .bool ta, .slice Ba ma da] 105)).alloc (.cells #[.bool sb, .slice Ab lb cb, .bool tb, .slice Bb mb db] 105)).alloc (.cells #[.bool false, .slice none 0 0, .bool false, .slice none 0 0] 105)));obtain⟨r0,r1,r2,aB,ae⟩:=kQ w (.cells #[.bool sa, .slice Aa la ca, .bool ta, .slice Ba ma da] 105) (.cells #[.bool sb, .slice Ab lb cb, .bool tb, .slice Bb mb db] 105) (.cells #[.bool false, .slice none 0 0, .bool false, .slice none 0 0] 105);rw[<- hW] at r0 r1 r2 aB ae;have t:Hid (Row W w.heap.size 105 [.bool sa, .slice Aa la ca, .bool ta, .slice Ba ma da]):=lH r0;have RB:Hid (Row W (w.heap.size+1) 105 [.bool sb, .slice Ab lb cb, .bool tb, .slice Bb mb db]):=lH r1;have h:Hid (Row W (w.heap.size+1+1) 105 [.bool false, .slice none 0 0, .bool false, .slice none 0 0]):=lH r2;have G:=lH ((ha).below ae);have M:=lH ((hb).below ae);have F:=lH ae;clear r0 r1 r2 aB ae;clear ha hb;obtain⟨k0,k1,k2,k3⟩:=aT4 t.o;have kl:=t.o.lt;go_enter func128,ntmps128;go_wp2_with fail
  rw[<- hW];clear hW;refine(lG _ a _ G.o (a2.o.mono dC)).mono ?_;rintro e w1 ⟨rfl,X⟩;replace G:=lH (G.o.below X);replace M:=lH (M.o.below X);replace t:=rW t X;replace RB:=rW RB X;replace h:=rW h X;replace F:=bT F X;clear X;clear k0 k1 k2 k3 kl;rw[show decide (a.den=1)=false from by simpa using ao];clear ao;go_wp2_with fail
  have E:=rG w1;have ad:Hid (Below w1.heap.size w1 w1.drew):=lH (Below.refl _ _).drew;have aq:=t.o.lt;obtain⟨a5,a7,a9,ab⟩:=aT4 t.o;have ar:=RB.o.lt;obtain⟨a6,a8,aa,ac⟩:=aT4 RB.o;have KS:=lH (kC a5 (kC a7 (kC a9 (kC ab (kC a6 (kC a8 (kC aa (kN ac))))))));have az:=h.o.lt;have KT:=lH (k4C (w.heap.size+1+1) a5 (k4C (w.heap.size+1+1) a7 (k4C (w.heap.size+1+1) a9 (k4C (w.heap.size+1+1) ab (k4C (w.heap.size+1+1) a6 (k4C (w.heap.size+1+1) a8 (k4C (w.heap.size+1+1) aa (k4N (w.heap.size+1+1) ac))))))));clear az;have aj:True:=trivial;have ak:True:=trivial;have al:True:=trivial;have am:True:=trivial;have an:True:=trivial
  go_region_held3 (fun w'=> w'.cell? ⟨w.heap.size,0,none⟩=some (.bool sa) /\ w'.cell? ⟨w.heap.size,1,none⟩=some (.slice Aa la ca) /\ w'.cell? ⟨w.heap.size,2,none⟩=some (.bool ta) /\ w'.cell? ⟨w.heap.size,3,none⟩=some (.slice Ba ma da) /\ w'.cell? ⟨(w.heap.size+1),0,none⟩=some (.bool sb) /\ w'.cell? ⟨(w.heap.size+1),1,none⟩=some (.slice Ab lb cb) /\ w'.cell? ⟨(w.heap.size+1),2,none⟩=some (.bool tb) /\ w'.cell? ⟨(w.heap.size+1),3,none⟩=some (.slice Bb mb db))
   (first | (with_reducible exact KS.o _ ad.o) | (with_reducible exact KS.o _ E.o) | (with_reducible exact KT.o _ _ _ _ _ E.o) | (exact KS.o _ (E.o.trans ((eD _ _).mono E.o.size))) | (exact KS.o _ (E.o.trans (((eD _ _).drew).mono E.o.size))) | go_keep)
   (first
    | (go_at_call 141
       have _t:=aj;refine(jr _ _ a.num b.num _ (by exact G.o.parts.1) (by exact M.o.parts.1) ((a2.o.fE).l1 dC) ((a3.o.fE).l1 dC)).mono ?_;rintro e w2 ⟨vf,rfl,hf,a0⟩;have a0:Below w1.heap.size w1 w2:=bD a0;obtain⟨sf,Af,lf,cf,rfl⟩:=hf.shape;have Z:=lH hf;replace G:=lH (G.o.below a0);replace M:=lH (M.o.below a0);replace t:=rW t a0;replace RB:=rW RB a0;replace h:=rW h a0;replace F:=bT F a0;replace E:=bT E a0
       clear a0 aj _t hf)
    | (go_at_call 142
       have _t:=ak;refine(ji _ a _ (by exact G.o)).mono ?_;rintro e w3 ⟨vj,rfl,hj,R⟩;have R:Below w2.heap.size w2 w3:=bD R;obtain⟨sj,Aj,lj,cj,rfl⟩:=hj.shape;have Vj:=lH hj;replace G:=lH (G.o.below R);replace M:=lH (M.o.below R);replace Z:=lH (Z.o.below R);replace t:=rW t R;replace RB:=rW RB R;replace h:=rW h R;replace F:=bT F R;replace E:=bT E R
       clear R ak _t hj)
    | (go_at_call 142
       have _t:=al;refine(ji _ b _ (by exact M.o)).mono ?_;rintro e w4 ⟨vk,rfl,hk,U⟩;have U:Below w3.heap.size w3 w4:=bD U;obtain⟨sk,Ak,lk,ck,rfl⟩:=hk.shape;have Vk:=lH hk;replace G:=lH (G.o.below U);replace M:=lH (M.o.below U);replace Z:=lH (Z.o.below U);replace Vj:=lH (Vj.o.below U);replace t:=rW t U;replace RB:=rW RB U;replace h:=rW h U;replace F:=bT F U;replace E:=bT E U
       clear U al _t hk)
    | (go_at_call 141
       have _t:=am;refine(jr _ _ (a.den:Int) (b.den:Int) _ (by exact Vj.o) (by exact Vk.o) ((a2.o.fB).l1 dC) ((a3.o.fB).l1 dC)).mono ?_;rintro e w5 ⟨vo,rfl,ho,T⟩;have T:Below w4.heap.size w4 w5:=bD T;obtain⟨so,Ao,lo,co,rfl⟩:=ho.shape;have Vo:=lH ho;replace G:=lH (G.o.below T);replace M:=lH (M.o.below T);replace Z:=lH (Z.o.below T);replace Vj:=lH (Vj.o.below T);replace Vk:=lH (Vk.o.below T);replace t:=rW t T;replace RB:=rW RB T;replace h:=rW h T;replace F:=bT F T;replace E:=bT E T
       clear T am _t ho)
    | (go_at_call 154
       have _t:=an;refine(qJ _ _ (a.num*b.num) ((a.den:Int)* (b.den:Int)) _ (by exact Z.o) (by exact Vo.o) (by have h1:=a.den_nz;have h2:=b.den_nz;exact Int.mul_ne_zero oM oM) ((a2.o.fE.mul a3.o.fE).mono dC) ((a2.o.fB.mul a3.o.fB).mono dC)).mono ?_;rintro e w6 ⟨vr,rfl,Y,O⟩;have O:Below w5.heap.size w5 w6:=bD O;obtain⟨sr,Ar,lr,cr,tr,Br,mr,dr,rfl⟩:=Y.shape;have Vr:=lH Y;replace G:=lH (G.o.below O);replace M:=lH (M.o.below O);replace Z:=lH (Z.o.below O);replace Vj:=lH (Vj.o.below O);replace Vk:=lH (Vk.o.below O);replace Vo:=lH (Vo.o.below O);replace t:=rW t O;replace RB:=rW RB O;replace h:=rW h O;replace F:=bT F O;replace E:=bT E O;rw[vv] at Y;replace Vr:=lH Y;have Y:=iY h.o dC oM F.o Vr.o;have a4:=lH Y;clear Y;obtain⟨af,aE,ag,aF,ah,aG,ai,aH⟩:=aF4 h.o;have aJ:=h.o.lt
       clear O an _t Y))
  clear aq a5 a7 a9 ab ar a6 a8 aa ac KS E ad KT;go_wp2_with fail
  refine bodyPost_ret (v:= .agg #[.bool sr, .slice Ar lr cr, .bool tr, .slice Br mr dr]) (by simp[results,results128,go_sem,af,ag,ah,ai]) rfl ?_;exact⟨_,rfl,a4.o.1,a4.o.2⟩
end
end Go.Proofs.YtdefghfjhgmpfaaGreatDoor
