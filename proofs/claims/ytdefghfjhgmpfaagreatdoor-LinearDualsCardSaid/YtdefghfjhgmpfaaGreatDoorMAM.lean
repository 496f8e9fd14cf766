/- Parts of this proof: RatB Mul RatE. -/
import Derived.Test.YtdefghfjhgmpfaaGreatDoorMAE
import Derived.Test.YtdefghfjhgmpfaaGreatDoorMAK
import Derived.Test.YtdefghfjhgmpfaaGreatDoorMAC
import Derived.Test.YtdefghfjhgmpfaaGreatDoorMAL
namespace Go.Proofs.YtdefghfjhgmpfaaGreatDoor
open Tryz
section
open Go.RowKit
open Lp (RL)
set_option maxHeartbeats 1600000 in
theorem lG(va:Value)(a:Rat)(w:World)(ha:eO w va a)(hl:RL 8000000000000 a):
  Calls prog 106 #[va] w fun e w'=>e= .returned (.bool (decide (a.den=1))) /\ Below w.heap.size w w':=by
 obtain⟨sa,Aa,la,ca,ta,Ba,ma,da,rfl⟩:=ha.shape;obtain⟨a9,y,a5,hy⟩:=ha.parts;have HL:=lH hl;clear hl;by_cases h0:y=0
 ·subst h0;obtain⟨W,hW,C,t⟩:=eN1 w [.bool sa, .slice Aa la ca, .bool ta, .slice Ba ma da] 105;have E:=lH ((a5).below t.o);clear ha a9 a5;have HY:=lH hy;clear hy;go_enter func106,ntmps106;go_wp2_with fail
  rw[<- hW];clear hW;go_wp2_with fail
  have h:=rG W;have a1:=C.o.lt;obtain⟨T,U,V,X⟩:=aT4 C.o;have G:=lH (kC T (kC U (kC V (kN X))));clear a1 T U V X;refine rL G.o (fun i=>false) ?_;have O:=G.o _ h.o;refine tKs 0 3 O ?_;refine tKs 1 4 O ?_;refine rD 2 (fun K hK=> ?_);go_simp;refine(ko _ 0 _ (by exact E.o)).mono ?_;rintro e R ⟨rfl,r⟩;have r:Below W.heap.size W R:=bD r;replace t:=bT t r;replace h:=bT h r;rw[show sgI 0=0 from rfl];clear O r;have O:=G.o _ h.o;refine kH hK O ?_;clear hK K;refine tKs 3 6 O ?_;refine tKs 4 7 O ?_;refine tUs 5 8 O ?_;refine tUs 6 9 O ?_;refine tUs 7 10 O ?_;refine tUs 8 11 O ?_;refine tUs 9 12 O ?_;refine tKs 10 13 O ?_;refine tKs 11 2 O ?_;refine dN ?_ _;clear O G h;go_wp2_with fail
  go_returns;exact⟨by rw[show decide (a.den=1)=true from by have:=HY.o;have:=a.den_nz;simp;omega];rfl,t.o⟩
 ·have ab:y=(a.den:Int):=oM
  subst ab;have HN:=lH h0;clear h0 hy;obtain⟨W,hW,C,t⟩:=eN1 w [.bool sa, .slice Aa la ca, .bool ta, .slice Ba ma da] 105;have E:=lH ((a5).below t.o);clear ha a9 a5;have a8:=HL.o.fB;have a6:=lH a8;clear a8;go_enter func106,ntmps106;go_wp2_with fail
  rw[<- hW];clear hW;have aa:sgI (a.den:Int)=1:=by have:=HN.o;unfold sgI;rw[if_neg oM,if_neg oM]
  have a7:=lH aa;clear aa;by_cases h1:a.den=1
  ·have H1:=lH h1;clear h1;have hc:gI (a.den:Int) 1=0:=by have:=H1.o;have:=HN.o;unfold gI;rw[if_neg oM,if_pos oM]
   have HC:=lH hc;clear hc;go_wp2_with fail
   have h:=rG W;have a0:Hid (Below W.heap.size W W.drew):=lH (Below.refl _ _).drew;have a1:=C.o.lt;obtain⟨T,U,V,X⟩:=aT4 C.o;have G:=lH (kC T (kC U (kC V (kN X))));have a2:True:=trivial;have a3:True:=trivial;have a4:True:=trivial
   go_region_held3 (fun w'=> w'.cell? ⟨w.heap.size,0,none⟩=some (.bool sa) /\ w'.cell? ⟨w.heap.size,1,none⟩=some (.slice Aa la ca) /\ w'.cell? ⟨w.heap.size,2,none⟩=some (.bool ta) /\ w'.cell? ⟨w.heap.size,3,none⟩=some (.slice Ba ma da))
    (first | (with_reducible exact G.o _ a0.o) | (with_reducible exact G.o _ h.o) | (exact G.o _ (h.o.trans ((eD _ _).mono h.o.size))) | (exact G.o _ (h.o.trans (((eD _ _).drew).mono h.o.size))) | go_keep)
    (first
     | (go_at_call 113
        have _t:=a2;refine(ko _ (a.den:Int) _ (by exact E.o)).mono ?_;rintro e R ⟨rfl,r⟩;have r:Below W.heap.size W R:=bD r;replace E:=lH (E.o.below r);replace C:=rW C r;replace t:=bT t r;replace h:=bT h r;rw[a7.o]
        clear r a2 _t)
     | (go_at_call 134
        have _t:=a3;refine(ku _).mono ?_;rintro e w2 ⟨vo,rfl,Z,M⟩;have M:Below R.heap.size R w2:=bD M;obtain⟨so,Ao,lo,co,rfl⟩:=Z.shape;have Y:=lH Z;replace E:=lH (E.o.below M);replace C:=rW C M;replace t:=bT t M;replace h:=bT h M
        clear M a3 _t Z)
     | (go_at_call 133
        have _t:=a4;refine(jK _ _ (a.den:Int) 1 _ (by exact E.o) (by exact Y.o) (a6.o.l1 dC) (pg.l1 dC)).mono ?_;rintro e w3 ⟨rfl,F⟩;have F:Below w2.heap.size w2 w3:=bD F;replace E:=lH (E.o.below F);replace Y:=lH (Y.o.below F);replace C:=rW C F;replace t:=bT t F;replace h:=bT h F;rw[HC.o]
        clear F a4 _t))
   clear a1 T U V X G h a0;go_wp2_with fail
   go_returns;exact⟨by rw[show decide (a.den=1)=true from by have:=H1.o;simp;try omega];rfl,t.o⟩
  ·have H1:=lH h1;clear h1;have hc:gI (a.den:Int) 1=1:=by have:=H1.o;have:=HN.o;unfold gI;rw[if_neg oM,if_neg oM]
   have HC:=lH hc;clear hc;go_wp2_with fail
   have h:=rG W;have a0:Hid (Below W.heap.size W W.drew):=lH (Below.refl _ _).drew;have a1:=C.o.lt;obtain⟨T,U,V,X⟩:=aT4 C.o;have G:=lH (kC T (kC U (kC V (kN X))));have a2:True:=trivial;have a3:True:=trivial;have a4:True:=trivial
   go_region_held3 (fun w'=> w'.cell? ⟨w.heap.size,0,none⟩=some (.bool sa) /\ w'.cell? ⟨w.heap.size,1,none⟩=some (.slice Aa la ca) /\ w'.cell? ⟨w.heap.size,2,none⟩=some (.bool ta) /\ w'.cell? ⟨w.heap.size,3,none⟩=some (.slice Ba ma da))
    (first | (with_reducible exact G.o _ a0.o) | (with_reducible exact G.o _ h.o) | (exact G.o _ (h.o.trans ((eD _ _).mono h.o.size))) | (exact G.o _ (h.o.trans (((eD _ _).drew).mono h.o.size))) | go_keep)
    (first
     | (go_at_call 113
        have _t:=a2;refine(ko _ (a.den:Int) _ (by exact E.o)).mono ?_;rintro e R ⟨rfl,r⟩;have r:Below W.heap.size W R:=bD r;replace E:=lH (E.o.below r);replace C:=rW C r;replace t:=bT t r;replace h:=bT h r;rw[a7.o]
        clear r a2 _t)
     | (go_at_call 134
        have _t:=a3;refine(ku _).mono ?_;rintro e w2 ⟨vo,rfl,Z,M⟩;have M:Below R.heap.size R w2:=bD M;obtain⟨so,Ao,lo,co,rfl⟩:=Z.shape;have Y:=lH Z;replace E:=lH (E.o.below M);replace C:=rW C M;replace t:=bT t M;replace h:=bT h M
        clear M a3 _t Z)
     | (go_at_call 133
        have _t:=a4;refine(jK _ _ (a.den:Int) 1 _ (by exact E.o) (by exact Y.o) (a6.o.l1 dC) (pg.l1 dC)).mono ?_;rintro e w3 ⟨rfl,F⟩;have F:Below w2.heap.size w2 w3:=bD F;replace E:=lH (E.o.below F);replace Y:=lH (Y.o.below F);replace C:=rW C F;replace t:=bT t F;replace h:=bT h F;rw[HC.o]
        clear F a4 _t))
   clear a1 T U V X G h a0;go_wp2_with fail
   go_returns;exact⟨by rw[show decide (a.den=1)=false from by have:=H1.o;simp;try omega];rfl,t.o⟩
end
section
open Go.RowKit
theorem jr(va vb:Value)(a b:Int)(w:World)(ha:eQ w va a)(hb:eQ w vb b)(aX:(ek a.natAbs).length<8796093022208)(aY:(ek b.natAbs).length<8796093022208):
  Calls prog 141 #[va,vb] w fun e w'=>∃v,e= .returned v /\ eQ w' v (a*b) /\ Below w.heap.size w w':=by
 obtain⟨A,ca,rfl,au,aD,aG⟩:=ha;obtain⟨B,cb,rfl,av,aE,aH⟩:=hb;have aw:=fF a.natAbs;have ax:=fF b.natAbs;have X:=Dx a b;have am:=fu a.natAbs;have an:=fu b.natAbs;generalize ek a.natAbs=h at*;generalize ek b.natAbs=lb at*;rw[<- am, <- an] at X;obtain⟨Y,ak⟩:=eX (decide (a<0));obtain⟨Z,al⟩:=eX (decide (b<0));rw[<- ak, <- al] at X ⊢;have aq:=lH X;clear ak al am an X au aD av aE;obtain⟨i0,aA,aK,aL,aM⟩:=info_parts mK;go_enter func141,ntmps141
 go_wp2_with (at_make;refine lM _ rfl (.tmp 17) (.tmp 17) 101 rfl 160 i0 (.int .u32 0) underlying101 aA aK aL rfl _ _ _ rfl rfl rfl rfl ?_ ?_ ?_)
 ·first | omega | (rw[aM];omega)
 ·unfold maxLen;omega
 obtain⟨W,hW⟩:=eX (((w.alloc (.cells #[.bool Y, .slice A h.length ca] 103)).alloc (.cells #[.bool Z, .slice B lb.length cb] 103)).alloc (.cells #[.bool false, .slice none 0 0] 103));rw[<- hW];obtain⟨G,M,r3,a3,a2⟩:=kQ w (.cells #[.bool Y, .slice A h.length ca] 103) (.cells #[.bool Z, .slice B lb.length cb] 103) (.cells #[.bool false, .slice none 0 0] 103);rw[<- hW] at G M r3 a3 a2;have G:Row W w.heap.size 103 [.bool Y, .slice A h.length ca]:=G;have M:Row W (w.heap.size+1) 103 [.bool Z, .slice B lb.length cb]:=M;have r3:Row W (w.heap.size+2) 103 [.bool false, .slice none 0 0]:=r3;have f1:=G.at_ 1 rfl;have f2:=M.at_ 1 rfl;clear hW;intro w1 C a4 b3;have hr:=fI.made C;clear C;have HR:=lH hr;have a1:=lH a2;have aO:=lH a3;clear hr a2 a3;have R:=((fw a4).1 w.heap.size 1 oM).trans f1;have T:=((fw a4).1 (w.heap.size+1) 1 oM).trans f2;go_wp2_with fail
 go_loopw [22] (fun iv wr=>∃ (k:Nat) (lo:List Nat),k <= h.length /\ iv= .int .i64 k /\ fI wr (w.heap.size+1+1+1) lo /\ lo.length=h.length+lb.length /\ Dig lo /\ Hid (val lo=val (h.take k)*val lb) /\ Hid (∀j,k+lb.length <= j -> dg lo j=0) /\ Below (w.heap.size+1+1+1) W wr)
  (fun iv _=>h.length-(intOf iv).toNat)
 case atStart=>exact⟨0,_,Nat.zero_le _,rfl,HR.o,List.length_replicate,Dig.replicate _,by show _=_;rw[uw];simp[val],fun j _=>by rw[nG];split <;> rfl,a4⟩
 case round=>
  obtain⟨k,lo,hk,rfl,C,a5,ad,ah,hz,t⟩:=hrel;have a8:=lH ad;clear ad R T;have R:=((fw t).1 w.heap.size 1 oM).trans f1;have T:=((fw t).1 (w.heap.size+1) 1 oM).trans f2;by_cases aC:k<h.length
  ·obtain⟨b1,ao,rfl,aR,a9⟩:=Cells.at_ aG oM;have ab:=a9 k aC;have aT:((dg h k:Nat):Int)<4294967296:=by have:=aw k;omega
   have ac:=((fw t).1 b1 (ao+k) oM).trans (((fw a1.o).1 b1 (ao+k) oM).trans ab);clear a9 ab;go_wp2_with fail
   obtain⟨wo,a6⟩:=eX (wr);rw[<- a6];rw[<- a6] at C t R T ac;clear a6 wr
   go_loopw [8,30] (fun cv jv wr=>∃ (j c:Nat) (r:List Nat),j <= lb.length /\ cv= .int .u64 c /\ jv= .int .i64 j /\ fI wr (w.heap.size+1+1+1) r /\ r.length=h.length+lb.length /\ Dig r /\ ((c:Nat):Int)<4294967296 /\
     Hid (val r+BB^ (k+j)*c=val lo+BB^k* (dg h k*val (lb.take j))) /\ Hid (∀i,k+lb.length <= i -> dg r i=0) /\ Below (w.heap.size+1+1+1) W wr)
    (fun _ jv _=>lb.length-(intOf jv).toNat)
   case atStart=>exact⟨0,0,lo,Nat.zero_le _,rfl,rfl,C,a5,a8.o,by omega,by show _=_;simp[val],hz,t⟩
   case round=>
    obtain⟨j,c,r,hj,rfl,rfl,E,aj,ae,hc,ai,a7,F⟩:=hrel;have a0:=lH ae;clear ae;have aP:=((fw F).1 w.heap.size 1 oM).trans f1;have aQ:=((fw F).1 (w.heap.size+1) 1 oM).trans f2;clear R T ac;by_cases aB:j<lb.length
    ·obtain⟨b2,ap,rfl,aS,aa⟩:=Cells.at_ aH oM;have aV:=((fw F).1 b2 (ap+j) oM).trans (((fw a1.o).1 b2 (ap+j) oM).trans (aa j aB));have aU:((dg lb j:Nat):Int)<4294967296:=by have:=ax j;omega
     have az:=E.cell (j:=k+j) oM;have ay:=E.free (k+j);have aW:((dg r (k+j):Nat):Int)<4294967296:=by have:=a0.o (k+j);omega
     have hi:((k:Nat):Int)+ (j:Nat)<(h.length:Nat)+ (lb.length:Nat):=oM
     obtain⟨p,hp⟩:=eX (dg h k*dg lb j);have aZ:((dg h k:Nat):Int)* ((dg lb j:Nat):Int)=(p:Nat):=by rw[hp];simp
     have b0:((p:Nat):Int) <= 18446744065119617025:=by
      have:=Nat.mul_le_mul (show dg h k <= 4294967295 by omega) (show dg lb j <= 4294967295 by omega);omega
     have HP:=lH hp;clear hp aa;go_wp2_with fail
     go_roundw
     case rel=>
      have aF:=uG (lo:=r) (lb:=lb) (i:=k) (j:=j) (c:=c) (x:=dg h k) (s:=c+ (p+dg r (k+j))) (V:=val lo) oM ai (by rw[HP.o]);refine⟨j+1,(c+ (p+dg r (k+j))) / 4294967296,r.set (k+j) ((c+ (p+dg r (k+j)))%4294967296),by omega,by simp,by simp,E.set (k+j) _ (by simp),by rw[List.length_set];exact aj,a0.o.set _ _ (Nat.mod_lt _ oM),by omega,aF,?_,F.setCell (Nat.le_refl _) _⟩;intro i af;rw[iB,if_neg oM];exact a7.o i af
     case measure=>exact mZ
    ·obtain rfl:j=lb.length:=oM
     have az:=E.cell (j:=k+lb.length) oM;have ay:=E.free (k+lb.length);have hi:((k:Nat):Int)+ (lb.length:Nat)<(h.length:Nat)+ (lb.length:Nat):=oM
     go_wp2_with fail
     go_roundw
     case rel=>
      refine⟨k+1,r.set (k+lb.length) c,by omega,by simp,E.set (k+lb.length) c (by simp),by rw[List.length_set];exact aj,a0.o.set _ _ oM,xn oM (a7.o _ oM) ai ah,?_,F.setCell (Nat.le_refl _) _⟩;intro i af;rw[iB,if_neg oM];exact a7.o i oM
     case measure=>exact mZ
  ·obtain rfl:k=h.length:=oM
   have g3:=((fw t).1 w.heap.size 0 oM).trans (G.at_ 0 rfl);have g4:=((fw t).1 (w.heap.size+1) 0 oM).trans (M.at_ 0 rfl);go_wp2_with fail
   refine(lN _ _ lo _ ⟨_,_,by rw[a5],by rw[a5];exact Nat.le_refl _,by unfold maxLen;omega,C.u32,a8.o⟩).mono ?_;rintro e w2 ⟨v,rfl,ag,U⟩;have b4:=C.lt;have O:Row w2 (w.heap.size+1+1) 103 [.bool false, .slice none 0 0]:=Row.below (Row.below r3 t oM) U oM;have k1:=O.at_ 0 rfl;have k2:=O.at_ 1 rfl;have k3:=O.free 0;have k4:=O.free 1;have ar:Below w.heap.size w w2:=(a1.o.trans (t.mono oM)).trans (U.mono oM)
   have aJ:sgn (!(Y==Z)) (val lo)=a*b:=by
    rw[ah.o,iF (Nat.le_refl _), <- aq.o];rfl
   rw[aJ] at ag;obtain⟨A',c',rfl,h1,h2,h3⟩:=ag;have H3:=lH h3;have aN:=lH U;clear h3 U;go_wp2_with fail
   refine bodyPost_ret (v:= .agg #[.bool (decide (a*b<0)), .slice A' (ek (a*b).natAbs).length c']) (by simp[results,results141,go_sem,k1,k2]) rfl ?_;refine⟨_,rfl,⟨A',c',rfl,h1,h2,?_⟩,?_⟩
   ·exact H3.o.kept (je _ _ _ _ _ _) O (by simp)
   ·exact(ar.setCell (p:=⟨w.heap.size+1+1,0,none⟩) (by simp;omega) _).setCell (p:=⟨w.heap.size+1+1,1,none⟩) (by simp;omega) _
end
section
open Go.RowKit
open Lp (RL)
set_option maxHeartbeats 3200000 in
theorem pq(va vb:Value)(a b:Rat)(w:World)(ha:eO w va a)(hb:eO w vb b)(aA:RL 1000000000000 a)(aB:RL 1000000000000 b):
  Calls prog 128 #[va,vb] w fun e w'=>∃v,e= .returned v /\ eO w' v (a*b) /\ Below w.heap.size w w':=by
 obtain⟨sa,Aa,la,ca,ta,Ba,ma,da,rfl⟩:=ha.shape;obtain⟨sb,Ab,lb,cb,tb,Bb,mb,db,rfl⟩:=hb.shape;have a0:=lH aA;have a1:=lH aB;clear aA aB;by_cases am:a.den=1
 ·have an:=lH am;clear am;obtain⟨W,hW,r,RB,h,C⟩:=eN3 w [.bool sa, .slice Aa la ca, .bool ta, .slice Ba ma da] 105 [.bool sb, .slice Ab lb cb, .bool tb, .slice Bb mb db] 105 [.bool false, .slice none 0 0, .bool false, .slice none 0 0] 105;have E:=lH ((ha).below C.o);have F:=lH ((hb).below C.o);clear ha hb;obtain⟨k0,k1,k2,k3⟩:=aT4 r.o;have kl:=r.o.lt;go_enter func128,ntmps128;go_wp2_with fail
  rw[<- hW];clear hW;refine(lG _ a _ E.o (a0.o.mono dC)).mono ?_;rintro e w1 ⟨rfl,T⟩;replace E:=lH (E.o.below T);replace F:=lH (F.o.below T);replace r:=rW r T;replace RB:=rW RB T;replace h:=rW h T;replace C:=bT C T;clear T;clear k0 k1 k2 k3 kl;rw[show decide (a.den=1)=true from by simpa using an.o];obtain⟨aq,ar,au,av⟩:=aT4 RB.o;have aw:=RB.o.lt;go_wp2_with fail
  clear aq ar au av aw;refine(lG _ b _ F.o (a1.o.mono dC)).mono ?_;rintro e w2 ⟨rfl,X⟩;replace E:=lH (E.o.below X);replace F:=lH (F.o.below X);replace r:=rW r X;replace RB:=rW RB X;replace h:=rW h X;replace C:=bT C X;clear X;by_cases T:b.den=1
  ·rw[show decide (b.den=1)=true from by simpa using T];have ay:=lH T;clear T;obtain⟨aH,aJ,aK,aL⟩:=aT4 r.o;have aM:=r.o.lt;obtain⟨aq,ar,au,av⟩:=aT4 RB.o;have aw:=RB.o.lt;go_wp2_with fail
   clear aH aJ aK aL aM aq ar au av aw;refine(jr _ _ a.num b.num _ E.o.parts.1 F.o.parts.1 ((a0.o.fE).l1 dC) ((a1.o.fE).l1 dC)).mono ?_;rintro e w3 ⟨vn,rfl,hn,M⟩;obtain⟨sn,An,ln,cn,rfl⟩:=hn.shape;have Vn:=lH hn;clear hn;replace h:=rW h M;replace C:=bT C M;clear M;obtain⟨ad,ae,af,ag⟩:=aT4 h.o;have aG:=h.o.lt;have aC:=h.o.free 0;have aD:=h.o.free 1;have aE:=h.o.free 2;have aF:=h.o.free 3;have U:=iY h.o dC oM C.o (eO.mk (q:=a*b) Vn.o (eQ.jU _) (ze an.o ay.o).1.symm (.inr ⟨rfl,(ze an.o ay.o).2⟩));have a2:=lH U;clear U;go_wp2_with fail
   refine bodyPost_ret (v:= .agg #[.bool sn, .slice An ln cn, .bool false, .slice none 0 0]) (by simp[results,results128,go_sem,ad,ae,af,ag]) rfl ?_;exact⟨_,rfl,a2.o.1,a2.o.2⟩
  ·rw[show decide (b.den=1)=false from by simpa using T];clear T;go_wp2_with fail
   have t:=rG w2;have ab:Hid (Below w2.heap.size w2 w2.drew):=lH (Below.refl _ _).drew;have ao:=r.o.lt;obtain⟨a3,a5,a7,a9⟩:=aT4 r.o;have ap:=RB.o.lt;obtain⟨a4,a6,a8,aa⟩:=aT4 RB.o;have KS:=lH (kC a3 (kC a5 (kC a7 (kC a9 (kC a4 (kC a6 (kC a8 (kN aa))))))));have ax:=h.o.lt;have KT:=lH (k4C (w.heap.size+1+1) a3 (k4C (w.heap.size+1+1) a5 (k4C (w.heap.size+1+1) a7 (k4C (w.heap.size+1+1) a9 (k4C (w.heap.size+1+1) a4 (k4C (w.heap.size+1+1) a6 (k4C (w.heap.size+1+1) a8 (k4N (w.heap.size+1+1) aa))))))));clear ax;have ah:True:=trivial;have ai:True:=trivial;have aj:True:=trivial;have ak:True:=trivial;have al:True:=trivial
   go_region_held3 (fun w'=> w'.cell? ⟨w.heap.size,0,none⟩=some (.bool sa) /\ w'.cell? ⟨w.heap.size,1,none⟩=some (.slice Aa la ca) /\ w'.cell? ⟨w.heap.size,2,none⟩=some (.bool ta) /\ w'.cell? ⟨w.heap.size,3,none⟩=some (.slice Ba ma da) /\ w'.cell? ⟨(w.heap.size+1),0,none⟩=some (.bool sb) /\ w'.cell? ⟨(w.heap.size+1),1,none⟩=some (.slice Ab lb cb) /\ w'.cell? ⟨(w.heap.size+1),2,none⟩=some (.bool tb) /\ w'.cell? ⟨(w.heap.size+1),3,none⟩=some (.slice Bb mb db))
    (first | (with_reducible exact KS.o _ ab.o) | (with_reducible exact KS.o _ t.o) | (with_reducible exact KT.o _ _ _ _ _ t.o) | (exact KS.o _ (t.o.trans ((eD _ _).mono t.o.size))) | (exact KS.o _ (t.o.trans (((eD _ _).drew).mono t.o.size))) | go_keep)
    (first
     | (go_at_call 141
        have _t:=ah;refine(jr _ _ a.num b.num _ (by exact E.o.parts.1) (by exact F.o.parts.1) ((a0.o.fE).l1 dC) ((a1.o.fE).l1 dC)).mono ?_;rintro e w3 ⟨vf,rfl,hf,M⟩;have M:Below w2.heap.size w2 w3:=bD M;obtain⟨sf,Af,lf,cf,rfl⟩:=hf.shape;have V:=lH hf;replace E:=lH (E.o.below M);replace F:=lH (F.o.below M);replace r:=rW r M;replace RB:=rW RB M;replace h:=rW h M;replace C:=bT C M;replace t:=bT t M
        clear M ah _t hf)
     | (go_at_call 142
        have _t:=ai;refine(ji _ a _ (by exact E.o)).mono ?_;rintro e w4 ⟨vj,rfl,hj,R⟩;have R:Below w3.heap.size w3 w4:=bD R;obtain⟨sj,Aj,lj,cj,rfl⟩:=hj.shape;have Y:=lH hj;replace E:=lH (E.o.below R);replace F:=lH (F.o.below R);replace V:=lH (V.o.below R);replace r:=rW r R;replace RB:=rW RB R;replace h:=rW h R;replace C:=bT C R;replace t:=bT t R
        clear R ai _t hj)
     | (go_at_call 142
        have _t:=aj;refine(ji _ b _ (by exact F.o)).mono ?_;rintro e w5 ⟨vk,rfl,hk,O⟩;have O:Below w4.heap.size w4 w5:=bD O;obtain⟨sk,Ak,lk,ck,rfl⟩:=hk.shape;have Vk:=lH hk;replace E:=lH (E.o.below O);replace F:=lH (F.o.below O);replace V:=lH (V.o.below O);replace Y:=lH (Y.o.below O);replace r:=rW r O;replace RB:=rW RB O;replace h:=rW h O;replace C:=bT C O;replace t:=bT t O
        clear O aj _t hk)
     | (go_at_call 141
        have _t:=ak;refine(jr _ _ (a.den:Int) (b.den:Int) _ (by exact Y.o) (by exact Vk.o) ((a0.o.fB).l1 dC) ((a1.o.fB).l1 dC)).mono ?_;rintro e w6 ⟨vo,rfl,ho,G⟩;have G:Below w5.heap.size w5 w6:=bD G;obtain⟨so,Ao,lo,co,rfl⟩:=ho.shape;have Vo:=lH ho;replace E:=lH (E.o.below G);replace F:=lH (F.o.below G);replace V:=lH (V.o.below G);replace Y:=lH (Y.o.below G);replace Vk:=lH (Vk.o.below G);replace r:=rW r G;replace RB:=rW RB G;replace h:=rW h G;replace C:=bT C G;replace t:=bT t G
        clear G ak _t ho)
     | (go_at_call 154
        have _t:=al;refine(qJ _ _ (a.num*b.num) ((a.den:Int)* (b.den:Int)) _ (by exact V.o) (by exact Vo.o) (by have h1:=a.den_nz;have h2:=b.den_nz;exact Int.mul_ne_zero oM oM) ((a0.o.fE.mul a1.o.fE).mono dC) ((a0.o.fB.mul a1.o.fB).mono dC)).mono ?_;rintro e w7 ⟨vr,rfl,U,Z⟩;have Z:Below w6.heap.size w6 w7:=bD Z;obtain⟨sr,Ar,lr,cr,tr,Br,mr,dr,rfl⟩:=U.shape;have Vr:=lH U;replace E:=lH (E.o.below Z);replace F:=lH (F.o.below Z);replace V:=lH (V.o.below Z);replace Y:=lH (Y.o.below Z);replace Vk:=lH (Vk.o.below Z);replace Vo:=lH (Vo.o.below Z);replace r:=rW r Z;replace RB:=rW RB Z;replace h:=rW h Z;replace C:=bT C Z;replace t:=bT t Z;rw[vv] at U;replace Vr:=lH U;have U:=iY h.o dC oM C.o Vr.o;have a2:=lH U;clear U;obtain⟨ad,aC,ae,aD,af,aE,ag,aF⟩:=aF4 h.o;have aG:=h.o.lt
        clear Z al _t U))
   clear ao a3 a5 a7 a9 ap a4 a6 a8 aa KS t ab KT;go_wp2_with fail
   refine bodyPost_ret (v:= .agg #[.bool sr, .slice Ar lr cr, .bool tr, .slice Br mr dr]) (by simp[results,results128,go_sem,ad,ae,af,ag]) rfl ?_;exact⟨_,rfl,a2.o.1,a2.o.2⟩
 ·obtain⟨W,hW⟩:=eX ((((w.alloc (.cells #[.bool sa, .slice Aa la ca, .bool ta, .slice Ba ma da] 105)).alloc (.cells #[.bool sb, .slice Ab lb cb, .bool tb, .slice Bb mb db] 105)).alloc (.cells #[.bool false, .slice none 0 0, .bool false, .slice none 0 0] 105)));obtain⟨r0,r1,r2,az,ac⟩:=kQ w (.cells #[.bool sa, .slice Aa la ca, .bool ta, .slice Ba ma da] 105) (.cells #[.bool sb, .slice Ab lb cb, .bool tb, .slice Bb mb db] 105) (.cells #[.bool false, .slice none 0 0, .bool false, .slice none 0 0] 105);rw[<- hW] at r0 r1 r2 az ac;have r:Hid (Row W w.heap.size 105 [.bool sa, .slice Aa la ca, .bool ta, .slice Ba ma da]):=lH r0;have RB:Hid (Row W (w.heap.size+1) 105 [.bool sb, .slice Ab lb cb, .bool tb, .slice Bb mb db]):=lH r1;have h:Hid (Row W (w.heap.size+1+1) 105 [.bool false, .slice none 0 0, .bool false, .slice none 0 0]):=lH r2;have E:=lH ((ha).below ac);have F:=lH ((hb).below ac);have C:=lH ac;clear r0 r1 r2 az ac;clear ha hb;obtain⟨k0,k1,k2,k3⟩:=aT4 r.o;have kl:=r.o.lt;go_enter func128,ntmps128;go_wp2_with fail
  rw[<- hW];clear hW;refine(lG _ a _ E.o (a0.o.mono dC)).mono ?_;rintro e w1 ⟨rfl,T⟩;replace E:=lH (E.o.below T);replace F:=lH (F.o.below T);replace r:=rW r T;replace RB:=rW RB T;replace h:=rW h T;replace C:=bT C T;clear T;clear k0 k1 k2 k3 kl;rw[show decide (a.den=1)=false from by simpa using am];clear am;go_wp2_with fail
  have t:=rG w1;have ab:Hid (Below w1.heap.size w1 w1.drew):=lH (Below.refl _ _).drew;have ao:=r.o.lt;obtain⟨a3,a5,a7,a9⟩:=aT4 r.o;have ap:=RB.o.lt;obtain⟨a4,a6,a8,aa⟩:=aT4 RB.o;have KS:=lH (kC a3 (kC a5 (kC a7 (kC a9 (kC a4 (kC a6 (kC a8 (kN aa))))))));have ax:=h.o.lt;have KT:=lH (k4C (w.heap.size+1+1) a3 (k4C (w.heap.size+1+1) a5 (k4C (w.heap.size+1+1) a7 (k4C (w.heap.size+1+1) a9 (k4C (w.heap.size+1+1) a4 (k4C (w.heap.size+1+1) a6 (k4C (w.heap.size+1+1) a8 (k4N (w.heap.size+1+1) aa))))))));clear ax;have ah:True:=trivial;have ai:True:=trivial;have aj:True:=trivial;have ak:True:=trivial;have al:True:=trivial
  go_region_held3 (fun w'=> w'.cell? ⟨w.heap.size,0,none⟩=some (.bool sa) /\ w'.cell? ⟨w.heap.size,1,none⟩=some (.slice Aa la ca) /\ w'.cell? ⟨w.heap.size,2,none⟩=some (.bool ta) /\ w'.cell? ⟨w.heap.size,3,none⟩=some (.slice Ba ma da) /\ w'.cell? ⟨(w.heap.size+1),0,none⟩=some (.bool sb) /\ w'.cell? ⟨(w.heap.size+1),1,none⟩=some (.slice Ab lb cb) /\ w'.cell? ⟨(w.heap.size+1),2,none⟩=some (.bool tb) /\ w'.cell? ⟨(w.heap.size+1),3,none⟩=some (.slice Bb mb db))
   (first | (with_reducible exact KS.o _ ab.o) | (with_reducible exact KS.o _ t.o) | (with_reducible exact KT.o _ _ _ _ _ t.o) | (exact KS.o _ (t.o.trans ((eD _ _).mono t.o.size))) | (exact KS.o _ (t.o.trans (((eD _ _).drew).mono t.o.size))) | go_keep)
   (first
    | (go_at_call 141
       have _t:=ah;refine(jr _ _ a.num b.num _ (by exact E.o.parts.1) (by exact F.o.parts.1) ((a0.o.fE).l1 dC) ((a1.o.fE).l1 dC)).mono ?_;rintro e w2 ⟨vf,rfl,hf,X⟩;have X:Below w1.heap.size w1 w2:=bD X;obtain⟨sf,Af,lf,cf,rfl⟩:=hf.shape;have V:=lH hf;replace E:=lH (E.o.below X);replace F:=lH (F.o.below X);replace r:=rW r X;replace RB:=rW RB X;replace h:=rW h X;replace C:=bT C X;replace t:=bT t X
       clear X ah _t hf)
    | (go_at_call 142
       have _t:=ai;refine(ji _ a _ (by exact E.o)).mono ?_;rintro e w3 ⟨vj,rfl,hj,M⟩;have M:Below w2.heap.size w2 w3:=bD M;obtain⟨sj,Aj,lj,cj,rfl⟩:=hj.shape;have Y:=lH hj;replace E:=lH (E.o.below M);replace F:=lH (F.o.below M);replace V:=lH (V.o.below M);replace r:=rW r M;replace RB:=rW RB M;replace h:=rW h M;replace C:=bT C M;replace t:=bT t M
       clear M ai _t hj)
    | (go_at_call 142
       have _t:=aj;refine(ji _ b _ (by exact F.o)).mono ?_;rintro e w4 ⟨vk,rfl,hk,R⟩;have R:Below w3.heap.size w3 w4:=bD R;obtain⟨sk,Ak,lk,ck,rfl⟩:=hk.shape;have Vk:=lH hk;replace E:=lH (E.o.below R);replace F:=lH (F.o.below R);replace V:=lH (V.o.below R);replace Y:=lH (Y.o.below R);replace r:=rW r R;replace RB:=rW RB R;replace h:=rW h R;replace C:=bT C R;replace t:=bT t R
       clear R aj _t hk)
    | (go_at_call 141
       have _t:=ak;refine(jr _ _ (a.den:Int) (b.den:Int) _ (by exact Y.o) (by exact Vk.o) ((a0.o.fB).l1 dC) ((a1.o.fB).l1 dC)).mono ?_;rintro e w5 ⟨vo,rfl,ho,O⟩;have O:Below w4.heap.size w4 w5:=bD O;obtain⟨so,Ao,lo,co,rfl⟩:=ho.shape;have Vo:=lH ho;replace E:=lH (E.o.below O);replace F:=lH (F.o.below O);replace V:=lH (V.o.below O);replace Y:=lH (Y.o.below O);replace Vk:=lH (Vk.o.below O);replace r:=rW r O;replace RB:=rW RB O;replace h:=rW h O;replace C:=bT C O;replace t:=bT t O
       clear O ak _t ho)
    | (go_at_call 154
       have _t:=al;refine(qJ _ _ (a.num*b.num) ((a.den:Int)* (b.den:Int)) _ (by exact V.o) (by exact Vo.o) (by have h1:=a.den_nz;have h2:=b.den_nz;exact Int.mul_ne_zero oM oM) ((a0.o.fE.mul a1.o.fE).mono dC) ((a0.o.fB.mul a1.o.fB).mono dC)).mono ?_;rintro e w6 ⟨vr,rfl,U,G⟩;have G:Below w5.heap.size w5 w6:=bD G;obtain⟨sr,Ar,lr,cr,tr,Br,mr,dr,rfl⟩:=U.shape;have Vr:=lH U;replace E:=lH (E.o.below G);replace F:=lH (F.o.below G);replace V:=lH (V.o.below G);replace Y:=lH (Y.o.below G);replace Vk:=lH (Vk.o.below G);replace Vo:=lH (Vo.o.below G);replace r:=rW r G;replace RB:=rW RB G;replace h:=rW h G;replace C:=bT C G;replace t:=bT t G;rw[vv] at U;replace Vr:=lH U;have U:=iY h.o dC oM C.o Vr.o;have a2:=lH U;clear U;obtain⟨ad,aC,ae,aD,af,aE,ag,aF⟩:=aF4 h.o;have aG:=h.o.lt
       clear G al _t U))
  clear ao a3 a5 a7 a9 ap a4 a6 a8 aa KS t ab KT;go_wp2_with fail
  refine bodyPost_ret (v:= .agg #[.bool sr, .slice Ar lr cr, .bool tr, .slice Br mr dr]) (by simp[results,results128,go_sem,ad,ae,af,ag]) rfl ?_;exact⟨_,rfl,a2.o.1,a2.o.2⟩
end
end Go.Proofs.YtdefghfjhgmpfaaGreatDoor
