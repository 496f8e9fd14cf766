/- Parts of this proof: RatB Mul RatE. -/
import Derived.Test.YtokagbahdkfagaaGreatDoorMAE
import Derived.Test.YtokagbahdkfagaaGreatDoorMAK
import Derived.Test.YtokagbahdkfagaaGreatDoorMAC
import Derived.Test.YtokagbahdkfagaaGreatDoorMAL
namespace Go.Proofs.YtokagbahdkfagaaGreatDoor
open Tryz
section
open Go.RowKit
open Lp (RL)
set_option maxHeartbeats 1600000 in
theorem lD(va:Value)(a:Rat)(w:World)(ha:eP w va a)(hl:RL 8000000000000 a):
  Calls prog 61 #[va] w fun e w'=>e= .returned (.bool (decide (a.den=1))) /\ Below w.heap.size w w':=by
 obtain⟨sa,Aa,la,ca,ta,Ba,ma,da,rfl⟩:=ha.shape;obtain⟨a9,y,a5,hy⟩:=ha.parts;have HL:=lH hl;clear hl;by_cases h0:y=0
 ·subst h0;obtain⟨W,hW,C,t⟩:=eN1 w [.bool sa, .slice Aa la ca, .bool ta, .slice Ba ma da] 40;have E:=lH ((a5).below t.o);clear ha a9 a5;have HY:=lH hy;clear hy;go_enter func61,ntmps61;go_wp2_with fail
  rw[<- hW];clear hW;go_wp2_with fail
  have h:=rG W;have a1:=C.o.lt;obtain⟨U,V,X,Y⟩:=aT4 C.o;have M:=lH (kC U (kC V (kC X (kN Y))));clear a1 U V X Y;refine rL M.o (fun i=>false) ?_;have R:=M.o _ h.o;refine tKs 0 3 R ?_;refine tKs 1 4 R ?_;refine rD 2 (fun K hK=> ?_);go_simp;refine(jU _ 0 _ (by exact E.o)).mono ?_;rintro e T ⟨rfl,r⟩;have r:Below W.heap.size W T:=bD r;replace t:=bT t r;replace h:=bT h r;rw[show sgI 0=0 from rfl];clear R r;have R:=M.o _ h.o;refine kH hK R ?_;clear hK K;refine tKs 3 6 R ?_;refine tKs 4 7 R ?_;refine tUs 5 8 R ?_;refine tUs 6 9 R ?_;refine tUs 7 10 R ?_;refine tUs 8 11 R ?_;refine tUs 9 12 R ?_;refine tKs 10 13 R ?_;refine tKs 11 2 R ?_;refine dN ?_ _;clear R M h;go_wp2_with fail
  go_returns;exact⟨by rw[show decide (a.den=1)=true from by have:=HY.o;have:=a.den_nz;simp;omega];rfl,t.o⟩
 ·have ab:y=(a.den:Int):=oM
  subst ab;have HN:=lH h0;clear h0 hy;obtain⟨W,hW,C,t⟩:=eN1 w [.bool sa, .slice Aa la ca, .bool ta, .slice Ba ma da] 40;have E:=lH ((a5).below t.o);clear ha a9 a5;have a8:=HL.o.fH;have a6:=lH a8;clear a8;go_enter func61,ntmps61;go_wp2_with fail
  rw[<- hW];clear hW;have aa:sgI (a.den:Int)=1:=by have:=HN.o;unfold sgI;rw[if_neg oM,if_neg oM]
  have a7:=lH aa;clear aa;by_cases h1:a.den=1
  ·have H1:=lH h1;clear h1;have hc:iD (a.den:Int) 1=0:=by have:=H1.o;have:=HN.o;unfold iD;rw[if_neg oM,if_pos oM]
   have HC:=lH hc;clear hc;go_wp2_with fail
   have h:=rG W;have a0:Hid (Below W.heap.size W W.drew):=lH (Below.refl _ _).drew;have a1:=C.o.lt;obtain⟨U,V,X,Y⟩:=aT4 C.o;have M:=lH (kC U (kC V (kC X (kN Y))));have a2:True:=trivial;have a3:True:=trivial;have a4:True:=trivial
   go_region_held3 (fun w'=> w'.cell? ⟨w.heap.size,0,none⟩=some (.bool sa) /\ w'.cell? ⟨w.heap.size,1,none⟩=some (.slice Aa la ca) /\ w'.cell? ⟨w.heap.size,2,none⟩=some (.bool ta) /\ w'.cell? ⟨w.heap.size,3,none⟩=some (.slice Ba ma da))
    (first | (with_reducible exact M.o _ a0.o) | (with_reducible exact M.o _ h.o) | (exact M.o _ (h.o.trans ((eD _ _).mono h.o.size))) | (exact M.o _ (h.o.trans (((eD _ _).drew).mono h.o.size))) | go_keep)
    (first
     | (go_at_call 73
        have _t:=a2;refine(jU _ (a.den:Int) _ (by exact E.o)).mono ?_;rintro e T ⟨rfl,r⟩;have r:Below W.heap.size W T:=bD r;replace E:=lH (E.o.below r);replace C:=rW C r;replace t:=bT t r;replace h:=bT h r;rw[a7.o]
        clear r a2 _t)
     | (go_at_call 99
        have _t:=a3;refine(jW _).mono ?_;rintro e w2 ⟨vo,rfl,ho,O⟩;have O:Below T.heap.size T w2:=bD O;obtain⟨so,Ao,lo,co,rfl⟩:=ho.shape;have Z:=lH ho;replace E:=lH (E.o.below O);replace C:=rW C O;replace t:=bT t O;replace h:=bT h O
        clear O a3 _t ho)
     | (go_at_call 81
        have _t:=a4;refine(jB _ _ (a.den:Int) 1 _ (by exact E.o) (by exact Z.o) (a6.o.l1 dC) (o9.l1 dC)).mono ?_;rintro e w3 ⟨rfl,G⟩;have G:Below w2.heap.size w2 w3:=bD G;replace E:=lH (E.o.below G);replace Z:=lH (Z.o.below G);replace C:=rW C G;replace t:=bT t G;replace h:=bT h G;rw[HC.o]
        clear G a4 _t))
   clear a1 U V X Y M h a0;go_wp2_with fail
   go_returns;exact⟨by rw[show decide (a.den=1)=true from by have:=H1.o;simp;try omega];rfl,t.o⟩
  ·have H1:=lH h1;clear h1;have hc:iD (a.den:Int) 1=1:=by have:=H1.o;have:=HN.o;unfold iD;rw[if_neg oM,if_neg oM]
   have HC:=lH hc;clear hc;go_wp2_with fail
   have h:=rG W;have a0:Hid (Below W.heap.size W W.drew):=lH (Below.refl _ _).drew;have a1:=C.o.lt;obtain⟨U,V,X,Y⟩:=aT4 C.o;have M:=lH (kC U (kC V (kC X (kN Y))));have a2:True:=trivial;have a3:True:=trivial;have a4:True:=trivial
   go_region_held3 (fun w'=> w'.cell? ⟨w.heap.size,0,none⟩=some (.bool sa) /\ w'.cell? ⟨w.heap.size,1,none⟩=some (.slice Aa la ca) /\ w'.cell? ⟨w.heap.size,2,none⟩=some (.bool ta) /\ w'.cell? ⟨w.heap.size,3,none⟩=some (.slice Ba ma da))
    (first | (with_reducible exact M.o _ a0.o) | (with_reducible exact M.o _ h.o) | (exact M.o _ (h.o.trans ((eD _ _).mono h.o.size))) | (exact M.o _ (h.o.trans (((eD _ _).drew).mono h.o.size))) | go_keep)
    (first
     | (go_at_call 73
        have _t:=a2;refine(jU _ (a.den:Int) _ (by exact E.o)).mono ?_;rintro e T ⟨rfl,r⟩;have r:Below W.heap.size W T:=bD r;replace E:=lH (E.o.below r);replace C:=rW C r;replace t:=bT t r;replace h:=bT h r;rw[a7.o]
        clear r a2 _t)
     | (go_at_call 99
        have _t:=a3;refine(jW _).mono ?_;rintro e w2 ⟨vo,rfl,ho,O⟩;have O:Below T.heap.size T w2:=bD O;obtain⟨so,Ao,lo,co,rfl⟩:=ho.shape;have Z:=lH ho;replace E:=lH (E.o.below O);replace C:=rW C O;replace t:=bT t O;replace h:=bT h O
        clear O a3 _t ho)
     | (go_at_call 81
        have _t:=a4;refine(jB _ _ (a.den:Int) 1 _ (by exact E.o) (by exact Z.o) (a6.o.l1 dC) (o9.l1 dC)).mono ?_;rintro e w3 ⟨rfl,G⟩;have G:Below w2.heap.size w2 w3:=bD G;replace E:=lH (E.o.below G);replace Z:=lH (Z.o.below G);replace C:=rW C G;replace t:=bT t G;replace h:=bT h G;rw[HC.o]
        clear G a4 _t))
   clear a1 U V X Y M h a0;go_wp2_with fail
   go_returns;exact⟨by rw[show decide (a.den=1)=false from by have:=H1.o;simp;try omega];rfl,t.o⟩
end
section
open Go.RowKit
theorem iV(va vb:Value)(a b:Int)(w:World)(ha:eT w va a)(hb:eT w vb b)(aX:(ek a.natAbs).length<8796093022208)(aY:(ek b.natAbs).length<8796093022208):
  Calls prog 77 #[va,vb] w fun e w'=>∃v,e= .returned v /\ eT w' v (a*b) /\ Below w.heap.size w w':=by
 obtain⟨A,ca,rfl,au,aD,aG⟩:=ha;obtain⟨B,cb,rfl,av,aE,aH⟩:=hb;have aw:=fV a.natAbs;have ax:=fV b.natAbs;have Y:=Cg a b;have am:=fC a.natAbs;have an:=fC b.natAbs;generalize ek a.natAbs=h at*;generalize ek b.natAbs=lb at*;rw[<- am, <- an] at Y;obtain⟨Z,ak⟩:=eX (decide (a<0));obtain⟨nb,al⟩:=eX (decide (b<0));rw[<- ak, <- al] at Y ⊢;have aq:=lH Y;clear ak al am an Y au aD av aE;obtain⟨i0,aA,aK,aL,aM⟩:=info_parts mE;go_enter func77,ntmps77
 go_wp2_with (at_make;refine nz _ rfl (.tmp 17) (.tmp 17) 36 rfl 169 i0 (.int .u32 0) underlying36 aA aK aL rfl _ _ _ rfl rfl rfl rfl ?_ ?_ ?_)
 ·first | omega | (rw[aM];omega)
 ·unfold maxLen;omega
 obtain⟨W,hW⟩:=eX (((w.alloc (.cells #[.bool Z, .slice A h.length ca] 38)).alloc (.cells #[.bool nb, .slice B lb.length cb] 38)).alloc (.cells #[.bool false, .slice none 0 0] 38));rw[<- hW];obtain⟨M,O,r3,a3,a2⟩:=kX w (.cells #[.bool Z, .slice A h.length ca] 38) (.cells #[.bool nb, .slice B lb.length cb] 38) (.cells #[.bool false, .slice none 0 0] 38);rw[<- hW] at M O r3 a3 a2;have M:Row W w.heap.size 38 [.bool Z, .slice A h.length ca]:=M;have O:Row W (w.heap.size+1) 38 [.bool nb, .slice B lb.length cb]:=O;have r3:Row W (w.heap.size+2) 38 [.bool false, .slice none 0 0]:=r3;have f1:=M.at_ 1 rfl;have f2:=O.at_ 1 rfl;clear hW;intro w1 C a4 b3;have hr:=fA.made C;clear C;have HR:=lH hr;have a1:=lH a2;have aO:=lH a3;clear hr a2 a3;have T:=((fu a4).1 w.heap.size 1 oM).trans f1;have U:=((fu a4).1 (w.heap.size+1) 1 oM).trans f2;go_wp2_with fail
 go_loopw [22] (fun iv wr=>∃ (k:Nat) (lo:List Nat),k <= h.length /\ iv= .int .i64 k /\ fA wr (w.heap.size+1+1+1) lo /\ lo.length=h.length+lb.length /\ Dig lo /\ Hid (val lo=val (h.take k)*val lb) /\ Hid (∀j,k+lb.length <= j -> dg lo j=0) /\ Below (w.heap.size+1+1+1) W wr)
  (fun iv _=>h.length-(intOf iv).toNat)
 case atStart=>exact⟨0,_,Nat.zero_le _,rfl,HR.o,List.length_replicate,Dig.replicate _,by show _=_;rw[vC];simp[val],fun j _=>by rw[nT];split <;> rfl,a4⟩
 case round=>
  obtain⟨k,lo,hk,rfl,C,a5,ad,ah,hz,t⟩:=hrel;have a8:=lH ad;clear ad T U;have T:=((fu t).1 w.heap.size 1 oM).trans f1;have U:=((fu t).1 (w.heap.size+1) 1 oM).trans f2;by_cases aC:k<h.length
  ·obtain⟨b1,ao,rfl,aR,a9⟩:=Cells.at_ aG oM;have ab:=a9 k aC;have aT:((dg h k:Nat):Int)<4294967296:=by have:=aw k;omega
   have ac:=((fu t).1 b1 (ao+k) oM).trans (((fu a1.o).1 b1 (ao+k) oM).trans ab);clear a9 ab;go_wp2_with fail
   obtain⟨wo,a6⟩:=eX (wr);rw[<- a6];rw[<- a6] at C t T U ac;clear a6 wr
   go_loopw [8,30] (fun cv jv wr=>∃ (j c:Nat) (r:List Nat),j <= lb.length /\ cv= .int .u64 c /\ jv= .int .i64 j /\ fA wr (w.heap.size+1+1+1) r /\ r.length=h.length+lb.length /\ Dig r /\ ((c:Nat):Int)<4294967296 /\
     Hid (val r+BB^ (k+j)*c=val lo+BB^k* (dg h k*val (lb.take j))) /\ Hid (∀i,k+lb.length <= i -> dg r i=0) /\ Below (w.heap.size+1+1+1) W wr)
    (fun _ jv _=>lb.length-(intOf jv).toNat)
   case atStart=>exact⟨0,0,lo,Nat.zero_le _,rfl,rfl,C,a5,a8.o,by omega,by show _=_;simp[val],hz,t⟩
   case round=>
    obtain⟨j,c,r,hj,rfl,rfl,E,aj,ae,hc,ai,a7,G⟩:=hrel;have a0:=lH ae;clear ae;have aP:=((fu G).1 w.heap.size 1 oM).trans f1;have aQ:=((fu G).1 (w.heap.size+1) 1 oM).trans f2;clear T U ac;by_cases aB:j<lb.length
    ·obtain⟨b2,ap,rfl,aS,aa⟩:=Cells.at_ aH oM;have aV:=((fu G).1 b2 (ap+j) oM).trans (((fu a1.o).1 b2 (ap+j) oM).trans (aa j aB));have aU:((dg lb j:Nat):Int)<4294967296:=by have:=ax j;omega
     have az:=E.cell (j:=k+j) oM;have ay:=E.free (k+j);have aW:((dg r (k+j):Nat):Int)<4294967296:=by have:=a0.o (k+j);omega
     have hi:((k:Nat):Int)+ (j:Nat)<(h.length:Nat)+ (lb.length:Nat):=oM
     obtain⟨p,hp⟩:=eX (dg h k*dg lb j);have aZ:((dg h k:Nat):Int)* ((dg lb j:Nat):Int)=(p:Nat):=by rw[hp];simp
     have b0:((p:Nat):Int) <= 18446744065119617025:=by
      have:=Nat.mul_le_mul (show dg h k <= 4294967295 by omega) (show dg lb j <= 4294967295 by omega);omega
     have HP:=lH hp;clear hp aa;go_wp2_with fail
     go_roundw
     case rel=>
      have aF:=vI (lo:=r) (lb:=lb) (i:=k) (j:=j) (c:=c) (x:=dg h k) (s:=c+ (p+dg r (k+j))) (V:=val lo) oM ai (by rw[HP.o]);refine⟨j+1,(c+ (p+dg r (k+j))) / 4294967296,r.set (k+j) ((c+ (p+dg r (k+j)))%4294967296),by omega,by simp,by simp,E.set (k+j) _ (by simp),by rw[List.length_set];exact aj,a0.o.set _ _ (Nat.mod_lt _ oM),by omega,aF,?_,G.setCell (Nat.le_refl _) _⟩;intro i af;rw[iM,if_neg oM];exact a7.o i af
     case measure=>exact mZ
    ·obtain rfl:j=lb.length:=oM
     have az:=E.cell (j:=k+lb.length) oM;have ay:=E.free (k+lb.length);have hi:((k:Nat):Int)+ (lb.length:Nat)<(h.length:Nat)+ (lb.length:Nat):=oM
     go_wp2_with fail
     go_roundw
     case rel=>
      refine⟨k+1,r.set (k+lb.length) c,by omega,by simp,E.set (k+lb.length) c (by simp),by rw[List.length_set];exact aj,a0.o.set _ _ oM,vJ oM (a7.o _ oM) ai ah,?_,G.setCell (Nat.le_refl _) _⟩;intro i af;rw[iM,if_neg oM];exact a7.o i oM
     case measure=>exact mZ
  ·obtain rfl:k=h.length:=oM
   have g3:=((fu t).1 w.heap.size 0 oM).trans (M.at_ 0 rfl);have g4:=((fu t).1 (w.heap.size+1) 0 oM).trans (O.at_ 0 rfl);go_wp2_with fail
   refine(lL _ _ lo _ ⟨_,_,by rw[a5],by rw[a5];exact Nat.le_refl _,by unfold maxLen;omega,C.u32,a8.o⟩).mono ?_;rintro e w2 ⟨v,rfl,ag,X⟩;have b4:=C.lt;have R:Row w2 (w.heap.size+1+1) 38 [.bool false, .slice none 0 0]:=Row.below (Row.below r3 t oM) X oM;have k1:=R.at_ 0 rfl;have k2:=R.at_ 1 rfl;have k3:=R.free 0;have k4:=R.free 1;have ar:Below w.heap.size w w2:=(a1.o.trans (t.mono oM)).trans (X.mono oM)
   have aJ:sgn (!(Z==nb)) (val lo)=a*b:=by
    rw[ah.o,jb (Nat.le_refl _), <- aq.o];rfl
   rw[aJ] at ag;obtain⟨A',c',rfl,h1,h2,h3⟩:=ag;have H3:=lH h3;have aN:=lH X;clear h3 X;go_wp2_with fail
   refine bodyPost_ret (v:= .agg #[.bool (decide (a*b<0)), .slice A' (ek (a*b).natAbs).length c']) (by simp[results,results77,go_sem,k1,k2]) rfl ?_;refine⟨_,rfl,⟨A',c',rfl,h1,h2,?_⟩,?_⟩
   ·exact H3.o.kept (iP _ _ _ _ _ _) R (by simp)
   ·exact(ar.setCell (p:=⟨w.heap.size+1+1,0,none⟩) (by simp;omega) _).setCell (p:=⟨w.heap.size+1+1,1,none⟩) (by simp;omega) _
end
section
open Go.RowKit
open Lp (RL)
set_option maxHeartbeats 3200000 in
theorem mO(va vb:Value)(a b:Rat)(w:World)(ha:eP w va a)(hb:eP w vb b)(aB:RL 1000000000000 a)(aC:RL 1000000000000 b):
  Calls prog 34 #[va,vb] w fun e w'=>∃v,e= .returned v /\ eP w' v (a*b) /\ Below w.heap.size w w':=by
 obtain⟨sa,Aa,la,ca,ta,Ba,ma,da,rfl⟩:=ha.shape;obtain⟨sb,Ab,lb,cb,tb,Bb,mb,db,rfl⟩:=hb.shape;have a1:=lH aB;have a2:=lH aC;clear aB aC;by_cases an:a.den=1
 ·have ao:=lH an;clear an;obtain⟨W,hW,r,RB,h,C⟩:=eN3 w [.bool sa, .slice Aa la ca, .bool ta, .slice Ba ma da] 40 [.bool sb, .slice Ab lb cb, .bool tb, .slice Bb mb db] 40 [.bool false, .slice none 0 0, .bool false, .slice none 0 0] 40;have E:=lH ((ha).below C.o);have G:=lH ((hb).below C.o);clear ha hb;obtain⟨k0,k1,k2,k3⟩:=aT4 r.o;have kl:=r.o.lt;go_enter func34,ntmps34;go_wp2_with fail
  rw[<- hW];clear hW;refine(lD _ a _ E.o (a1.o.mono dC)).mono ?_;rintro e w1 ⟨rfl,U⟩;replace E:=lH (E.o.below U);replace G:=lH (G.o.below U);replace r:=rW r U;replace RB:=rW RB U;replace h:=rW h U;replace C:=bT C U;clear U;clear k0 k1 k2 k3 kl;rw[show decide (a.den=1)=true from by simpa using ao.o];obtain⟨ar,au,av,aw⟩:=aT4 RB.o;have ax:=RB.o.lt;go_wp2_with fail
  clear ar au av aw ax;refine(lD _ b _ G.o (a2.o.mono dC)).mono ?_;rintro e w2 ⟨rfl,Y⟩;replace E:=lH (E.o.below Y);replace G:=lH (G.o.below Y);replace r:=rW r Y;replace RB:=rW RB Y;replace h:=rW h Y;replace C:=bT C Y;clear Y;by_cases U:b.den=1
  ·rw[show decide (b.den=1)=true from by simpa using U];have az:=lH U;clear U;obtain⟨aJ,aK,aL,aM⟩:=aT4 r.o;have aN:=r.o.lt;obtain⟨ar,au,av,aw⟩:=aT4 RB.o;have ax:=RB.o.lt;go_wp2_with fail
   clear aJ aK aL aM aN ar au av aw ax;refine(iV _ _ a.num b.num _ E.o.parts.1 G.o.parts.1 ((a1.o.fJ).l1 dC) ((a2.o.fJ).l1 dC)).mono ?_;rintro e w3 ⟨vn,rfl,hn,O⟩;obtain⟨sn,An,ln,cn,rfl⟩:=hn.shape;have Vn:=lH hn;clear hn;replace h:=rW h O;replace C:=bT C O;clear O;obtain⟨ae,af,ag,ah⟩:=aT4 h.o;have aH:=h.o.lt;have aD:=h.o.free 0;have aE:=h.o.free 1;have aF:=h.o.free 2;have aG:=h.o.free 3;have V:=ic h.o dC oM C.o (eP.mk (q:=a*b) Vn.o (eT.jo _) (xZ ao.o az.o).1.symm (.inr ⟨rfl,(xZ ao.o az.o).2⟩));have a3:=lH V;clear V;go_wp2_with fail
   refine bodyPost_ret (v:= .agg #[.bool sn, .slice An ln cn, .bool false, .slice none 0 0]) (by simp[results,results34,go_sem,ae,af,ag,ah]) rfl ?_;exact⟨_,rfl,a3.o.1,a3.o.2⟩
  ·rw[show decide (b.den=1)=false from by simpa using U];clear U;go_wp2_with fail
   have t:=rG w2;have ac:Hid (Below w2.heap.size w2 w2.drew):=lH (Below.refl _ _).drew;have ap:=r.o.lt;obtain⟨a4,a6,a8,aa⟩:=aT4 r.o;have aq:=RB.o.lt;obtain⟨a5,a7,a9,ab⟩:=aT4 RB.o;have KS:=lH (kC a4 (kC a6 (kC a8 (kC aa (kC a5 (kC a7 (kC a9 (kN ab))))))));have ay:=h.o.lt;have KT:=lH (k4C (w.heap.size+1+1) a4 (k4C (w.heap.size+1+1) a6 (k4C (w.heap.size+1+1) a8 (k4C (w.heap.size+1+1) aa (k4C (w.heap.size+1+1) a5 (k4C (w.heap.size+1+1) a7 (k4C (w.heap.size+1+1) a9 (k4N (w.heap.size+1+1) ab))))))));clear ay;have ai:True:=trivial;have aj:True:=trivial;have ak:True:=trivial;have al:True:=trivial;have am:True:=trivial
   go_region_held3 (fun w'=> w'.cell? ⟨w.heap.size,0,none⟩=some (.bool sa) /\ w'.cell? ⟨w.heap.size,1,none⟩=some (.slice Aa la ca) /\ w'.cell? ⟨w.heap.size,2,none⟩=some (.bool ta) /\ w'.cell? ⟨w.heap.size,3,none⟩=some (.slice Ba ma da) /\ w'.cell? ⟨(w.heap.size+1),0,none⟩=some (.bool sb) /\ w'.cell? ⟨(w.heap.size+1),1,none⟩=some (.slice Ab lb cb) /\ w'.cell? ⟨(w.heap.size+1),2,none⟩=some (.bool tb) /\ w'.cell? ⟨(w.heap.size+1),3,none⟩=some (.slice Bb mb db))
    (first | (with_reducible exact KS.o _ ac.o) | (with_reducible exact KS.o _ t.o) | (with_reducible exact KT.o _ _ _ _ _ t.o) | (exact KS.o _ (t.o.trans ((eD _ _).mono t.o.size))) | (exact KS.o _ (t.o.trans (((eD _ _).drew).mono t.o.size))) | go_keep)
    (first
     | (go_at_call 77
        have _t:=ai;refine(iV _ _ a.num b.num _ (by exact E.o.parts.1) (by exact G.o.parts.1) ((a1.o.fJ).l1 dC) ((a2.o.fJ).l1 dC)).mono ?_;rintro e w3 ⟨vf,rfl,hf,O⟩;have O:Below w2.heap.size w2 w3:=bD O;obtain⟨sf,Af,lf,cf,rfl⟩:=hf.shape;have X:=lH hf;replace E:=lH (E.o.below O);replace G:=lH (G.o.below O);replace r:=rW r O;replace RB:=rW RB O;replace h:=rW h O;replace C:=bT C O;replace t:=bT t O
        clear O ai _t hf)
     | (go_at_call 78
        have _t:=aj;refine(iU _ a _ (by exact E.o)).mono ?_;rintro e w4 ⟨vj,rfl,hj,T⟩;have T:Below w3.heap.size w3 w4:=bD T;obtain⟨sj,Aj,lj,cj,rfl⟩:=hj.shape;have Z:=lH hj;replace E:=lH (E.o.below T);replace G:=lH (G.o.below T);replace X:=lH (X.o.below T);replace r:=rW r T;replace RB:=rW RB T;replace h:=rW h T;replace C:=bT C T;replace t:=bT t T
        clear T aj _t hj)
     | (go_at_call 78
        have _t:=ak;refine(iU _ b _ (by exact G.o)).mono ?_;rintro e w5 ⟨vk,rfl,hk,R⟩;have R:Below w4.heap.size w4 w5:=bD R;obtain⟨sk,Ak,lk,ck,rfl⟩:=hk.shape;have Vk:=lH hk;replace E:=lH (E.o.below R);replace G:=lH (G.o.below R);replace X:=lH (X.o.below R);replace Z:=lH (Z.o.below R);replace r:=rW r R;replace RB:=rW RB R;replace h:=rW h R;replace C:=bT C R;replace t:=bT t R
        clear R ak _t hk)
     | (go_at_call 77
        have _t:=al;refine(iV _ _ (a.den:Int) (b.den:Int) _ (by exact Z.o) (by exact Vk.o) ((a1.o.fH).l1 dC) ((a2.o.fH).l1 dC)).mono ?_;rintro e w6 ⟨vo,rfl,ho,M⟩;have M:Below w5.heap.size w5 w6:=bD M;obtain⟨so,Ao,lo,co,rfl⟩:=ho.shape;have Vo:=lH ho;replace E:=lH (E.o.below M);replace G:=lH (G.o.below M);replace X:=lH (X.o.below M);replace Z:=lH (Z.o.below M);replace Vk:=lH (Vk.o.below M);replace r:=rW r M;replace RB:=rW RB M;replace h:=rW h M;replace C:=bT C M;replace t:=bT t M
        clear M al _t ho)
     | (go_at_call 76
        have _t:=am;refine(pG _ _ (a.num*b.num) ((a.den:Int)* (b.den:Int)) _ (by exact X.o) (by exact Vo.o) (by have h1:=a.den_nz;have h2:=b.den_nz;exact Int.mul_ne_zero oM oM) ((a1.o.fJ.mul a2.o.fJ).mono dC) ((a1.o.fH.mul a2.o.fH).mono dC)).mono ?_;rintro e w7 ⟨vr,rfl,V,a0⟩;have a0:Below w6.heap.size w6 w7:=bD a0;obtain⟨sr,Ar,lr,cr,tr,Br,mr,dr,rfl⟩:=V.shape;have Vr:=lH V;replace E:=lH (E.o.below a0);replace G:=lH (G.o.below a0);replace X:=lH (X.o.below a0);replace Z:=lH (Z.o.below a0);replace Vk:=lH (Vk.o.below a0);replace Vo:=lH (Vo.o.below a0);replace r:=rW r a0;replace RB:=rW RB a0;replace h:=rW h a0;replace C:=bT C a0;replace t:=bT t a0;rw[xX] at V;replace Vr:=lH V;have V:=ic h.o dC oM C.o Vr.o;have a3:=lH V;clear V;obtain⟨ae,aD,af,aE,ag,aF,ah,aG⟩:=aF4 h.o;have aH:=h.o.lt
        clear a0 am _t V))
   clear ap a4 a6 a8 aa aq a5 a7 a9 ab KS t ac KT;go_wp2_with fail
   refine bodyPost_ret (v:= .agg #[.bool sr, .slice Ar lr cr, .bool tr, .slice Br mr dr]) (by simp[results,results34,go_sem,ae,af,ag,ah]) rfl ?_;exact⟨_,rfl,a3.o.1,a3.o.2⟩
 ·obtain⟨W,hW⟩:=eX ((((w.alloc (.cells #[.bool sa, .slice Aa la ca, .bool ta, .slice Ba ma da] 40)).alloc (.cells #[.bool sb, .slice Ab lb cb, .bool tb, .slice Bb mb db] 40)).alloc (.cells #[.bool false, .slice none 0 0, .bool false, .slice none 0 0] 40)));obtain⟨r0,r1,r2,aA,ad⟩:=kX w (.cells #[.bool sa, .slice Aa la ca, .bool ta, .slice Ba ma da] 40) (.cells #[.bool sb, .slice Ab lb cb, .bool tb, .slice Bb mb db] 40) (.cells #[.bool false, .slice none 0 0, .bool false, .slice none 0 0] 40);rw[<- hW] at r0 r1 r2 aA ad;have r:Hid (Row W w.heap.size 40 [.bool sa, .slice Aa la ca, .bool ta, .slice Ba ma da]):=lH r0;have RB:Hid (Row W (w.heap.size+1) 40 [.bool sb, .slice Ab lb cb, .bool tb, .slice Bb mb db]):=lH r1;have h:Hid (Row W (w.heap.size+1+1) 40 [.bool false, .slice none 0 0, .bool false, .slice none 0 0]):=lH r2;have E:=lH ((ha).below ad);have G:=lH ((hb).below ad);have C:=lH ad;clear r0 r1 r2 aA ad;clear ha hb;obtain⟨k0,k1,k2,k3⟩:=aT4 r.o;have kl:=r.o.lt;go_enter func34,ntmps34;go_wp2_with fail
  rw[<- hW];clear hW;refine(lD _ a _ E.o (a1.o.mono dC)).mono ?_;rintro e w1 ⟨rfl,U⟩;replace E:=lH (E.o.below U);replace G:=lH (G.o.below U);replace r:=rW r U;replace RB:=rW RB U;replace h:=rW h U;replace C:=bT C U;clear U;clear k0 k1 k2 k3 kl;rw[show decide (a.den=1)=false from by simpa using an];clear an;go_wp2_with fail
  have t:=rG w1;have ac:Hid (Below w1.heap.size w1 w1.drew):=lH (Below.refl _ _).drew;have ap:=r.o.lt;obtain⟨a4,a6,a8,aa⟩:=aT4 r.o;have aq:=RB.o.lt;obtain⟨a5,a7,a9,ab⟩:=aT4 RB.o;have KS:=lH (kC a4 (kC a6 (kC a8 (kC aa (kC a5 (kC a7 (kC a9 (kN ab))))))));have ay:=h.o.lt;have KT:=lH (k4C (w.heap.size+1+1) a4 (k4C (w.heap.size+1+1) a6 (k4C (w.heap.size+1+1) a8 (k4C (w.heap.size+1+1) aa (k4C (w.heap.size+1+1) a5 (k4C (w.heap.size+1+1) a7 (k4C (w.heap.size+1+1) a9 (k4N (w.heap.size+1+1) ab))))))));clear ay;have ai:True:=trivial;have aj:True:=trivial;have ak:True:=trivial;have al:True:=trivial;have am:True:=trivial
  go_region_held3 (fun w'=> w'.cell? ⟨w.heap.size,0,none⟩=some (.bool sa) /\ w'.cell? ⟨w.heap.size,1,none⟩=some (.slice Aa la ca) /\ w'.cell? ⟨w.heap.size,2,none⟩=some (.bool ta) /\ w'.cell? ⟨w.heap.size,3,none⟩=some (.slice Ba ma da) /\ w'.cell? ⟨(w.heap.size+1),0,none⟩=some (.bool sb) /\ w'.cell? ⟨(w.heap.size+1),1,none⟩=some (.slice Ab lb cb) /\ w'.cell? ⟨(w.heap.size+1),2,none⟩=some (.bool tb) /\ w'.cell? ⟨(w.heap.size+1),3,none⟩=some (.slice Bb mb db))
   (first | (with_reducible exact KS.o _ ac.o) | (with_reducible exact KS.o _ t.o) | (with_reducible exact KT.o _ _ _ _ _ t.o) | (exact KS.o _ (t.o.trans ((eD _ _).mono t.o.size))) | (exact KS.o _ (t.o.trans (((eD _ _).drew).mono t.o.size))) | go_keep)
   (first
    | (go_at_call 77
       have _t:=ai;refine(iV _ _ a.num b.num _ (by exact E.o.parts.1) (by exact G.o.parts.1) ((a1.o.fJ).l1 dC) ((a2.o.fJ).l1 dC)).mono ?_;rintro e w2 ⟨vf,rfl,hf,Y⟩;have Y:Below w1.heap.size w1 w2:=bD Y;obtain⟨sf,Af,lf,cf,rfl⟩:=hf.shape;have X:=lH hf;replace E:=lH (E.o.below Y);replace G:=lH (G.o.below Y);replace r:=rW r Y;replace RB:=rW RB Y;replace h:=rW h Y;replace C:=bT C Y;replace t:=bT t Y
       clear Y ai _t hf)
    | (go_at_call 78
       have _t:=aj;refine(iU _ a _ (by exact E.o)).mono ?_;rintro e w3 ⟨vj,rfl,hj,O⟩;have O:Below w2.heap.size w2 w3:=bD O;obtain⟨sj,Aj,lj,cj,rfl⟩:=hj.shape;have Z:=lH hj;replace E:=lH (E.o.below O);replace G:=lH (G.o.below O);replace X:=lH (X.o.below O);replace r:=rW r O;replace RB:=rW RB O;replace h:=rW h O;replace C:=bT C O;replace t:=bT t O
       clear O aj _t hj)
    | (go_at_call 78
       have _t:=ak;refine(iU _ b _ (by exact G.o)).mono ?_;rintro e w4 ⟨vk,rfl,hk,T⟩;have T:Below w3.heap.size w3 w4:=bD T;obtain⟨sk,Ak,lk,ck,rfl⟩:=hk.shape;have Vk:=lH hk;replace E:=lH (E.o.below T);replace G:=lH (G.o.below T);replace X:=lH (X.o.below T);replace Z:=lH (Z.o.below T);replace r:=rW r T;replace RB:=rW RB T;replace h:=rW h T;replace C:=bT C T;replace t:=bT t T
       clear T ak _t hk)
    | (go_at_call 77
       have _t:=al;refine(iV _ _ (a.den:Int) (b.den:Int) _ (by exact Z.o) (by exact Vk.o) ((a1.o.fH).l1 dC) ((a2.o.fH).l1 dC)).mono ?_;rintro e w5 ⟨vo,rfl,ho,R⟩;have R:Below w4.heap.size w4 w5:=bD R;obtain⟨so,Ao,lo,co,rfl⟩:=ho.shape;have Vo:=lH ho;replace E:=lH (E.o.below R);replace G:=lH (G.o.below R);replace X:=lH (X.o.below R);replace Z:=lH (Z.o.below R);replace Vk:=lH (Vk.o.below R);replace r:=rW r R;replace RB:=rW RB R;replace h:=rW h R;replace C:=bT C R;replace t:=bT t R
       clear R al _t ho)
    | (go_at_call 76
       have _t:=am;refine(pG _ _ (a.num*b.num) ((a.den:Int)* (b.den:Int)) _ (by exact X.o) (by exact Vo.o) (by have h1:=a.den_nz;have h2:=b.den_nz;exact Int.mul_ne_zero oM oM) ((a1.o.fJ.mul a2.o.fJ).mono dC) ((a1.o.fH.mul a2.o.fH).mono dC)).mono ?_;rintro e w6 ⟨vr,rfl,V,M⟩;have M:Below w5.heap.size w5 w6:=bD M;obtain⟨sr,Ar,lr,cr,tr,Br,mr,dr,rfl⟩:=V.shape;have Vr:=lH V;replace E:=lH (E.o.below M);replace G:=lH (G.o.below M);replace X:=lH (X.o.below M);replace Z:=lH (Z.o.below M);replace Vk:=lH (Vk.o.below M);replace Vo:=lH (Vo.o.below M);replace r:=rW r M;replace RB:=rW RB M;replace h:=rW h M;replace C:=bT C M;replace t:=bT t M;rw[xX] at V;replace Vr:=lH V;have V:=ic h.o dC oM C.o Vr.o;have a3:=lH V;clear V;obtain⟨ae,aD,af,aE,ag,aF,ah,aG⟩:=aF4 h.o;have aH:=h.o.lt
       clear M am _t V))
  clear ap a4 a6 a8 aa aq a5 a7 a9 ab KS t ac KT;go_wp2_with fail
  refine bodyPost_ret (v:= .agg #[.bool sr, .slice Ar lr cr, .bool tr, .slice Br mr dr]) (by simp[results,results34,go_sem,ae,af,ag,ah]) rfl ?_;exact⟨_,rfl,a3.o.1,a3.o.2⟩
end
end Go.Proofs.YtokagbahdkfagaaGreatDoor
