/- Parts of this proof: Digit Long Order Short Raised Own Lowered. -/
import Derived.Test.YtdefghfjhgmpfaaGreatDoorMAC
import Derived.Test.YtdefghfjhgmpfaaGreatDoorMAE
import Derived.Deep.DeepCutAuto
import Derived.Lib.ItoaNum
import Derived.Test.YtdefghfjhgmpfaaGreatDoorMAA
namespace Go.Proofs.YtdefghfjhgmpfaaGreatDoor
open Tryz
section
open Go.RowKit
set_option maxRecDepth 100000 in
set_option maxHeartbeats 1600000 in
theorem EK(g i m cu cv bv ay:Nat)(t lv:List Nat)(w:World)(hu:fI w g t)(a0:Dig t)(bB:i+m+2<t.length)(bH:t.length<17592186044416)
  (hv:U32 w (some ⟨bv,ay,none⟩) lv) (aP:lv.length=m+2) (a6:Dig lv) (aQ:bv≠g) (bc:2147483648 <= dg lv (m+1)) (av:sv t i (m+3)<BB*sv lv 0 (m+2)):
  Calls prog 198 #[.slice (some ⟨g,i,none⟩) (m+3) cu, .slice (some ⟨bv,ay,none⟩) (m+2) cv] w fun e w'=>e= .returned (.int .u32 (sv t i (m+3) / sv lv 0 (m+2):Nat)) /\
   ∃lo,fI w' g lo /\ Dig lo /\ lo.length=t.length /\ (∀j,j<i \/ i+m+2<j -> dg lo j=dg t j) /\ sv lo i (m+3)=sv t i (m+3)%sv lv 0 (m+2) /\ w.grownBy w' (some g):=by
 have ah:∀j,j<m+2 -> w.cell? ⟨bv,ay+j,none⟩=some (.int .u32 (dg lv j:Nat)):=by
  rcases hv with h0 | ⟨b',bO,hA,hc,_⟩
  ·omega
  ·simp only[Option.some.injEq,Addr.mk.injEq,and_true] at hA;obtain⟨rfl,rfl⟩:=hA;intro j M;exact hc j oM
 have a5:∀j,j<m+3 -> w.cell? ⟨g,i+j,none⟩=some (.int .u32 (dg t (i+j):Nat)):=fun j M=>hu.cell oM
 have aH:∀j,w.frozen? ⟨g,i+j,none⟩=false:=fun j=>hu.free _
 have u0:=a5 m oM;have u1:=a5 (m+1) oM;have u2:=a5 (m+2) oM;have v0:=ah m oM;have v1:=ah (m+1) oM;have bd:=lH a5;have aV:=lH ah;have be:=lH aH;clear a5 ah aH;obtain⟨x0,ak⟩:=eX (dg t (i+m));obtain⟨x1,al⟩:=eX (dg t (i+ (m+1)));obtain⟨x2,ac⟩:=eX (dg t (i+ (m+2)));obtain⟨y0,am⟩:=eX (dg lv m);obtain⟨G,an⟩:=eX (dg lv (m+1));rw[<- ak] at u0;rw[<- al] at u1;rw[<- ac] at u2;rw[<- am] at v0;rw[<- an] at v1;have bl:((x0:Nat):Int)<4294967296:=by have:=a0 (i+m);omega
 have bm:((x1:Nat):Int)<4294967296:=by have:=a0 (i+ (m+1));omega
 have bn:((x2:Nat):Int)<4294967296:=by have:=a0 (i+ (m+2));omega
 have bo:((y0:Nat):Int)<4294967296:=by have:=a6 m;omega
 have bp:((G:Nat):Int)<4294967296:=by have:=a6 (m+1);omega
 have br:2147483648 <= ((G:Nat):Int):=oM
 have bh:=lH ak;have bi:=lH al;have af:=lH ac;have bj:=lH am;have bk:=lH an;have bg:=lH aP;have bf:=lH av;have aW:=lH a0;have ao:=lH a6;have HU:=lH hu;obtain⟨h,hh⟩:=eX (x2*4294967296+x1);have b4:=uH x2 x1 oM oM;rw[<- hh] at b4;have bA:((h:Nat):Int) <= 18446744073709551615:=oM
 have ⟨hE,hV0⟩:=EC a0 a6 ak al ac am an hh oM av;obtain⟨D,hD⟩:=eX (sv t i (m+3) / sv lv 0 (m+2));rw[<- hD] at hE;have HD:=lH hD;have aD:=lH hV0;have HE:=lH hE;clear hD hE hV0;obtain⟨q0,a9⟩:=eX (h / G);obtain⟨r0,aw⟩:=eX (h%G);have bI:((h:Nat):Int) / (G:Nat)=(q0:Nat):=by rw[a9];simp
 have ba:((h:Nat):Int)% (G:Nat)=(r0:Nat):=by rw[aw];simp
 have aS:((q0:Nat):Int) <= 18446744073709551615:=by
  have:=Nat.div_le_self h G;rw[<- a9] at this;omega
 have aA:=lH a9;have aB:=lH aw;clear a9 aw;have HH:=lH hh;clear ak al ac am an aP av bc a0 a6 hv hh;go_enter func198,ntmps198;go_wp2_with fail
 go_quiet (fail)
 go_wp2_with fail
 go_quiet (fail)
 go_upto_block 0 with (fail)
 rw[ba]
 go_cut [7,8] (fun qv _ wx=>∃q:Nat,qv= .int .u64 q /\ ((q:Nat):Int)<4294967296 /\ D <= q /\ q <= D+1 /\ gy w wx)
 case first=>
  go_wp2_with fail
  go_loopw [7,8] (fun qv rv wx=>∃q r:Nat,qv= .int .u64 q /\ rv= .int .u64 r /\ Hid (q*G+r=h) /\ D <= q /\ ((q:Nat):Int) <= 18446744073709551615 /\ ((r:Nat):Int)<8589934592 /\ gy w wx) (fun _ rv _=>4294967296-(intOf rv).toNat)
  case atStart=>
   refine⟨q0,r0,rfl,rfl,?_,?_,aS,?_,((gy.mk w _).step _)⟩
   ·rw[aA.o,aB.o,Nat.mul_comm];exact Nat.div_add_mod _ _
   ·rw[aA.o];exact HE.o.start
   ·have:=Nat.mod_lt h (show 0<G by omega);rw[<- aB.o] at this;omega
  case round=>
   obtain⟨q,r,rfl,rfl,aa,ag,aS,bK,R⟩:=hrel;obtain⟨nd,R⟩:=R;subst R;by_cases hr:((r:Nat):Int)<4294967296
   ·by_cases hq:(4294967296:Int) <= (q:Nat)
    ·have hb:=HE.o.big q oM;go_wp2_with fail
     go_quiet (fail)
     go_wp2_with fail
     go_roundw
     case rel=>exact⟨q-1,r+G,congrArg (Value.int .u64) oM,congrArg (Value.int .u64) oM,yj oM aa,hb,by omega,by omega,gy.mk _ _⟩
     case measure=>exact mZ
    ·obtain⟨p,Y⟩:=eX (q*y0);have b6:((q:Nat):Int)* ((y0:Nat):Int)=(p:Nat):=by rw[Y];simp
     have b7:((p:Nat):Int) <= 18446744065119617025:=by
      have:=Nat.mul_le_mul (show q <= 4294967295 by omega) (show y0 <= 4294967295 by omega);omega
     have b5:=uH r x0 oM oM;obtain⟨z,hz⟩:=eX (r*4294967296+x0);rw[<- hz] at b5;have bM:((z:Nat):Int) <= 18446744073709551615:=oM
     have HP:=lH Y;have HZ:=lH hz;have b8:((q:Nat):Int)<4294967296:=oM
     have bw:decide ((4294967296:Int) <= (q:Nat))=false:=by simp[hq]
     clear Y hz hq;by_cases ht:((z:Nat):Int)<((p:Nat):Int)
     ·have ⟨hb,hqp⟩:=HE.o.down q r aa.o (by rw[<- HP.o, <- HZ.o];omega);go_wp2_with fail
      go_quiet (fail)
      go_wp2_with fail
      go_roundw
      case rel=>exact⟨q-1,r+G,congrArg (Value.int .u64) oM,congrArg (Value.int .u64) oM,yj hqp aa,hb,by omega,by omega,gy.mk _ _⟩
      case measure=>exact mZ
     ·have bx:decide (z<p)=false:=decide_eq_false oM;go_wp2_with fail
      go_quiet (fail)
      have:=HE.o.up q r aa.o (by rw[<- HP.o, <- HZ.o];omega) oM;go_wp2_with fail
      go_meet
      exact⟨q,rfl,b8,ag,this,gy.step ⟨_,rfl⟩ _⟩
   ·have hd:decide (((r:Nat):Int)<4294967296)=false:=by simp[hr]
    clear hr;go_wp2_with fail
    go_quiet (fail)
    go_wp2_with fail
    go_meet
    have:=HE.o.far q r aa.o (by have:=of_decide_eq_false hd;omega);exact⟨q,rfl,by omega,ag,this.2,gy.step ⟨_,rfl⟩ _⟩
 case rest=>
  obtain⟨q,rfl,bJ,ag,b9,R⟩:=hcut;obtain⟨nd,R⟩:=R;subst R;have w0:fI (w.drewN nd) g t:=HU.o;have wc:=fun j M=>(aV.o j M)
  have wg:w.grownBy (w.drewN nd) (some g):=⟨rfl,rfl,rfl,Nat.le_refl _,fun _ _ _=>rfl⟩;obtain⟨W,hW⟩:=eX (w.drewN nd);rw[<- hW] at w0 wg ⊢;clear hW;have WC:=lH wc;clear wc;go_wp2_with fail
  go_loopw [9,10,86] (fun cv bv Z wr=>∃ (k c b:Nat) (lo:List Nat),k <= m+2 /\ cv= .int .u64 c /\ bv= .int .i64 b /\ Z= .int .i64 k /\ fI wr g lo /\ lo.length=t.length /\ Hid (Dig lo) /\ b <= 1 /\ ((c:Nat):Int)<4294967296 /\
    Hid (sv t i k+BB^k* (c+b)=sv lo i k+q*sv lv 0 k) /\ Hid (∀j,(j<i \/ i+k <= j) -> dg lo j=dg t j) /\ w.grownBy wr (some g))
   (fun _ _ Z _=>m+2-(intOf Z).toNat)
  case atStart=>exact⟨0,0,0,t,Nat.zero_le _,rfl,rfl,rfl,w0,rfl,aW,by omega,by omega,by show _=_;simp[sv],by show ∀_,_;exact fun _ _=>rfl,wg⟩
  case round=>
   obtain⟨k,c,b,lo,hk,rfl,rfl,rfl,O,au,ad,bs,hc,ar,a2,aK⟩:=hrel;have ae:=lH aK;clear aK;by_cases bE:((k:Nat):Int)<(m:Nat)+2
   ·have b1:=(ae.o.cell (WC.o k oM) (by simp;exact aQ));have b0:((dg lv k:Nat):Int)<4294967296:=by have:=ao.o k;omega
    have a7:=O.cell (j:=i+k) oM;have ai:=O.free (i+k);have a3:=a2.o (i+k) (.inr (Nat.le_refl _));have aJ:((dg lo (i+k):Nat):Int)<4294967296:=by have:=ad.o (i+k);omega
    have aC:=lH a3;clear a3;obtain⟨p,Y⟩:=eX (q*dg lv k);have b6:((q:Nat):Int)* ((dg lv k:Nat):Int)=(p:Nat):=by rw[Y];simp
    have b7:((p:Nat):Int) <= 18446744065119617025:=by
     have:=Nat.mul_le_mul (show q <= 4294967295 by omega) (show dg lv k <= 4294967295 by omega);omega
    have HP:=lH Y;clear Y;obtain⟨s,hs⟩:∃s:Nat,((c:Nat):Int)+ ((p:Nat):Int)=(s:Nat):=⟨c+p,by simp⟩
    have aT:((s:Nat):Int) <= 18446744069414584320:=oM
    obtain⟨e,he⟩:∃e:Nat,((s:Nat):Int)%4294967296=(e:Nat):=⟨s%4294967296,by simp⟩
    have bz:((e:Nat):Int)<4294967296:=oM
    obtain⟨n1,b2⟩:∃n:Int,((dg lo (i+k):Nat):Int)-(b:Nat)=n:=⟨_,rfl⟩
    obtain⟨E,b3⟩:∃n:Int,n1-((e:Nat):Int)=n:=⟨_,rfl⟩
    have aY: -4294967297<E:=oM
    have aZ:E<4294967297:=oM
    by_cases aR:E<0
    all_goals
     go_wp2_with fail
     go_roundw
     case rel=>
      have ax:=ED (lo:=lo) (l0:=t) (lv:=lv) (i:=i) (j:=k) (c:=c) (b:=b) (b':=if E<0 then 1 else 0) (q:=q) (x:=(dg lo (i+k)+4294967296-b-e)%4294967296) (s:=s) oM ar (by rw[<- HP.o];omega)
       (by rw[<- aC.o];split <;> omega)
      refine⟨k+1,s / 4294967296,if E<0 then 1 else 0,lo.set (i+k) ((dg lo (i+k)+4294967296-b-e)%4294967296),by omega,by simp,?_,by simp,O.set (i+k) _ ?_,by rw[List.length_set];exact au,lH (ad.o.set _ _ (Nat.mod_lt _ oM)),by split <;> omega,by omega,lH ax,?_,grownBy_trans ae.o (grownBy_set _ _ _ _)⟩
      ·simp[aR]
      ·refine congrArg (Value.int .u32) ?_;omega
      ·refine lH fun j M=> ?_
       rw[iB,if_neg oM];exact a2.o j oM
     case measure=>exact mZ
   ·obtain rfl:k=m+2:=oM
    have a7:=O.cell (j:=i+ (m+2)) oM;have ai:=O.free (i+ (m+2));rw[a2.o (i+ (m+2)) (.inr (Nat.le_refl _)), <- af.o] at a7;obtain⟨n1,b2⟩:∃n:Int,((x2:Nat):Int)-(b:Nat)=n:=⟨_,rfl⟩
    obtain⟨E,b3⟩:∃n:Int,n1-((c:Nat):Int)=n:=⟨_,rfl⟩
    have aY: -4294967297<E:=oM
    have aZ:E<4294967297:=oM
    have a3:=a2.o (i+ (m+2)) (.inr (Nat.le_refl _));rw[<- af.o] at a3;have aC:=lH a3;clear a3;by_cases aR:(0:Int) <= E
    ·go_wp2_with fail
     go_returns;obtain⟨x,hx⟩:∃x:Nat,E=(x:Nat):=⟨E.toNat,by omega⟩
     have ab:=O.set (i+ (m+2)) x (v:= .int .u32 E) (by rw[hx]);have hS:=EH lo t lv (i:=i) (m:=m+2) (q:=q) (x:=x) (c:=c) (b:=b) oM ar (by rw[<- af.o];omega);have he:=EF aD.o hS (by rw[<- HD.o];exact ag);have hq:((q:Nat):Int)=((sv t i (m+3):Nat):Int) / ((sv lv 0 (m+2):Nat):Int):=by rw[<- Int.natCast_ediv];exact congrArg _ he.1
     refine⟨congrArg (fun z=>Ending.returned (Value.int .u32 z)) hq,lo.set (i+ (m+2)) x,ab,ad.o.set _ _ oM,by rw[List.length_set];exact au,?_,he.2,grownBy_trans ae.o (grownBy_set _ _ _ _)⟩;intro j M;rw[iB,if_neg oM];exact a2.o j oM
    ·obtain⟨x,hx⟩:∃x:Nat,E+4294967296=(x:Nat):=⟨(E+4294967296).toNat,by omega⟩
     have bL:((x:Nat):Int)<4294967296:=oM
     have ac:E%4294967296=(x:Nat):=oM
     go_wp2_with fail
     have ab:=O.set (i+ (m+2)) x (v:= .int .u32 (x:Nat)) rfl;have hS:=EI lo t lv (i:=i) (m:=m+2) (q:=q) (x:=x) (c:=c) (b:=b) oM ar (by rw[<- af.o];omega);have hG:=grownBy_trans ae.o (grownBy_set wr g (i+ (m+2)) (.int .u32 (x:Nat)));obtain⟨l1,a8⟩:=eX (lo.set (i+ (m+2)) x);rw[<- a8] at ab hS;have aF:Dig l1:=by rw[a8];exact ad.o.set _ _ oM
     have aN:l1.length=t.length:=by rw[a8,List.length_set];exact au
     have aU:∀j,(j<i \/ i+m+2<j) -> dg l1 j=dg t j:=by
      intro j M;rw[a8,iB,if_neg oM];exact a2.o j oM
     obtain⟨W2,aE⟩:=eX (wr.setCell ⟨g,i+ (m+2),none⟩ (.int .u32 (x:Nat)));rw[<- aE] at ab hG ⊢;have aG:=lH aF;have bb:=lH aU;have aX:=lH hS;have bG:=lH aN;clear aE a8 O a7 ai aF aU hS
     go_loopw [9,139] (fun cv Z wr=>∃ (k c:Nat) (lo:List Nat),k <= m+2 /\ cv= .int .u64 c /\ Z= .int .i64 k /\ fI wr g lo /\ lo.length=t.length /\ Hid (Dig lo) /\ c <= 1 /\
       Hid (sv lo i k+BB^k*c=sv l1 i k+sv lv 0 k) /\ Hid (∀j,(j<i \/ i+k <= j) -> dg lo j=dg l1 j) /\ w.grownBy wr (some g))
      (fun _ Z _=>m+2-(intOf Z).toNat)
     case atStart=>exact⟨0,0,l1,Nat.zero_le _,rfl,rfl,ab,aN,aG,by omega,by show _=_;simp[sv],by show ∀_,_;exact fun _ _=>rfl,hG⟩
     case round=>
      obtain⟨k,c3,F,bC,rfl,rfl,a1,aO,a4,bu,aM,aj,aL⟩:=hrel;have ap:=lH aL;clear aL;by_cases bF:((k:Nat):Int)<(m:Nat)+2
      ·have b1:=(ap.o.cell (WC.o k oM) (by simp;exact aQ));have b0:((dg lv k:Nat):Int)<4294967296:=by have:=ao.o k;omega
       have a7:=a1.cell (j:=i+k) oM;have ai:=a1.free (i+k);have aJ:((dg F (i+k):Nat):Int)<4294967296:=by have:=a4.o (i+k);omega
       obtain⟨s,hs⟩:∃s:Nat,((c3:Nat):Int)+ (((dg F (i+k):Nat):Int)+ ((dg lv k:Nat):Int))=(s:Nat):=⟨c3+ (dg F (i+k)+dg lv k),by simp⟩
       have aT:((s:Nat):Int) <= 8589934591:=oM
       go_wp2_with fail
       go_roundw
       case rel=>
        have ax:=EE (lo:=F) (l0:=l1) (lv:=lv) (i:=i) (j:=k) (c:=c3) (s:=s) oM aM (by rw[<- aj.o (i+k) (.inr (Nat.le_refl _))];omega);refine⟨k+1,s / 4294967296,F.set (i+k) (s%4294967296),by omega,by simp,by simp,a1.set (i+k) _ (by simp),by rw[List.length_set];exact aO,lH (a4.o.set _ _ (Nat.mod_lt _ oM)),by omega,lH ax,?_,grownBy_trans ap.o (grownBy_set _ _ _ _)⟩;refine lH fun j M=> ?_
        rw[iB,if_neg oM];exact aj.o j oM
       case measure=>exact mZ
      ·obtain rfl:k=m+2:=oM
       have a7:=a1.cell (j:=i+ (m+2)) oM;have ai:=a1.free (i+ (m+2));have aJ:((dg F (i+ (m+2)):Nat):Int)<4294967296:=by have:=a4.o (i+ (m+2));omega
       obtain⟨s,hs⟩:∃s:Nat,((dg F (i+ (m+2)):Nat):Int)+ ((c3:Nat):Int)=(s:Nat):=⟨dg F (i+ (m+2))+c3,by simp⟩
       have aT:((s:Nat):Int) <= 8589934591:=oM
       have aq:=EG (U:=sv t i (m+3)) (V:=sv lv 0 (m+2)) (q:=q) (S:=sv l1 i (m+3)) (T:=sv (F.set (i+ (m+2)) (s%4294967296)) i (m+3)) (X:=BB^ (m+3)) (ov:=s / 4294967296) aD.o aX.o (lQ aG.o _ _)
        (Nat.lt_of_lt_of_le (lQ ao.o _ _) (Nat.pow_le_pow_right dC oM)) (by rw[<- HD.o];exact b9)
        (EJ F l1 lv (i:=i) (m:=m+2) (c:=c3) (s:=s) oM aM.o (by rw[<- aj.o (i+ (m+2)) (.inr (Nat.le_refl _))];omega))
        (lQ (a4.o.set _ _ (Nat.mod_lt _ oM)) _ _)
       have az:=lH aq;have a9:=aq.2.2;clear aq;go_wp2_with fail
       go_returns;have hq:((q:Nat):Int)-1=((sv t i (m+3):Nat):Int) / ((sv lv 0 (m+2):Nat):Int):=by rw[<- Int.natCast_ediv, <- az.o.1];omega
       refine⟨congrArg (fun z=>Ending.returned (Value.int .u32 z)) hq,F.set (i+ (m+2)) (s%4294967296),a1.set (i+ (m+2)) _ (by simp),a4.o.set _ _ (Nat.mod_lt _ oM),by rw[List.length_set];exact aO,?_,az.o.2.1,grownBy_trans ap.o (grownBy_set _ _ _ _)⟩;intro j M;rw[iB,if_neg oM,aj.o j oM];exact bb.o j M
end
section
theorem EL{d:Nat}(h:0<d)(M:d<4294967296):∃y,y<32 /\ (32-(Lib.bitLen d:Int))=((y:Nat):Int) /\ 2147483648 <= d*2^y /\ d*2^y<4294967296:=by
 obtain⟨h1,E,F⟩:=Lib.bitLenAux_bounds 64 d (Nat.lt_of_lt_of_le M (by decide)) (by omega);obtain⟨k,G⟩:∃k,k+1=Lib.bitLen d:=⟨Lib.bitLen d-1,by unfold Lib.bitLen;omega⟩
 have e:Lib.bitLenAux 64 d=k+1:=G.symm;rw[e] at E F;rw[Nat.add_sub_cancel] at E
 have O:k<32:=by
  rcases Nat.lt_or_ge k 32 with g | g
  ·exact g
  ·have:2^32 <= 2^k:=Nat.pow_le_pow_right (by decide) g;omega
 refine⟨31-k,by omega,by rw[<- G];omega,?_,?_⟩
 ·have t:=Nat.mul_le_mul_right (2^ (31-k)) E;rw[<- Nat.pow_add,show k+ (31-k)=31 by omega] at t;exact t
 ·have t:=Nat.mul_lt_mul_of_pos_right F (show 0<2^ (31-k) from Nat.pow_pos (by decide));rw[<- Nat.pow_add,show k+1+ (31-k)=32 by omega] at t;exact t
theorem nP(l:List Nat)(i a b:Nat):sv l i (a+b)=sv l i a+BB^a*sv l (i+a) b:=by
 induction b with
 | zero=>simp[sv]
 | succ b h=>
  rw[<- Nat.add_assoc,gK,h,gK,Nat.mul_add,Nat.pow_add,Nat.mul_assoc,Nat.add_assoc, <- Nat.add_assoc i a b]
theorem mQ(l:List Nat):val l=sv l 0 l.length:=by rw[Ev,List.take_length]
theorem EM{l:List Nat}{i j:Nat}(h:∀t,t<j -> dg l (i+t)=0):sv l i j=0:=by
 induction j with
 | zero=>rfl
 | succ j E=>rw[gK,E (fun t F=>h t (by omega)),h j (by omega)];rfl
theorem EN{l m:List Nat}(E:l.length=m.length){i j:Nat}(M:i+j <= l.length)(h:∀k,(k<i \/ i+j <= k) -> dg m k=dg l k):val m+BB^i*sv l i j=val l+BB^i*sv m i j:=by
 obtain⟨r,F⟩:∃r,l.length=i+ (j+r):=⟨l.length-(i+j),by omega⟩
 rw[mQ l,mQ m, <- E,F,nP l 0 i,nP l (0+i),nP m 0 i,nP m (0+i)];rw[uR (l:=m) (m:=l) (i:=0) (j:=i) (fun t G=>h _ (by omega))];rw[uR (l:=m) (m:=l) (i:=0+i+j) (j:=r) (fun t G=>h _ (by omega))];rw[Nat.mul_add,Nat.mul_add,Nat.zero_add];omega
theorem EO{b y n:Nat}(Z:(ek b).length=n+1)(a3:y<32)(hy:2147483648 <= dg (ek b) n*2^y)(a0:dg (ek b) n*2^y<4294967296):
  (ek (2^y*b)).length=n+1 /\ 2147483648 <= dg (ek (2^y*b)) n:=by
 have hb:b=sv (ek b) 0 n+BB^n*dg (ek b) n:=by
  have:=mQ (ek b);rw[fu,Z,gK,Nat.zero_add] at this;exact this
 have hl:=lQ (fF b) 0 n;have hP:0<BB^n:=Nat.pow_pos (by decide);have O:=(xk (y:=y) (d:=dg (ek b) n) a3).2;rw[Nat.mod_eq_of_lt a0] at O;have G:0<2^y:=Nat.pow_pos (by decide)
 have T:2^y*b<BB^ (n+1):=by
  have F:b<BB^n* (dg (ek b) n+1):=by rw[Nat.mul_add,Nat.mul_one];omega
  have t:=Nat.mul_lt_mul_of_pos_left F G
  have E:2^y* (BB^n* (dg (ek b) n+1))=BB^n* (dg (ek b) n*2^y+2^y):=by
   rw[Nat.mul_left_comm,Nat.mul_add,Nat.mul_one,Nat.mul_comm (2^y)]
  have h:BB^n* (dg (ek b) n*2^y+2^y) <= BB^n*4294967296:=Nat.mul_le_mul_left _ O;rw[Nat.pow_succ,ik];rw[ik] at t E h;exact Nat.lt_of_lt_of_le t (by rw[E];exact h)
 have U:b <= 2^y*b:=Nat.le_mul_of_pos_left _ G
 have M:(ek (2^y*b)).length=n+1:=by
  have a1:=jQ T;have a2:=iO U;omega
 refine⟨M,?_⟩
 have hV:2^y*b=sv (ek (2^y*b)) 0 n+BB^n*dg (ek (2^y*b)) n:=by
  have:=mQ (ek (2^y*b));rw[fu,M,gK,Nat.zero_add] at this;exact this
 have a4:=lQ (fF (2^y*b)) 0 n
 have X:BB^n*2147483648 <= 2^y*b:=by
  have F:BB^n*dg (ek b) n <= b:=by omega
  have t:=Nat.mul_le_mul_left (2^y) F;have E:2^y* (BB^n*dg (ek b) n)=BB^n* (dg (ek b) n*2^y):=by rw[Nat.mul_left_comm,Nat.mul_comm (2^y)]
  have h:=Nat.mul_le_mul_left (BB^n) hy;rw[<- E] at h;exact Nat.le_trans h t
 have Y:BB^n*2147483648<BB^n* (dg (ek (2^y*b)) n+1):=by
  have R:BB^n* (dg (ek (2^y*b)) n+1)=BB^n*dg (ek (2^y*b)) n+BB^n:=Nat.mul_succ _ _;rw[R];exact Nat.lt_of_le_of_lt X (by omega)
 have:=Nat.lt_of_mul_lt_mul_left Y;omega
structure jT (U V n K k:Nat) (lo q:List Nat):Prop where
 len:lo.length=K+n
 qlen:q.length=K
 hk:k <= K
 dig:Dig lo
 qdig:Dig q
 eq:U=val lo+V* (BB^k*val (q.drop k))
 low:sv lo k n<V
 zero:∀j,k+n <= j -> dg lo j=0
theorem jT.start{U V n K:Nat}{lo:List Nat}(t:lo.length=K+n)(F:Dig lo)(h:U=val lo)(G:U<BB^K*V):jT U V n K K lo (List.replicate K 0) where
 len:=t
 qlen:=List.length_replicate
 hk:=Nat.le_refl _
 dig:=F
 qdig:=Dig.replicate _
 eq:=by rw[List.drop_of_length_le (by rw[List.length_replicate];exact Nat.le_refl _)];simp[val,h]
 low:=by
  have h1:U=sv lo 0 K+BB^K*sv lo K n:=by rw[h,mQ,t,nP,Nat.zero_add]
  have E:BB^K*sv lo K n<BB^K*V:=by omega
  exact Nat.lt_of_mul_lt_mul_left E
 zero:=fun j M=>jm (by omega)
theorem jT.pre{U V n K k:Nat}{lo q:List Nat}(h:jT U V n K (k+1) lo q):sv lo k (n+1)<BB*V:=by
 rw[Nat.add_comm n 1,nP,gK,yf,Nat.pow_zero,Nat.one_mul,Nat.zero_add,Nat.pow_one,Nat.add_zero];have h1:=h.low;have E:=h.dig k;have t:=Nat.mul_le_mul_left BB (Nat.succ_le_of_lt h1);rw[Nat.mul_succ] at t;have:BB=4294967296:=rfl;omega
theorem jT.step{U V n K k:Nat}{lo q t:List Nat}(h:jT U V n K (k+1) lo q)(E:0<V)(a2:V<BB^n)(Y:t.length=lo.length)(X:Dig t)(M:∀j,j<k \/ k+n<j -> dg t j=dg lo j)(O:sv t k (n+1)=sv lo k (n+1)%V):
  jT U V n K k t (q.set k (sv lo k (n+1) / V)):=by
 have hk:=h.hk;have a3:=h.len;have a1:=h.qlen;have Z:=h.pre;have a0:sv lo k (n+1) / V<4294967296:=by rw[Nat.div_lt_iff_lt_mul E];exact Z
 have T:=EN (l:=lo) (m:=t) Y.symm (i:=k) (j:=n+1) (by omega) (fun j G=>M j (by omega));have a4:sv t k (n+1)<V:=by rw[O];exact Nat.mod_lt _ E
 have a5:sv t k (n+1)=sv t k n+BB^n*dg t (k+n):=gK _ _ _
 have hz:dg t (k+n)=0:=by
  rcases Nat.eq_zero_or_pos (dg t (k+n)) with g | g
  ·exact g
  ·have:=Nat.mul_le_mul_left (BB^n) g;omega
 refine⟨by omega,by rw[List.length_set];exact a1,by omega,X,h.qdig.set _ _ a0,?_,by omega,?_⟩
 ·rw[h.eq,oJ _ _ _ (by omega)];have F:=Nat.div_add_mod (sv lo k (n+1)) V;rw[<- O] at F;rw[<- F,Nat.mul_add] at T
  have R:V* (BB^k* (sv lo k (n+1) / V+BB*val (List.drop (k+1) q)))=BB^k* (V* (sv lo k (n+1) / V))+V* (BB^ (k+1)*val (List.drop (k+1) q)):=by
   rw[Nat.mul_add,Nat.mul_add,Nat.pow_succ,Nat.mul_left_comm, <- Nat.mul_assoc (BB^k) BB]
  rw[R];omega
 ·intro j G
  rcases Nat.lt_or_eq_of_le G with g | g
  ·rw[M j (.inr g)];exact h.zero j (by omega)
  ·rw[<- g];exact hz
theorem jT.done{U V n K:Nat}{lo q:List Nat}(h:jT U V n K 0 lo q):val lo=U%V /\ val q=U / V:=by
 have h1:val lo<V:=by
  rw[mQ,h.len,Nat.add_comm,nP,EM (i:=0+n) (j:=K) (fun t _=>h.zero _ (by omega)),Nat.mul_zero,Nat.add_zero];exact h.low
 have E:=h.eq;rw[Nat.pow_zero,Nat.one_mul,List.drop_zero] at E;have F:0<V:=by omega
 constructor
 ·rw[E,Nat.add_mul_mod_self_left,Nat.mod_eq_of_lt h1]
 ·rw[E,Nat.add_mul_div_left _ _ F,Nat.div_eq_of_lt h1,Nat.zero_add]
theorem EP{a b y K n:Nat}(F:(ek a).length+1=K+ (n+1))(E:(ek b).length=n+1):2^y*a<BB^K* (2^y*b):=by
 have h1:=mI a;have h:=oH (jY b) (by omega);rw[fu,E,Nat.add_sub_cancel] at h;rw[show(ek a).length=K+n by omega,Nat.pow_add] at h1;have t:a<BB^K*b:=Nat.lt_of_lt_of_le h1 (Nat.mul_le_mul_left _ h);have:=Nat.mul_lt_mul_of_pos_left t (show 0<2^y from Nat.pow_pos (by decide))
 rwa [Nat.mul_left_comm] at this
theorem EQ{a b y:Nat}:2^y*a / (2^y*b)=a / b /\ 2^y*a% (2^y*b) / 2^y=a%b:=by
 have h:0<2^y:=Nat.pow_pos (by decide);exact⟨Nat.mul_div_mul_left _ _ h,by rw[Nat.mul_mod_mul_left,Nat.mul_div_cancel_left _ h]⟩
end
section
open Go.RowKit
theorem U32.drewN{w:World}{A:Option Addr}{l:List Nat}(h:U32 w A l)(n:Nat):U32 (w.drewN n) A l:=h
theorem iQ.drewN{w:World}{v:Value}{l:Nat}(h:iQ w v l)(n:Nat):iQ (w.drewN n) v l:=h
theorem eQ.drewN{w:World}{v:Value}{l:Int}(h:eQ w v l)(n:Nat):eQ (w.drewN n) v l:=h
theorem rT(A B:Option Addr)(ca cb a b:Nat)(w:World)(ha:U32 w A (ek a))(hb:U32 w B (ek b))(ad:(ek a).length<17592186044416)(_hlb:(ek b).length<17592186044416):
  Calls prog 155 #[.slice A (ek a).length ca, .slice B (ek b).length cb] w fun e w'=>e= .returned (.int .i64 (fM a b)) /\ gy w w':=by
 have a6:=fu a;have a7:=fu b;have a0:=jY a;have a1:=jY b;generalize ek a=h at*;generalize ek b=lb at*;subst a6 a7;have T:=lH a0;have U:=lH a1;clear a0 a1;obtain⟨a8,Z⟩:=eX (fM (val h) (val lb));rw[<- Z];have E:=lH Z;clear Z;by_cases G:h.length=lb.length
 ·have a4:(((h.length:Nat):Int) != (lb.length:Nat))=false:=by rw[G];simp
  have t:=lH G;clear G;go_enter func155,ntmps155;go_wp2_with fail
  go_loopw [5] (fun v wr=>∃k:Nat,k <= h.length /\ v= .int .i64 ((k:Int)-1) /\ Hid (∀j,k <= j -> j<h.length -> dg h j=dg lb j) /\ gy w wr) (fun v _=>(intOf v+1).toNat)
  case atStart=>exact⟨h.length,Nat.le_refl _,rfl,fun j h1 h2=>absurd h1 oM,gy.refl _⟩
  case round=>
   obtain⟨k,hk,rfl,R,hw⟩:=hrel;obtain⟨m,rfl⟩:=hw
   rcases k with _ | k
   ·go_wp2_with fail
    go_returns;refine⟨?_,gy.mk _ _⟩;have:val h=val lb:=uF t.o (fun j hj=>R.o j (Nat.zero_le _) hj);rw[E.o,fM,if_neg oM,if_pos this];rfl
   ·obtain⟨b1,ae,rfl,a9,a2⟩:=Cells.at_ ha oM;obtain⟨b2,af,rfl,aa,a3⟩:=Cells.at_ hb (by have:=t.o;omega);have ab:=a2 k oM;have ac:=a3 k (by have:=t.o;omega);have h1:((k:Nat):Int)<(h.length:Nat):=oM
    have h2:((k:Nat):Int)<(lb.length:Nat):=by have:=t.o;omega
    clear a2 a3 a4;by_cases F:dg h k=dg lb k
    ·have a5:(((dg h k:Nat):Int) != (dg lb k:Nat))=false:=by rw[F];simp
     have X:=lH F;clear F;go_wp2_with fail
     go_quiet (fail)
     go_wp2_with fail
     go_roundw
     case rel=>
      refine⟨k,by omega,rfl,fun j h3 M=> ?_,gy.mk _ _⟩;by_cases hj:j=k
      ·rw[hj];exact X.o
      ·exact R.o j oM M
     case measure=>exact mZ
    ·have a5:(((dg h k:Nat):Int) != (dg lb k:Nat))=true:=by simp;omega
     have X:=lH F;clear F;by_cases O:dg h k<dg lb k
     ·have Y:=lH O;go_wp2_with fail
      go_quiet (fail)
      go_wp2_with fail
      go_quiet (fail)
      go_wp2_with fail
      go_returns;refine⟨?_,((gy.mk _ _).step _).step _⟩;have:=qg T.o.1 t.o oM (fun j h3 M=>R.o j oM M) Y.o;rw[E.o,fM,if_pos this];rfl
     ·have Y:=lH O;go_wp2_with fail
      go_quiet (fail)
      go_wp2_with fail
      go_quiet (fail)
      go_wp2_with fail
      go_returns;refine⟨?_,((gy.mk _ _).step _).step _⟩;have h5:=X.o;have h6:=Y.o;have h7:=t.o;have:=qg (k:=k) U.o.1 t.o.symm oM (fun j h3 M=>(R.o j oM oM).symm) oM;rw[E.o,fM,if_neg oM,if_neg oM];rfl
 ·have t:=lH G;have a4:(((h.length:Nat):Int) != (lb.length:Nat))=true:=by simp;omega
  clear G;by_cases O:h.length<lb.length
  ·go_enter func155,ntmps155;go_wp2_with fail
   go_returns;refine⟨?_,gy.refl _⟩;have:=qd T.o.1 U.o O;rw[E.o,fM,if_pos this];rfl
  ·go_enter func155,ntmps155;go_wp2_with fail
   go_returns;refine⟨?_,gy.refl _⟩;have h2:=t.o;have:=qd U.o.1 T.o oM;rw[E.o,fM,if_neg oM,if_neg oM];rfl
theorem rU(A B:Option Addr)(F G a b:Nat)(h lb:List Nat)(w:World)(t:Hid (h=ek a))(E:Hid (lb=ek b))(M:U32 w A h)(O:U32 w B lb)(R:h.length<17592186044416)(T:lb.length<17592186044416):
  Calls prog 155 #[.slice A h.length F, .slice B lb.length G] w fun e w'=>e= .returned (.int .i64 (fM a b)) /\ gy w w':=by
 have t:=t.o;have E:=E.o;subst t E;exact rT A B F G a b w M O R T
end
section
open Go.RowKit
theorem yl(A:Option Addr)(ca b:Nat)(l:List Nat)(w:World)(ha:U32 w A l)(a5:Dig l)(af:l.length<17592186044416)(T:b<4294967296)(U:0<b):
  Calls prog 135 #[.slice A l.length ca, .int .u32 (b:Nat)] w fun e w'=>∃v,e= .returned (.tuple #[v, .int .u32 (val l%b:Nat)]) /\ (iQ w' v (val l / b) /\ ∃g n c,v= .slice (some ⟨g,0,none⟩) n c) /\ Below w.heap.size w w':=by
 obtain⟨i0,a6,a7,a8,a9⟩:=info_parts mK;have ab:((b:Nat):Int)<4294967296:=oM
 have a2:0<((b:Nat):Int):=oM
 have HB:=lH T;have R:=lH U;clear T U;go_enter func135,ntmps135
 go_wp2_with (at_make;refine lM _ rfl (.tmp 10) (.tmp 10) 101 rfl 160 i0 (.int .u32 0) underlying101 a6 a7 a8 rfl _ _ _ rfl rfl rfl rfl ?_ ?_ ?_)
 ·first | omega | (rw[a9];omega)
 ·unfold maxLen;omega
 intro w1 h a3 al;have hr:=fI.made h;clear h;have HR:=lH hr;clear hr;go_wp2_with fail
 go_loopw [7,8] (fun rv O wr=>∃ (k r:Nat) (lo:List Nat),k <= l.length /\ rv= .int .u64 r /\ O= .int .i64 ((k:Int)-1) /\ fI wr w.heap.size lo /\ lo.length=l.length /\ Dig lo /\ ((r:Nat):Int)<(b:Nat) /\ Hid (val (l.drop k)=b*val (lo.drop k)+r) /\ Below w.heap.size w wr)
  (fun _ O _=>(intOf O+1).toNat)
 case atStart=>exact⟨l.length,0,_,Nat.le_refl _,rfl,rfl,HR.o,List.length_replicate,Dig.replicate _,a2,by show _=_;rw[List.drop_eq_nil_of_le (Nat.le_refl _),List.drop_eq_nil_of_le (by rw[List.length_replicate];exact Nat.le_refl _)];rfl,a3⟩
 case round=>
  obtain⟨k,r,lo,hk,rfl,rfl,h,a1,Z,ak,a0,M⟩:=hrel;have G:=lH Z;clear Z
  rcases k with _ | k
  ·go_wp2_with fail
   refine(mM _ _ _ lo _ a1.symm (Nat.le_refl _) (by unfold maxLen;omega) h.u32 G.o).mono ?_;rintro e w2 ⟨rfl,ag,rfl⟩;have h1:=a0.o;rw[List.drop_zero,List.drop_zero] at h1;have E:val l / b=val lo:=by rw[h1,Nat.mul_add_div R.o,Nat.div_eq_of_lt oM,Nat.add_zero]
   have hm:val l%b=r:=by rw[h1,Nat.mul_add_mod,Nat.mod_eq_of_lt oM]
   have t:=lH E;have HM:=lH hm;clear h1 E hm;go_wp2_with fail
   go_returns;refine⟨_,by rw[HM.o];rfl,⟨⟨_,l.length,by first | (rw[t.o];done) | (rw[t.o];rfl),?_,by unfold maxLen;omega,?_⟩,_,_,_,rfl⟩,M⟩
   ·rw[t.o];omega
   ·rw[t.o];exact h.u32.trimmed G.o
  ·obtain⟨b1,aa,rfl,a4,X⟩:=Cells.at_ ha oM;have Y:=X k oM;have ac:((dg l k:Nat):Int)<4294967296:=by have:=a5 k;omega
   have hg:=h.cell (j:=k) oM;have ae:=h.free k;have ad:=((fw M).1 b1 (aa+k) a4).trans Y;have h1:((k:Nat):Int)<(l.length:Nat):=oM
   clear X Y;obtain⟨s,F⟩:=eX (r*4294967296+dg l k);have am:((s:Nat):Int) <= 18446744073709551615:=oM
   have ah:bits .or .u64 (((r:Nat):Int)*4294967296) ((dg l k:Nat):Int)=((s:Nat):Int):=by
    rw[uH r (dg l k) oM oM,F]
   have E:=Dp (r:=r) (b:=b) (d:=dg l k) oM oM;rw[<- F] at E;have aj:((s / b:Nat):Int)<4294967296:=oM
   have ai:0 <= ((s / b:Nat):Int):=Int.natCast_nonneg _;have t:=lH E;have HS:=lH F;clear F E;go_wp2_with fail
   go_roundw
   case rel=>
    refine⟨k,s%b,lo.set k (s / b),by omega,by simp,rfl,h.set k _ ?_,by rw[List.length_set];exact a1,G.o.set _ _ t.o,?_,?_,M.setCell (Nat.le_refl _) _⟩
    ·first | rfl | (refine congrArg (Value.int .u32) ?_;omega)
    ·have:=Nat.mod_lt s R.o;omega
    ·have:=Dn (r:=r) (b:=b) oM oM a0.o;rw[<- HS.o] at this;exact this
   case measure=>exact mZ
theorem ER(A:Option Addr)(h b:Nat)(l:List Nat)(w:World)(F:U32 w A l)(O:Dig l)(R:l.length<17592186044416)(G:b<4294967296)(M:0<b):
  Calls prog 135 #[.slice A l.length h, .int .u32 (b:Nat)] w fun e w'=>∃v,e= .returned (.tuple #[v, .int .u32 (val l%b:Nat)]) /\ iQ w' v (val l / b) /\ Below w.heap.size w w':=
 (yl A h b l w F O R G M).mono fun _ _ ⟨v,h1,t,E⟩=>⟨v,h1,t.1,E⟩
end
section
open Go.RowKit
theorem ym(A:Option Addr)(ca y:Nat)(l:List Nat)(w:World)(ha:U32 w A l)(ac:Dig l)(av:l.length<17592186044416)(hy:y<32):
  Calls prog 197 #[.slice A l.length ca, .int .i64 (y:Nat)] w fun e w'=>∃g E,e= .returned (.slice (some ⟨g,0,none⟩) E.length E.length) /\ fI w' g E /\ Dig E /\ val E=2^y*val l /\ E.length=l.length+1 /\ Below w.heap.size w w' /\ w.heap.size <= g:=by
 obtain⟨i0,ae,ah,ai,aj⟩:=info_parts mK;go_enter func197,ntmps197
 go_wp2_with (at_make;refine lM _ rfl (.tmp 10) (.tmp 10) 101 rfl 160 i0 (.int .u32 0) underlying101 ae ah ai rfl _ _ _ rfl rfl rfl rfl ?_ ?_ ?_)
 ·first | omega | (rw[aj];omega)
 ·unfold maxLen;omega
 intro w1 h aa ag;have U:=fI.made h;clear h;have HR:=lH U;clear U;go_wp2_with fail
 go_loopw [14] (fun X wr=>∃ (k:Nat) (lo:List Nat),k <= l.length /\ X= .int .i64 k /\ fI wr w.heap.size lo /\ lo.length=l.length+1 /\ Dig lo /\ Hid (dg lo k<2^y) /\ Hid (val (lo.take k)+BB^k*dg lo k=2^y*val (l.take k)) /\ Below w.heap.size w wr)
  (fun X _=>l.length-(intOf X).toNat)
 case atStart=>exact⟨0,_,Nat.zero_le _,rfl,HR.o,List.length_replicate,Dig.replicate _,by show _<_;rw[nG];split <;> exact Nat.two_pow_pos y,by show _=_;simp[val,nG],aa⟩
 case round=>
  obtain⟨k,lo,hk,rfl,h,T,a3,ad,a4,R⟩:=hrel;have Y:=lH a3;clear a3;by_cases af:k<l.length
  ·obtain⟨b1,ak,rfl,ab,a1⟩:=Cells.at_ ha oM;have a2:=a1 k af;have an:((dg l k:Nat):Int)<4294967296:=by have:=ac k;omega
   have hg:=h.cell (j:=k) oM;have aq:=h.free k;have au:=h.cell (j:=k+1) oM;have ar:=h.free (k+1);have ao:=((fw R).1 b1 (ak+k) ab).trans a2;have h1:((k:Nat):Int)<(l.length:Nat)+1:=oM
   have h2:((k:Nat):Int)+1<(l.length:Nat)+1:=oM
   clear a1 a2;have M:=ad.o;obtain⟨P,t⟩:=eX (2^y);have am:(2:Int)^y=(P:Nat):=by rw[t];simp
   have a0:P <= 2147483648:=by rw[t];exact Nat.pow_le_pow_right (n:=2) oM (show y <= 31 by omega)
   obtain⟨s,F⟩:=eX (dg l k*P);have ag:((dg l k:Nat):Int)* (P:Nat)=(s:Nat):=by rw[F];simp
   have a5:s <= 4294967295*2147483648:=by rw[F];exact Nat.mul_le_mul oM a0
   have ax:((s:Nat):Int) <= 9223372034707292160:=oM
   have O:=xk (d:=dg l k) hy;rw[<- t, <- F] at O;rw[<- t] at M
   have aw:bits .or .u32 ((dg lo k:Nat):Int) (((s:Nat):Int)%4294967296)=((dg lo k+s%4294967296:Nat):Int):=by
    rw[show(((s:Nat):Int)%4294967296)=((s%4294967296:Nat):Int) by omega,xz];rw[xy y _ _ (by rw[<- t];exact O.1) (by rw[<- t];exact M) oM,Nat.add_comm]
   have G:=lH t;have Z:=lH F;have al:=lH a5;have a8:=lH O;have a7:=lH M;clear t a0 F a5 O M;go_wp2_with fail
   go_region
   go_wp2_with fail
   go_roundw
   case rel=>
    have a6:s / 4294967296<2^y:=by
     rw[Z.o,G.o];refine Nat.div_lt_of_lt_mul ?_;rw[Nat.mul_comm 4294967296];rw[Nat.mul_comm (dg l k)];exact Nat.mul_lt_mul_of_pos_left oM (Nat.two_pow_pos y)
    rw[<- G.o] at a6;have a9:=G.o;have U:=a8.o;have ap:=a7.o;refine⟨k+1,(lo.set k (dg lo k+s%4294967296)).set (k+1) (s / 4294967296),by omega,by simp,?_,by rw[List.length_set,List.length_set];exact T,(Y.o.set _ _ oM).set _ _ oM,?_,?_,?_⟩
    ·exact fI.set (h.set k (dg lo k+s%4294967296) (by simp)) (k+1) (s / 4294967296) (by simp)
    ·show _<_;rw[iB,if_pos ⟨rfl,by rw[List.length_set];omega⟩, <- a9];exact a6
    ·exact Dq oM (by rw[Z.o,G.o]) a4
    ·exact((R.setCell (p:=⟨w.heap.size,k,none⟩) (Nat.le_refl _) _).drew).setCell (p:=⟨w.heap.size,k+1,none⟩) (Nat.le_refl _) _
   case measure=>exact mZ
  ·obtain rfl:k=l.length:=oM
   go_wp2_with fail
   go_returns;have h1:=a4.o;rw[<- ib,iF oM,iF (Nat.le_refl _)] at h1;exact⟨w.heap.size,lo,by rw[T];rfl,h,Y.o,h1,T,R,Nat.le_refl _⟩
end
section
open Go.RowKit
def Own(w:World)(base:Nat)(e:TypeId)(g cap:Nat)(xs:List Value):Prop:=
 w.ownsRow base e 1 (.slice (some ⟨g,0,none⟩) xs.length cap) xs.length xs
section
variable {w w':World} {base g cap:Nat} {e:TypeId} {xs:List Value}
theorem Own.lt(h:Own w base e g cap xs):base <= g /\ g<w.heap.size:=World.ownsRow.lt h g rfl
theorem Own.le(h:Own w base e g cap xs):xs.length <= cap /\ cap <= maxLen:=by
 rcases h.2 with ⟨t,_⟩ | ⟨g',F,G,t,_,_,h1,E,_⟩
 ·simp at t
 ·simp only[Value.slice.injEq,Option.some.injEq,Addr.mk.injEq,and_true,true_and] at t;obtain⟨rfl,rfl⟩:=t;exact⟨h1,E⟩
theorem Own.cell(h:Own w base e g cap xs){j:Nat}(t:j<xs.length): w.cell? ⟨g,j,none⟩=xs[j]? :=World.ownsRow.cellAt h j oM
theorem Own.free(h:Own w base e g cap xs)(j:Nat): w.frozen? ⟨g,j,none⟩=false:=World.ownsRow.frozenAt h j
theorem Own.set(h:Own w base e g cap xs)(j:Nat)(v:Value):Own (w.setCell ⟨g,j,none⟩ v) base e g cap (xs.set j v):=by
 have:=(World.ownsRow.stored h j v).1;unfold Own
 rwa [List.length_set]
theorem Own.below(h:Own w base e g cap xs){B:Nat}(F:Below B w w')(M:g<B):Own w' base e g cap xs:=by
 rcases h.2 with ⟨t,_⟩ | ⟨g',R,E,t,G,O,rest⟩
 ·simp at t
 ·simp only[Value.slice.injEq,Option.some.injEq,Addr.mk.injEq,and_true,true_and] at t;obtain⟨rfl,rfl⟩:=t;exact⟨h.1, .inr ⟨g,cap,E,rfl,G,(F.block g M).trans O,rest⟩⟩
theorem Own.yn{v:Value}{n:Nat}(h:w.ownsRow base e 1 v n xs)(F:v≠ .slice none 0 0):∃g cap,v= .slice (some ⟨g,0,none⟩) n cap /\ n=xs.length /\ Own w base e g cap xs:=by
 have E:n=xs.length:=by have:=h.1;omega
 subst E
 rcases h.2 with ⟨t,_⟩ | ⟨g,cap,M,G,_⟩
 ·exact absurd t F
 ·subst G;exact⟨g,cap,rfl,rfl,h⟩
end
def jb(w:World)(base g cap:Nat)(l:List Nat):Prop:=Own w base 160 g cap (l.map (fun d=>Value.int .u32 (d:Nat)))
section
variable {w w':World} {base g cap:Nat} {l:List Nat}
theorem jb.lt(h:jb w base g cap l):base <= g /\ g<w.heap.size:=Own.lt h
theorem jb.le(h:jb w base g cap l):l.length <= cap /\ cap <= maxLen:=by have:=Own.le h;rwa [List.length_map] at this
theorem jb.cell(h:jb w base g cap l){j:Nat}(t:j<l.length): w.cell? ⟨g,j,none⟩=some (.int .u32 (dg l j:Nat)):=by
 rw[Own.cell h (by rw[List.length_map];exact t),jG t];simp[t]
theorem jb.free(h:jb w base g cap l)(j:Nat): w.frozen? ⟨g,j,none⟩=false:=Own.free h j
theorem jb.set(h:jb w base g cap l)(j x:Nat){v:Value}(t:v= .int .u32 (x:Nat)):jb (w.setCell ⟨g,j,none⟩ v) base g cap (l.set j x):=by
 subst t;have:=Own.set h j (.int .u32 (x:Nat));unfold jb
 rwa [List.map_set]
theorem Own.bt{e:TypeId}{xs:List Value}(h:Own w base e g cap xs)(v:Value)(F:∀z,v= .int .u32 z -> e=160):BT w g v:=by
 rcases h.2 with ⟨t,_⟩ | ⟨g',G,M,t,_,E,_⟩
 ·simp at t
 ·simp only[Value.slice.injEq,Option.some.injEq,Addr.mk.injEq,and_true,true_and] at t;obtain⟨rfl,rfl⟩:=t;exact⟨_,_,_,E,F⟩
theorem jb.u32(h:jb w base g cap l):U32 w (some ⟨g,0,none⟩) l:=
 .inr ⟨g,0,rfl,fun j t=>by rw[Nat.zero_add];exact h.cell t,Own.bt h _ fun _ _=>rfl⟩
theorem jb.drew(h:jb w base g cap l):jb w.drew base g cap l:=h
end
end
section
open Go.RowKit
theorem ES(b a3 ca y:Nat)(l:List Nat)(w:World)(ha:U32 w (some ⟨b,a3,none⟩) l)(a5:Dig l)(aE:l.length<17592186044416)(hy:y<32):
  Calls prog 199 #[.slice (some ⟨b,a3,none⟩) l.length ca, .int .i64 (y:Nat)] w fun e w'=>∃v,e= .returned v /\ iQ w' v (val l / 2^y) /\ Below w.heap.size w w':=by
 obtain⟨i0,am,ar,G,au⟩:=info_parts mK;go_enter func199,ntmps199;go_wp2_with fail
 refine(Tryz.slices_Clone i0 (.int .u32 0) 1 4 am ar G au rfl oM (fun w=>by kernel_rfl) b a3 l.length ca (l.map (fun d=>Value.int .u32 (d:Nat))) w (by simp) (by unfold maxLen;omega) oM ?_ ?_).mono ?_
 ·intro j u M;rw[List.getElem?_map] at M
  rcases Nat.lt_or_ge j l.length with F | F
  ·rcases ha with h0 | ⟨b',av,U,hc,_⟩
   ·omega
   ·simp only[Option.some.injEq,Addr.mk.injEq,and_true] at U;obtain⟨rfl,rfl⟩:=U;rw[hc j F];simp only[jG F]
    simpa [F] using M
  ·rw[List.getElem?_eq_none F] at M;simp at M
 ·intro u M;obtain⟨_,_,rfl⟩:=List.mem_map.1 M;rfl
 rintro e w1 ⟨v1,rfl,h,ag,ac⟩;obtain⟨g,cap,rfl, -,h⟩:=Own.yn h ag;have h:jb w1 w.heap.size g cap l:=h;have a6:=h.lt;obtain⟨Q,X⟩:=eX (2^y);obtain⟨R,hR⟩:=eX (2^ (32-y));have aa:Q*R=4294967296:=by rw[X,hR, <- Nat.pow_add,show y+ (32-y)=32 by omega]
 have a9:0<Q:=by rw[X];exact Nat.two_pow_pos y
 have ax:(2:Int)^y=(Q:Nat):=by rw[X];simp
 have HQ:=lH X;have T:=lH aa;have a0:=lH a9;have HR:=lH hR;have ak:=lH h;have ah:=lH ac;clear X aa a9 hR h ac ag;go_wp2_with fail
 go_loopw [11] (fun iv wr=>∃ (k:Nat) (lo:List Nat),k <= l.length /\ iv= .int .i64 k /\ jb wr w.heap.size g cap lo /\ Hid (lo.length=l.length) /\ Dig lo /\ Hid (∀j,k <= j -> dg lo j=dg l j) /\ Hid (Q*val (lo.take k)+dg l 0%Q=val (l.take k)+BB^k* (dg l k%Q)) /\ Below w.heap.size w wr)
  (fun iv _=>l.length-(intOf iv).toNat)
 case atStart=>exact⟨0,l,Nat.zero_le _,rfl,ak.o,rfl,a5,fun _ _=>rfl,by show _=_;simp[val],ah.o⟩
 case round=>
  obtain⟨k,lo,hk,rfl,h,t,ae,a8,a7,a1⟩:=hrel;have Z:=lH ae;clear ae;by_cases af:k<l.length
  ·have aq:=t.o;have hg:=h.cell (j:=k) oM;have aC:=h.free k;rw[a8.o k (Nat.le_refl _)] at hg;have aD:((k:Nat):Int)<(l.length:Nat):=oM
   have az:((dg l k:Nat):Int)<4294967296:=by have:=a5 k;omega
   clear aq;obtain⟨a,a4⟩:=eX (dg l k / Q);have ay:((dg l k:Nat):Int) / (Q:Nat)=(a:Nat):=by rw[a4];simp
   have O:=lH a4;clear a4;by_cases an:k+1<l.length
   ·obtain⟨b',av,U,al,ad⟩:=Cells.at_ ha oM;simp only[Option.some.injEq,Addr.mk.injEq,and_true] at U;obtain⟨rfl,rfl⟩:=U;have aB:=((fw a1).1 b (a3+ (k+1)) al).trans (ad (k+1) an);have ao:((k:Nat):Int)+1<(l.length:Nat):=oM
    have aA:((dg l (k+1):Nat):Int)<4294967296:=by have:=a5 (k+1);omega
    obtain⟨z,hz⟩:=eX (dg l (k+1)*4294967296 / Q%4294967296);obtain⟨z1,G⟩:=eX (dg l (k+1)*4294967296 / Q);rw[<- G] at hz;have aH:((dg l (k+1):Nat):Int)*4294967296 / (Q:Nat)=(z1:Nat):=by rw[G];simp
    have aJ:((z1:Nat):Int)%4294967296=(z:Nat):=oM
    have HZ:=lH hz;have aw:=lH G;have E:=Dr (a:=dg l k) (b:=dg l (k+1)) T.o a0.o;have Y:=xq (a:=dg l k) (b:=dg l (k+1)) T.o a0.o oM;rw[<- G, <- hz, <- O.o] at E;rw[<- O.o, <- E.1] at Y
    have aG:bits .or .u32 ((a:Nat):Int) ((z:Nat):Int)=((a+z:Nat):Int):=by
     rw[xz,xy (32-y) z a ?_ (by rw[<- HR.o];exact Y.1) oM,Nat.add_comm];rw[<- HR.o,E.1,Nat.mul_mod_right]
    have ai:=lH E;have aj:=lH Y;clear hz G E Y ad;go_wp2_with fail
    go_region
    go_wp2_with fail
    go_roundw
    case rel=>
     have a2:=(h.set k a rfl).set k (a+z) (v:= .int .u32 (((a:Nat):Int)+ (z:Nat))) (by simp);rw[List.set_set] at a2;have E:=ai.o;have Y:=aj.o;refine⟨k+1,lo.set k (a+z),by omega,by simp,a2,by show _=_;rw[List.length_set];exact t.o,Z.o.set _ _ oM,?_,?_,?_⟩
     ·intro j F;rw[iB,if_neg oM];exact a8.o j oM
     ·have:=xu (lo:=lo) (l:=l) (k:=k) (Q:=Q) (R:=R) (b0:=dg l 0%Q) (by rw[t.o];exact af) T.o a7.o;rw[<- E.1, <- O.o] at this;exact this
     ·exact((a1.setCell (p:=⟨g,k,none⟩) a6.1 _).drew).setCell (p:=⟨g,k,none⟩) a6.1 _
    case measure=>exact mZ
   ·have ao:¬(((k:Nat):Int)+1<(l.length:Nat)):=oM
    go_wp2_with fail
    go_roundw
    case rel=>
     have a2:=h.set k a rfl;have h0:dg l (k+1)=0:=jm oM;have ab:=(xq (a:=dg l k) (b:=0) T.o a0.o oM).2;rw[<- O.o,Nat.zero_mod,Nat.mul_zero,Nat.add_zero] at ab;refine⟨k+1,lo.set k a,by omega,by simp,a2,by show _=_;rw[List.length_set];exact t.o,Z.o.set _ _ ab,?_,?_,a1.setCell (p:=⟨g,k,none⟩) a6.1 _⟩
     ·intro j F;rw[iB,if_neg oM];exact a8.o j oM
     ·have:=xu (lo:=lo) (l:=l) (k:=k) (Q:=Q) (R:=R) (b0:=dg l 0%Q) (by rw[t.o];exact af) T.o a7.o;rw[<- O.o,h0,Nat.zero_mod,Nat.mul_zero,Nat.add_zero] at this;rw[h0,Nat.zero_mod];exact this
    case measure=>exact mZ
  ·obtain rfl:k=l.length:=oM
   go_wp2_with fail
   have hv:=Dt t.o a0.o a7.o;rw[HQ.o] at hv;refine(mM _ _ _ lo _ t.o.symm (by have:=h.le;rw[t.o] at this;exact this.1) h.le.2 h.u32 Z.o).mono ?_;rintro e w2 ⟨rfl,aF,rfl⟩;have ap:=h.le;have HV:=lH hv;clear hv;go_wp2_with fail
   go_returns;refine⟨_,rfl,⟨_,cap,by rw[<- HV.o];rfl,by rw[<- HV.o];omega,ap.2,by rw[<- HV.o];exact h.u32.trimmed Z.o⟩,a1⟩
end
end Go.Proofs.YtdefghfjhgmpfaaGreatDoor
