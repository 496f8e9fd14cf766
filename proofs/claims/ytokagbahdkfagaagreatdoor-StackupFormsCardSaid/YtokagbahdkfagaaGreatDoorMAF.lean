/- Parts of this proof: Digit Long Order Short Raised Own Lowered. -/
import Derived.Test.YtokagbahdkfagaaGreatDoorMAC
import Derived.Test.YtokagbahdkfagaaGreatDoorMAE
import Derived.Deep.DeepCutAuto
import Derived.Lib.ItoaNum
import Derived.Test.YtokagbahdkfagaaGreatDoorMAA
namespace Go.Proofs.YtokagbahdkfagaaGreatDoor
open Tryz
section
open Go.RowKit
set_option maxRecDepth 100000 in
set_option maxHeartbeats 1600000 in
theorem Dw(g i m cu cv bv ay:Nat)(t lv:List Nat)(w:World)(hu:fA w g t)(a0:Dig t)(bA:i+m+2<t.length)(bG:t.length<17592186044416)
  (hv:U32 w (some ⟨bv,ay,none⟩) lv) (aP:lv.length=m+2) (a6:Dig lv) (aQ:bv≠g) (bc:2147483648 <= dg lv (m+1)) (av:sv t i (m+3)<BB*sv lv 0 (m+2)):
  Calls prog 165 #[.slice (some ⟨g,i,none⟩) (m+3) cu, .slice (some ⟨bv,ay,none⟩) (m+2) cv] w fun e w'=>e= .returned (.int .u32 (sv t i (m+3) / sv lv 0 (m+2):Nat)) /\
   ∃lo,fA w' g lo /\ Dig lo /\ lo.length=t.length /\ (∀j,j<i \/ i+m+2<j -> dg lo j=dg t j) /\ sv lo i (m+3)=sv t i (m+3)%sv lv 0 (m+2) /\ w.grownBy w' (some g):=by
 have ah:∀j,j<m+2 -> w.cell? ⟨bv,ay+j,none⟩=some (.int .u32 (dg lv j:Nat)):=by
  rcases hv with h0 | ⟨b',bM,hA,hc,_⟩
  ·omega
  ·simp only[Option.some.injEq,Addr.mk.injEq,and_true] at hA;obtain⟨rfl,rfl⟩:=hA;intro j M;exact hc j oM
 have a5:∀j,j<m+3 -> w.cell? ⟨g,i+j,none⟩=some (.int .u32 (dg t (i+j):Nat)):=fun j M=>hu.cell oM
 have aH:∀j,w.frozen? ⟨g,i+j,none⟩=false:=fun j=>hu.free _
 have u0:=a5 m oM;have u1:=a5 (m+1) oM;have u2:=a5 (m+2) oM;have v0:=ah m oM;have v1:=ah (m+1) oM;have bd:=lH a5;have aV:=lH ah;have be:=lH aH;clear a5 ah aH;obtain⟨x0,ak⟩:=eX (dg t (i+m));obtain⟨x1,al⟩:=eX (dg t (i+ (m+1)));obtain⟨x2,ac⟩:=eX (dg t (i+ (m+2)));obtain⟨y0,am⟩:=eX (dg lv m);obtain⟨G,an⟩:=eX (dg lv (m+1));rw[<- ak] at u0;rw[<- al] at u1;rw[<- ac] at u2;rw[<- am] at v0;rw[<- an] at v1;have bl:((x0:Nat):Int)<4294967296:=by have:=a0 (i+m);omega
 have bm:((x1:Nat):Int)<4294967296:=by have:=a0 (i+ (m+1));omega
 have bn:((x2:Nat):Int)<4294967296:=by have:=a0 (i+ (m+2));omega
 have bo:((y0:Nat):Int)<4294967296:=by have:=a6 m;omega
 have bp:((G:Nat):Int)<4294967296:=by have:=a6 (m+1);omega
 have bq:2147483648 <= ((G:Nat):Int):=oM
 have bh:=lH ak;have bi:=lH al;have af:=lH ac;have bj:=lH am;have bk:=lH an;have bg:=lH aP;have bf:=lH av;have aW:=lH a0;have ao:=lH a6;have HU:=lH hu;obtain⟨h,hh⟩:=eX (x2*4294967296+x1);have b4:=sK x2 x1 oM oM;rw[<- hh] at b4;have bz:((h:Nat):Int) <= 18446744073709551615:=oM
 have ⟨hE,hV0⟩:=Dm a0 a6 ak al ac am an hh oM av;obtain⟨D,hD⟩:=eX (sv t i (m+3) / sv lv 0 (m+2));rw[<- hD] at hE;have HD:=lH hD;have aD:=lH hV0;have HE:=lH hE;clear hD hE hV0;obtain⟨q0,a9⟩:=eX (h / G);obtain⟨r0,aw⟩:=eX (h%G);have bH:((h:Nat):Int) / (G:Nat)=(q0:Nat):=by rw[a9];simp
 have ba:((h:Nat):Int)% (G:Nat)=(r0:Nat):=by rw[aw];simp
 have aS:((q0:Nat):Int) <= 18446744073709551615:=by
  have:=Nat.div_le_self h G;rw[<- a9] at this;omega
 have aA:=lH a9;have aB:=lH aw;clear a9 aw;have HH:=lH hh;clear ak al ac am an aP av bc a0 a6 hv hh;go_enter func165,ntmps165;go_wp2_with fail
 go_quiet (fail)
 go_wp2_with fail
 go_quiet (fail)
 go_upto_block 0 with (fail)
 rw[ba]
 go_cut [7,8] (fun qv _ wx=>∃q:Nat,qv= .int .u64 q /\ ((q:Nat):Int)<4294967296 /\ D <= q /\ q <= D+1 /\ ib w wx)
 case first=>
  go_wp2_with fail
  go_loopw [7,8] (fun qv rv wx=>∃q r:Nat,qv= .int .u64 q /\ rv= .int .u64 r /\ Hid (q*G+r=h) /\ D <= q /\ ((q:Nat):Int) <= 18446744073709551615 /\ ((r:Nat):Int)<8589934592 /\ ib w wx) (fun _ rv _=>4294967296-(intOf rv).toNat)
  case atStart=>
   refine⟨q0,r0,rfl,rfl,?_,?_,aS,?_,((ib.mk w _).step _)⟩
   ·rw[aA.o,aB.o,Nat.mul_comm];exact Nat.div_add_mod _ _
   ·rw[aA.o];exact HE.o.start
   ·have:=Nat.mod_lt h (show 0<G by omega);rw[<- aB.o] at this;omega
  case round=>
   obtain⟨q,r,rfl,rfl,aa,ag,aS,bJ,R⟩:=hrel;obtain⟨nd,R⟩:=R;subst R;by_cases hr:((r:Nat):Int)<4294967296
   ·by_cases hq:(4294967296:Int) <= (q:Nat)
    ·have hb:=HE.o.big q oM;go_wp2_with fail
     go_quiet (fail)
     go_wp2_with fail
     go_roundw
     case rel=>exact⟨q-1,r+G,congrArg (Value.int .u64) oM,congrArg (Value.int .u64) oM,wX oM aa,hb,by omega,by omega,ib.mk _ _⟩
     case measure=>exact mZ
    ·obtain⟨p,Y⟩:=eX (q*y0);have b6:((q:Nat):Int)* ((y0:Nat):Int)=(p:Nat):=by rw[Y];simp
     have b7:((p:Nat):Int) <= 18446744065119617025:=by
      have:=Nat.mul_le_mul (show q <= 4294967295 by omega) (show y0 <= 4294967295 by omega);omega
     have b5:=sK r x0 oM oM;obtain⟨z,hz⟩:=eX (r*4294967296+x0);rw[<- hz] at b5;have bL:((z:Nat):Int) <= 18446744073709551615:=oM
     have HP:=lH Y;have HZ:=lH hz;have b8:((q:Nat):Int)<4294967296:=oM
     have bu:decide ((4294967296:Int) <= (q:Nat))=false:=by simp[hq]
     clear Y hz hq;by_cases ht:((z:Nat):Int)<((p:Nat):Int)
     ·have ⟨hb,hqp⟩:=HE.o.down q r aa.o (by rw[<- HP.o, <- HZ.o];omega);go_wp2_with fail
      go_quiet (fail)
      go_wp2_with fail
      go_roundw
      case rel=>exact⟨q-1,r+G,congrArg (Value.int .u64) oM,congrArg (Value.int .u64) oM,wX hqp aa,hb,by omega,by omega,ib.mk _ _⟩
      case measure=>exact mZ
     ·have bw:decide (z<p)=false:=decide_eq_false oM;go_wp2_with fail
      go_quiet (fail)
      have:=HE.o.up q r aa.o (by rw[<- HP.o, <- HZ.o];omega) oM;go_wp2_with fail
      go_meet
      exact⟨q,rfl,b8,ag,this,ib.step ⟨_,rfl⟩ _⟩
   ·have hd:decide (((r:Nat):Int)<4294967296)=false:=by simp[hr]
    clear hr;go_wp2_with fail
    go_quiet (fail)
    go_wp2_with fail
    go_meet
    have:=HE.o.far q r aa.o (by have:=of_decide_eq_false hd;omega);exact⟨q,rfl,by omega,ag,this.2,ib.step ⟨_,rfl⟩ _⟩
 case rest=>
  obtain⟨q,rfl,bI,ag,b9,R⟩:=hcut;obtain⟨nd,R⟩:=R;subst R;have w0:fA (w.drewN nd) g t:=HU.o;have wc:=fun j M=>(aV.o j M)
  have wg:w.grownBy (w.drewN nd) (some g):=⟨rfl,rfl,rfl,Nat.le_refl _,fun _ _ _=>rfl⟩;obtain⟨W,hW⟩:=eX (w.drewN nd);rw[<- hW] at w0 wg ⊢;clear hW;have WC:=lH wc;clear wc;go_wp2_with fail
  go_loopw [9,10,86] (fun cv bv Z wr=>∃ (k c b:Nat) (lo:List Nat),k <= m+2 /\ cv= .int .u64 c /\ bv= .int .i64 b /\ Z= .int .i64 k /\ fA wr g lo /\ lo.length=t.length /\ Hid (Dig lo) /\ b <= 1 /\ ((c:Nat):Int)<4294967296 /\
    Hid (sv t i k+BB^k* (c+b)=sv lo i k+q*sv lv 0 k) /\ Hid (∀j,(j<i \/ i+k <= j) -> dg lo j=dg t j) /\ w.grownBy wr (some g))
   (fun _ _ Z _=>m+2-(intOf Z).toNat)
  case atStart=>exact⟨0,0,0,t,Nat.zero_le _,rfl,rfl,rfl,w0,rfl,aW,by omega,by omega,by show _=_;simp[sv],by show ∀_,_;exact fun _ _=>rfl,wg⟩
  case round=>
   obtain⟨k,c,b,lo,hk,rfl,rfl,rfl,O,au,ad,br,hc,ar,a2,aK⟩:=hrel;have ae:=lH aK;clear aK;by_cases bC:((k:Nat):Int)<(m:Nat)+2
   ·have b1:=(ae.o.cell (WC.o k oM) (by simp;exact aQ));have b0:((dg lv k:Nat):Int)<4294967296:=by have:=ao.o k;omega
    have a7:=O.cell (j:=i+k) oM;have ai:=O.free (i+k);have a3:=a2.o (i+k) (.inr (Nat.le_refl _));have aJ:((dg lo (i+k):Nat):Int)<4294967296:=by have:=ad.o (i+k);omega
    have aC:=lH a3;clear a3;obtain⟨p,Y⟩:=eX (q*dg lv k);have b6:((q:Nat):Int)* ((dg lv k:Nat):Int)=(p:Nat):=by rw[Y];simp
    have b7:((p:Nat):Int) <= 18446744065119617025:=by
     have:=Nat.mul_le_mul (show q <= 4294967295 by omega) (show dg lv k <= 4294967295 by omega);omega
    have HP:=lH Y;clear Y;obtain⟨s,hs⟩:∃s:Nat,((c:Nat):Int)+ ((p:Nat):Int)=(s:Nat):=⟨c+p,by simp⟩
    have aT:((s:Nat):Int) <= 18446744069414584320:=oM
    obtain⟨e,he⟩:∃e:Nat,((s:Nat):Int)%4294967296=(e:Nat):=⟨s%4294967296,by simp⟩
    have bx:((e:Nat):Int)<4294967296:=oM
    obtain⟨n1,b2⟩:∃n:Int,((dg lo (i+k):Nat):Int)-(b:Nat)=n:=⟨_,rfl⟩
    obtain⟨C,b3⟩:∃n:Int,n1-((e:Nat):Int)=n:=⟨_,rfl⟩
    have aY: -4294967297<C:=oM
    have aZ:C<4294967297:=oM
    by_cases aR:C<0
    all_goals
     go_wp2_with fail
     go_roundw
     case rel=>
      have ax:=Dn (lo:=lo) (l0:=t) (lv:=lv) (i:=i) (j:=k) (c:=c) (b:=b) (b':=if C<0 then 1 else 0) (q:=q) (x:=(dg lo (i+k)+4294967296-b-e)%4294967296) (s:=s) oM ar (by rw[<- HP.o];omega)
       (by rw[<- aC.o];split <;> omega)
      refine⟨k+1,s / 4294967296,if C<0 then 1 else 0,lo.set (i+k) ((dg lo (i+k)+4294967296-b-e)%4294967296),by omega,by simp,?_,by simp,O.set (i+k) _ ?_,by rw[List.length_set];exact au,lH (ad.o.set _ _ (Nat.mod_lt _ oM)),by split <;> omega,by omega,lH ax,?_,grownBy_trans ae.o (grownBy_set _ _ _ _)⟩
      ·simp[aR]
      ·refine congrArg (Value.int .u32) ?_;omega
      ·refine lH fun j M=> ?_
       rw[iM,if_neg oM];exact a2.o j oM
     case measure=>exact mZ
   ·obtain rfl:k=m+2:=oM
    have a7:=O.cell (j:=i+ (m+2)) oM;have ai:=O.free (i+ (m+2));rw[a2.o (i+ (m+2)) (.inr (Nat.le_refl _)), <- af.o] at a7;obtain⟨n1,b2⟩:∃n:Int,((x2:Nat):Int)-(b:Nat)=n:=⟨_,rfl⟩
    obtain⟨C,b3⟩:∃n:Int,n1-((c:Nat):Int)=n:=⟨_,rfl⟩
    have aY: -4294967297<C:=oM
    have aZ:C<4294967297:=oM
    have a3:=a2.o (i+ (m+2)) (.inr (Nat.le_refl _));rw[<- af.o] at a3;have aC:=lH a3;clear a3;by_cases aR:(0:Int) <= C
    ·go_wp2_with fail
     go_returns;obtain⟨x,hx⟩:∃x:Nat,C=(x:Nat):=⟨C.toNat,by omega⟩
     have ab:=O.set (i+ (m+2)) x (v:= .int .u32 C) (by rw[hx]);have hS:=Dt lo t lv (i:=i) (m:=m+2) (q:=q) (x:=x) (c:=c) (b:=b) oM ar (by rw[<- af.o];omega);have he:=Dq aD.o hS (by rw[<- HD.o];exact ag);have hq:((q:Nat):Int)=((sv t i (m+3):Nat):Int) / ((sv lv 0 (m+2):Nat):Int):=by rw[<- Int.natCast_ediv];exact congrArg _ he.1
     refine⟨congrArg (fun z=>Ending.returned (Value.int .u32 z)) hq,lo.set (i+ (m+2)) x,ab,ad.o.set _ _ oM,by rw[List.length_set];exact au,?_,he.2,grownBy_trans ae.o (grownBy_set _ _ _ _)⟩;intro j M;rw[iM,if_neg oM];exact a2.o j oM
    ·obtain⟨x,hx⟩:∃x:Nat,C+4294967296=(x:Nat):=⟨(C+4294967296).toNat,by omega⟩
     have bK:((x:Nat):Int)<4294967296:=oM
     have ac:C%4294967296=(x:Nat):=oM
     go_wp2_with fail
     have ab:=O.set (i+ (m+2)) x (v:= .int .u32 (x:Nat)) rfl;have hS:=Du lo t lv (i:=i) (m:=m+2) (q:=q) (x:=x) (c:=c) (b:=b) oM ar (by rw[<- af.o];omega);have hG:=grownBy_trans ae.o (grownBy_set wr g (i+ (m+2)) (.int .u32 (x:Nat)));obtain⟨l1,a8⟩:=eX (lo.set (i+ (m+2)) x);rw[<- a8] at ab hS;have aF:Dig l1:=by rw[a8];exact ad.o.set _ _ oM
     have aN:l1.length=t.length:=by rw[a8,List.length_set];exact au
     have aU:∀j,(j<i \/ i+m+2<j) -> dg l1 j=dg t j:=by
      intro j M;rw[a8,iM,if_neg oM];exact a2.o j oM
     obtain⟨W2,aE⟩:=eX (wr.setCell ⟨g,i+ (m+2),none⟩ (.int .u32 (x:Nat)));rw[<- aE] at ab hG ⊢;have aG:=lH aF;have bb:=lH aU;have aX:=lH hS;have bF:=lH aN;clear aE a8 O a7 ai aF aU hS
     go_loopw [9,139] (fun cv Z wr=>∃ (k c:Nat) (lo:List Nat),k <= m+2 /\ cv= .int .u64 c /\ Z= .int .i64 k /\ fA wr g lo /\ lo.length=t.length /\ Hid (Dig lo) /\ c <= 1 /\
       Hid (sv lo i k+BB^k*c=sv l1 i k+sv lv 0 k) /\ Hid (∀j,(j<i \/ i+k <= j) -> dg lo j=dg l1 j) /\ w.grownBy wr (some g))
      (fun _ Z _=>m+2-(intOf Z).toNat)
     case atStart=>exact⟨0,0,l1,Nat.zero_le _,rfl,rfl,ab,aN,aG,by omega,by show _=_;simp[sv],by show ∀_,_;exact fun _ _=>rfl,hG⟩
     case round=>
      obtain⟨k,c3,E,bB,rfl,rfl,a1,aO,a4,bs,aM,aj,aL⟩:=hrel;have ap:=lH aL;clear aL;by_cases bE:((k:Nat):Int)<(m:Nat)+2
      ·have b1:=(ap.o.cell (WC.o k oM) (by simp;exact aQ));have b0:((dg lv k:Nat):Int)<4294967296:=by have:=ao.o k;omega
       have a7:=a1.cell (j:=i+k) oM;have ai:=a1.free (i+k);have aJ:((dg E (i+k):Nat):Int)<4294967296:=by have:=a4.o (i+k);omega
       obtain⟨s,hs⟩:∃s:Nat,((c3:Nat):Int)+ (((dg E (i+k):Nat):Int)+ ((dg lv k:Nat):Int))=(s:Nat):=⟨c3+ (dg E (i+k)+dg lv k),by simp⟩
       have aT:((s:Nat):Int) <= 8589934591:=oM
       go_wp2_with fail
       go_roundw
       case rel=>
        have ax:=Dp (lo:=E) (l0:=l1) (lv:=lv) (i:=i) (j:=k) (c:=c3) (s:=s) oM aM (by rw[<- aj.o (i+k) (.inr (Nat.le_refl _))];omega);refine⟨k+1,s / 4294967296,E.set (i+k) (s%4294967296),by omega,by simp,by simp,a1.set (i+k) _ (by simp),by rw[List.length_set];exact aO,lH (a4.o.set _ _ (Nat.mod_lt _ oM)),by omega,lH ax,?_,grownBy_trans ap.o (grownBy_set _ _ _ _)⟩;refine lH fun j M=> ?_
        rw[iM,if_neg oM];exact aj.o j oM
       case measure=>exact mZ
      ·obtain rfl:k=m+2:=oM
       have a7:=a1.cell (j:=i+ (m+2)) oM;have ai:=a1.free (i+ (m+2));have aJ:((dg E (i+ (m+2)):Nat):Int)<4294967296:=by have:=a4.o (i+ (m+2));omega
       obtain⟨s,hs⟩:∃s:Nat,((dg E (i+ (m+2)):Nat):Int)+ ((c3:Nat):Int)=(s:Nat):=⟨dg E (i+ (m+2))+c3,by simp⟩
       have aT:((s:Nat):Int) <= 8589934591:=oM
       have aq:=Dr (U:=sv t i (m+3)) (V:=sv lv 0 (m+2)) (q:=q) (S:=sv l1 i (m+3)) (T:=sv (E.set (i+ (m+2)) (s%4294967296)) i (m+3)) (X:=BB^ (m+3)) (ov:=s / 4294967296) aD.o aX.o (lN aG.o _ _)
        (Nat.lt_of_lt_of_le (lN ao.o _ _) (Nat.pow_le_pow_right dC oM)) (by rw[<- HD.o];exact b9)
        (Dv E l1 lv (i:=i) (m:=m+2) (c:=c3) (s:=s) oM aM.o (by rw[<- aj.o (i+ (m+2)) (.inr (Nat.le_refl _))];omega))
        (lN (a4.o.set _ _ (Nat.mod_lt _ oM)) _ _)
       have az:=lH aq;have a9:=aq.2.2;clear aq;go_wp2_with fail
       go_returns;have hq:((q:Nat):Int)-1=((sv t i (m+3):Nat):Int) / ((sv lv 0 (m+2):Nat):Int):=by rw[<- Int.natCast_ediv, <- az.o.1];omega
       refine⟨congrArg (fun z=>Ending.returned (Value.int .u32 z)) hq,E.set (i+ (m+2)) (s%4294967296),a1.set (i+ (m+2)) _ (by simp),a4.o.set _ _ (Nat.mod_lt _ oM),by rw[List.length_set];exact aO,?_,az.o.2.1,grownBy_trans ap.o (grownBy_set _ _ _ _)⟩;intro j M;rw[iM,if_neg oM,aj.o j oM];exact bb.o j M
end
section
theorem Dx{d:Nat}(h:0<d)(G:d<4294967296):∃y,y<32 /\ (32-(Lib.bitLen d:Int))=((y:Nat):Int) /\ 2147483648 <= d*2^y /\ d*2^y<4294967296:=by
 obtain⟨h1,t,C⟩:=Lib.bitLenAux_bounds 64 d (Nat.lt_of_lt_of_le G (by decide)) (by omega);obtain⟨k,E⟩:∃k,k+1=Lib.bitLen d:=⟨Lib.bitLen d-1,by unfold Lib.bitLen;omega⟩
 have e:Lib.bitLenAux 64 d=k+1:=E.symm;rw[e] at t C;rw[Nat.add_sub_cancel] at t
 have M:k<32:=by
  rcases Nat.lt_or_ge k 32 with g | g
  ·exact g
  ·have:2^32 <= 2^k:=Nat.pow_le_pow_right (by decide) g;omega
 refine⟨31-k,by omega,by rw[<- E];omega,?_,?_⟩
 ·have r:=Nat.mul_le_mul_right (2^ (31-k)) t;rw[<- Nat.pow_add,show k+ (31-k)=31 by omega] at r;exact r
 ·have r:=Nat.mul_lt_mul_of_pos_right C (show 0<2^ (31-k) from Nat.pow_pos (by decide));rw[<- Nat.pow_add,show k+1+ (31-k)=32 by omega] at r;exact r
theorem nD(l:List Nat)(i a b:Nat):sv l i (a+b)=sv l i a+BB^a*sv l (i+a) b:=by
 induction b with
 | zero=>simp[sv]
 | succ b h=>
  rw[<- Nat.add_assoc,gG,h,gG,Nat.mul_add,Nat.pow_add,Nat.mul_assoc,Nat.add_assoc, <- Nat.add_assoc i a b]
theorem mI(l:List Nat):val l=sv l 0 l.length:=by rw[Df,List.take_length]
theorem Dy{l:List Nat}{i j:Nat}(h:∀t,t<j -> dg l (i+t)=0):sv l i j=0:=by
 induction j with
 | zero=>rfl
 | succ j r=>rw[gG,r (fun t C=>h t (by omega)),h j (by omega)];rfl
theorem Dz{l m:List Nat}(C:l.length=m.length){i j:Nat}(M:i+j <= l.length)(h:∀k,(k<i \/ i+j <= k) -> dg m k=dg l k):val m+BB^i*sv l i j=val l+BB^i*sv m i j:=by
 obtain⟨r,E⟩:∃r,l.length=i+ (j+r):=⟨l.length-(i+j),by omega⟩
 rw[mI l,mI m, <- C,E,nD l 0 i,nD l (0+i),nD m 0 i,nD m (0+i)];rw[tL (l:=m) (m:=l) (i:=0) (j:=i) (fun t G=>h _ (by omega))];rw[tL (l:=m) (m:=l) (i:=0+i+j) (j:=r) (fun t G=>h _ (by omega))];rw[Nat.mul_add,Nat.mul_add,Nat.zero_add];omega
theorem DC{b y n:Nat}(W:(ek b).length=n+1)(Z:y<32)(X:2147483648 <= dg (ek b) n*2^y)(Y:dg (ek b) n*2^y<4294967296):
  (ek (2^y*b)).length=n+1 /\ 2147483648 <= dg (ek (2^y*b)) n:=by
 have hb:b=sv (ek b) 0 n+BB^n*dg (ek b) n:=by
  have:=mI (ek b);rw[fC,W,gG,Nat.zero_add] at this;exact this
 have hl:=lN (fV b) 0 n;have hP:0<BB^n:=Nat.pow_pos (by decide);have M:=(vH (y:=y) (d:=dg (ek b) n) Z).2;rw[Nat.mod_eq_of_lt Y] at M;have E:0<2^y:=Nat.pow_pos (by decide)
 have R:2^y*b<BB^ (n+1):=by
  have C:b<BB^n* (dg (ek b) n+1):=by rw[Nat.mul_add,Nat.mul_one];omega
  have r:=Nat.mul_lt_mul_of_pos_left C E
  have t:2^y* (BB^n* (dg (ek b) n+1))=BB^n* (dg (ek b) n*2^y+2^y):=by
   rw[Nat.mul_left_comm,Nat.mul_add,Nat.mul_one,Nat.mul_comm (2^y)]
  have h:BB^n* (dg (ek b) n*2^y+2^y) <= BB^n*4294967296:=Nat.mul_le_mul_left _ M;rw[Nat.pow_succ,iy];rw[iy] at r t h;exact Nat.lt_of_lt_of_le r (by rw[t];exact h)
 have T:b <= 2^y*b:=Nat.le_mul_of_pos_left _ E
 have G:(ek (2^y*b)).length=n+1:=by
  have a1:=jS R;have a2:=jT T;omega
 refine⟨G,?_⟩
 have hV:2^y*b=sv (ek (2^y*b)) 0 n+BB^n*dg (ek (2^y*b)) n:=by
  have:=mI (ek (2^y*b));rw[fC,G,gG,Nat.zero_add] at this;exact this
 have a0:=lN (fV (2^y*b)) 0 n
 have U:BB^n*2147483648 <= 2^y*b:=by
  have C:BB^n*dg (ek b) n <= b:=by omega
  have r:=Nat.mul_le_mul_left (2^y) C;have t:2^y* (BB^n*dg (ek b) n)=BB^n* (dg (ek b) n*2^y):=by rw[Nat.mul_left_comm,Nat.mul_comm (2^y)]
  have h:=Nat.mul_le_mul_left (BB^n) X;rw[<- t] at h;exact Nat.le_trans h r
 have V:BB^n*2147483648<BB^n* (dg (ek (2^y*b)) n+1):=by
  have O:BB^n* (dg (ek (2^y*b)) n+1)=BB^n*dg (ek (2^y*b)) n+BB^n:=Nat.mul_succ _ _;rw[O];exact Nat.lt_of_le_of_lt U (by omega)
 have:=Nat.lt_of_mul_lt_mul_left V;omega
structure jL (U V n K k:Nat) (lo q:List Nat):Prop where
 len:lo.length=K+n
 qlen:q.length=K
 hk:k <= K
 dig:Dig lo
 qdig:Dig q
 eq:U=val lo+V* (BB^k*val (q.drop k))
 low:sv lo k n<V
 zero:∀j,k+n <= j -> dg lo j=0
theorem jL.start{U V n K:Nat}{lo:List Nat}(r:lo.length=K+n)(C:Dig lo)(h:U=val lo)(E:U<BB^K*V):jL U V n K K lo (List.replicate K 0) where
 len:=r
 qlen:=List.length_replicate
 hk:=Nat.le_refl _
 dig:=C
 qdig:=Dig.replicate _
 eq:=by rw[List.drop_of_length_le (by rw[List.length_replicate];exact Nat.le_refl _)];simp[val,h]
 low:=by
  have h1:U=sv lo 0 K+BB^K*sv lo K n:=by rw[h,mI,r,nD,Nat.zero_add]
  have t:BB^K*sv lo K n<BB^K*V:=by omega
  exact Nat.lt_of_mul_lt_mul_left t
 zero:=fun j G=>mo (by omega)
theorem jL.pre{U V n K k:Nat}{lo q:List Nat}(h:jL U V n K (k+1) lo q):sv lo k (n+1)<BB*V:=by
 rw[Nat.add_comm n 1,nD,gG,wU,Nat.pow_zero,Nat.one_mul,Nat.zero_add,Nat.pow_one,Nat.add_zero];have h1:=h.low;have t:=h.dig k;have r:=Nat.mul_le_mul_left BB (Nat.succ_le_of_lt h1);rw[Nat.mul_succ] at r;have:BB=4294967296:=rfl;omega
theorem jL.step{U V n K k:Nat}{lo q r:List Nat}(h:jL U V n K (k+1) lo q)(t:0<V)(a0:V<BB^n)(W:r.length=lo.length)(T:Dig r)(G:∀j,j<k \/ k+n<j -> dg r j=dg lo j)(M:sv r k (n+1)=sv lo k (n+1)%V):
  jL U V n K k r (q.set k (sv lo k (n+1) / V)):=by
 have hk:=h.hk;have a1:=h.len;have Z:=h.qlen;have X:=h.pre;have Y:sv lo k (n+1) / V<4294967296:=by rw[Nat.div_lt_iff_lt_mul t];exact X
 have R:=Dz (l:=lo) (m:=r) W.symm (i:=k) (j:=n+1) (by omega) (fun j E=>G j (by omega));have a2:sv r k (n+1)<V:=by rw[M];exact Nat.mod_lt _ t
 have a3:sv r k (n+1)=sv r k n+BB^n*dg r (k+n):=gG _ _ _
 have hz:dg r (k+n)=0:=by
  rcases Nat.eq_zero_or_pos (dg r (k+n)) with g | g
  ·exact g
  ·have:=Nat.mul_le_mul_left (BB^n) g;omega
 refine⟨by omega,by rw[List.length_set];exact Z,by omega,T,h.qdig.set _ _ Y,?_,by omega,?_⟩
 ·rw[h.eq,oN _ _ _ (by omega)];have C:=Nat.div_add_mod (sv lo k (n+1)) V;rw[<- M] at C;rw[<- C,Nat.mul_add] at R
  have O:V* (BB^k* (sv lo k (n+1) / V+BB*val (List.drop (k+1) q)))=BB^k* (V* (sv lo k (n+1) / V))+V* (BB^ (k+1)*val (List.drop (k+1) q)):=by
   rw[Nat.mul_add,Nat.mul_add,Nat.pow_succ,Nat.mul_left_comm, <- Nat.mul_assoc (BB^k) BB]
  rw[O];omega
 ·intro j E
  rcases Nat.lt_or_eq_of_le E with g | g
  ·rw[G j (.inr g)];exact h.zero j (by omega)
  ·rw[<- g];exact hz
theorem jL.done{U V n K:Nat}{lo q:List Nat}(h:jL U V n K 0 lo q):val lo=U%V /\ val q=U / V:=by
 have h1:val lo<V:=by
  rw[mI,h.len,Nat.add_comm,nD,Dy (i:=0+n) (j:=K) (fun t _=>h.zero _ (by omega)),Nat.mul_zero,Nat.add_zero];exact h.low
 have r:=h.eq;rw[Nat.pow_zero,Nat.one_mul,List.drop_zero] at r;have C:0<V:=by omega
 constructor
 ·rw[r,Nat.add_mul_mod_self_left,Nat.mod_eq_of_lt h1]
 ·rw[r,Nat.add_mul_div_left _ _ C,Nat.div_eq_of_lt h1,Nat.zero_add]
theorem DD{a b y K n:Nat}(C:(ek a).length+1=K+ (n+1))(t:(ek b).length=n+1):2^y*a<BB^K* (2^y*b):=by
 have h1:=nk a;have h:=nU (kV b) (by omega);rw[fC,t,Nat.add_sub_cancel] at h;rw[show(ek a).length=K+n by omega,Nat.pow_add] at h1;have r:a<BB^K*b:=Nat.lt_of_lt_of_le h1 (Nat.mul_le_mul_left _ h);have:=Nat.mul_lt_mul_of_pos_left r (show 0<2^y from Nat.pow_pos (by decide))
 rwa [Nat.mul_left_comm] at this
theorem DF{a b y:Nat}:2^y*a / (2^y*b)=a / b /\ 2^y*a% (2^y*b) / 2^y=a%b:=by
 have h:0<2^y:=Nat.pow_pos (by decide);exact⟨Nat.mul_div_mul_left _ _ h,by rw[Nat.mul_mod_mul_left,Nat.mul_div_cancel_left _ h]⟩
end
section
open Go.RowKit
theorem U32.drewN{w:World}{A:Option Addr}{l:List Nat}(h:U32 w A l)(n:Nat):U32 (w.drewN n) A l:=h
theorem iH.drewN{w:World}{v:Value}{l:Nat}(h:iH w v l)(n:Nat):iH (w.drewN n) v l:=h
theorem eT.drewN{w:World}{v:Value}{l:Int}(h:eT w v l)(n:Nat):eT (w.drewN n) v l:=h
theorem qG(A B:Option Addr)(ca cb a b:Nat)(w:World)(ha:U32 w A (ek a))(hb:U32 w B (ek b))(ad:(ek a).length<17592186044416)(_hlb:(ek b).length<17592186044416):
  Calls prog 108 #[.slice A (ek a).length ca, .slice B (ek b).length cb] w fun e w'=>e= .returned (.int .i64 (iE a b)) /\ ib w w':=by
 have a6:=fC a;have a7:=fC b;have a0:=kV a;have a1:=kV b;generalize ek a=h at*;generalize ek b=lb at*;subst a6 a7;have R:=lH a0;have T:=lH a1;clear a0 a1;obtain⟨a8,W⟩:=eX (iE (val h) (val lb));rw[<- W];have t:=lH W;clear W;by_cases E:h.length=lb.length
 ·have a4:(((h.length:Nat):Int) != (lb.length:Nat))=false:=by rw[E];simp
  have r:=lH E;clear E;go_enter func108,ntmps108;go_wp2_with fail
  go_loopw [5] (fun v wr=>∃k:Nat,k <= h.length /\ v= .int .i64 ((k:Int)-1) /\ Hid (∀j,k <= j -> j<h.length -> dg h j=dg lb j) /\ ib w wr) (fun v _=>(intOf v+1).toNat)
  case atStart=>exact⟨h.length,Nat.le_refl _,rfl,fun j h1 Y=>absurd h1 oM,ib.refl _⟩
  case round=>
   obtain⟨k,hk,rfl,O,hw⟩:=hrel;obtain⟨m,rfl⟩:=hw
   rcases k with _ | k
   ·go_wp2_with fail
    go_returns;refine⟨?_,ib.mk _ _⟩;have:val h=val lb:=vG r.o (fun j X=>O.o j (Nat.zero_le _) X);rw[t.o,iE,if_neg oM,if_pos this];rfl
   ·obtain⟨b1,ae,rfl,a9,a2⟩:=Cells.at_ ha oM;obtain⟨b2,af,rfl,aa,a3⟩:=Cells.at_ hb (by have:=r.o;omega);have ab:=a2 k oM;have ac:=a3 k (by have:=r.o;omega);have h1:((k:Nat):Int)<(h.length:Nat):=oM
    have Y:((k:Nat):Int)<(lb.length:Nat):=by have:=r.o;omega
    clear a2 a3 a4;by_cases C:dg h k=dg lb k
    ·have a5:(((dg h k:Nat):Int) != (dg lb k:Nat))=false:=by rw[C];simp
     have U:=lH C;clear C;go_wp2_with fail
     go_quiet (fail)
     go_wp2_with fail
     go_roundw
     case rel=>
      refine⟨k,by omega,rfl,fun j Z G=> ?_,ib.mk _ _⟩;by_cases X:j=k
      ·rw[X];exact U.o
      ·exact O.o j oM G
     case measure=>exact mZ
    ·have a5:(((dg h k:Nat):Int) != (dg lb k:Nat))=true:=by simp;omega
     have U:=lH C;clear C;by_cases M:dg h k<dg lb k
     ·have V:=lH M;go_wp2_with fail
      go_quiet (fail)
      go_wp2_with fail
      go_quiet (fail)
      go_wp2_with fail
      go_returns;refine⟨?_,((ib.mk _ _).step _).step _⟩;have:=sJ R.o.1 r.o oM (fun j Z G=>O.o j oM G) V.o;rw[t.o,iE,if_pos this];rfl
     ·have V:=lH M;go_wp2_with fail
      go_quiet (fail)
      go_wp2_with fail
      go_quiet (fail)
      go_wp2_with fail
      go_returns;refine⟨?_,((ib.mk _ _).step _).step _⟩;have h5:=U.o;have h6:=V.o;have h7:=r.o;have:=sJ (k:=k) T.o.1 r.o.symm oM (fun j Z G=>(O.o j oM oM).symm) oM;rw[t.o,iE,if_neg oM,if_neg oM];rfl
 ·have r:=lH E;have a4:(((h.length:Nat):Int) != (lb.length:Nat))=true:=by simp;omega
  clear E;by_cases M:h.length<lb.length
  ·go_enter func108,ntmps108;go_wp2_with fail
   go_returns;refine⟨?_,ib.refl _⟩;have:=sI R.o.1 T.o M;rw[t.o,iE,if_pos this];rfl
  ·go_enter func108,ntmps108;go_wp2_with fail
   go_returns;refine⟨?_,ib.refl _⟩;have Y:=r.o;have:=sI T.o.1 R.o oM;rw[t.o,iE,if_neg oM,if_neg oM];rfl
theorem qH(A B:Option Addr)(C E a b:Nat)(h lb:List Nat)(w:World)(r:Hid (h=ek a))(t:Hid (lb=ek b))(G:U32 w A h)(M:U32 w B lb)(O:h.length<17592186044416)(R:lb.length<17592186044416):
  Calls prog 108 #[.slice A h.length C, .slice B lb.length E] w fun e w'=>e= .returned (.int .i64 (iE a b)) /\ ib w w':=by
 have r:=r.o;have t:=t.o;subst r t;exact qG A B C E a b w G M O R
end
section
open Go.RowKit
theorem wY(A:Option Addr)(ca b:Nat)(l:List Nat)(w:World)(ha:U32 w A l)(a3:Dig l)(ad:l.length<17592186044416)(T:b<4294967296)(U:0<b):
  Calls prog 100 #[.slice A l.length ca, .int .u32 (b:Nat)] w fun e w'=>∃v,e= .returned (.tuple #[v, .int .u32 (val l%b:Nat)]) /\ (iH w' v (val l / b) /\ ∃g n c,v= .slice (some ⟨g,0,none⟩) n c) /\ Below w.heap.size w w':=by
 obtain⟨i0,a4,a5,a6,a7⟩:=info_parts mE;have a9:((b:Nat):Int)<4294967296:=oM
 have a0:0<((b:Nat):Int):=oM
 have HB:=lH T;have R:=lH U;clear T U;go_enter func100,ntmps100
 go_wp2_with (at_make;refine nz _ rfl (.tmp 10) (.tmp 10) 36 rfl 169 i0 (.int .u32 0) underlying36 a4 a5 a6 rfl _ _ _ rfl rfl rfl rfl ?_ ?_ ?_)
 ·first | omega | (rw[a7];omega)
 ·unfold maxLen;omega
 intro w1 h a1 aj;have hr:=fA.made h;clear h;have HR:=lH hr;clear hr;go_wp2_with fail
 go_loopw [7,8] (fun rv O wr=>∃ (k r:Nat) (lo:List Nat),k <= l.length /\ rv= .int .u64 r /\ O= .int .i64 ((k:Int)-1) /\ fA wr w.heap.size lo /\ lo.length=l.length /\ Dig lo /\ ((r:Nat):Int)<(b:Nat) /\ Hid (val (l.drop k)=b*val (lo.drop k)+r) /\ Below w.heap.size w wr)
  (fun _ O _=>(intOf O+1).toNat)
 case atStart=>exact⟨l.length,0,_,Nat.le_refl _,rfl,rfl,HR.o,List.length_replicate,Dig.replicate _,a0,by show _=_;rw[List.drop_eq_nil_of_le (Nat.le_refl _),List.drop_eq_nil_of_le (by rw[List.length_replicate];exact Nat.le_refl _)];rfl,a1⟩
 case round=>
  obtain⟨k,r,lo,hk,rfl,rfl,h,Z,X,ai,Y,M⟩:=hrel;have G:=lH X;clear X
  rcases k with _ | k
  ·go_wp2_with fail
   refine(mF _ _ _ lo _ Z.symm (Nat.le_refl _) (by unfold maxLen;omega) h.u32 G.o).mono ?_;rintro e w2 ⟨rfl,ae,rfl⟩;have h1:=Y.o;rw[List.drop_zero,List.drop_zero] at h1;have C:val l / b=val lo:=by rw[h1,Nat.mul_add_div R.o,Nat.div_eq_of_lt oM,Nat.add_zero]
   have hm:val l%b=r:=by rw[h1,Nat.mul_add_mod,Nat.mod_eq_of_lt oM]
   have t:=lH C;have HM:=lH hm;clear h1 C hm;go_wp2_with fail
   go_returns;refine⟨_,by rw[HM.o];rfl,⟨⟨_,l.length,by first | (rw[t.o];done) | (rw[t.o];rfl),?_,by unfold maxLen;omega,?_⟩,_,_,_,rfl⟩,M⟩
   ·rw[t.o];omega
   ·rw[t.o];exact h.u32.trimmed G.o
  ·obtain⟨b1,a8,rfl,a2,V⟩:=Cells.at_ ha oM;have W:=V k oM;have aa:((dg l k:Nat):Int)<4294967296:=by have:=a3 k;omega
   have hg:=h.cell (j:=k) oM;have ac:=h.free k;have ab:=((fu M).1 b1 (a8+k) a2).trans W;have h1:((k:Nat):Int)<(l.length:Nat):=oM
   clear V W;obtain⟨s,E⟩:=eX (r*4294967296+dg l k);have ak:((s:Nat):Int) <= 18446744073709551615:=oM
   have af:bits .or .u64 (((r:Nat):Int)*4294967296) ((dg l k:Nat):Int)=((s:Nat):Int):=by
    rw[sK r (dg l k) oM oM,E]
   have C:=C8 (r:=r) (b:=b) (d:=dg l k) oM oM;rw[<- E] at C;have ah:((s / b:Nat):Int)<4294967296:=oM
   have ag:0 <= ((s / b:Nat):Int):=Int.natCast_nonneg _;have t:=lH C;have HS:=lH E;clear E C;go_wp2_with fail
   go_roundw
   case rel=>
    refine⟨k,s%b,lo.set k (s / b),by omega,by simp,rfl,h.set k _ ?_,by rw[List.length_set];exact Z,G.o.set _ _ t.o,?_,?_,M.setCell (Nat.le_refl _) _⟩
    ·first | rfl | (refine congrArg (Value.int .u32) ?_;omega)
    ·have:=Nat.mod_lt s R.o;omega
    ·have:=BZ (r:=r) (b:=b) oM oM Y.o;rw[<- HS.o] at this;exact this
   case measure=>exact mZ
theorem DI(A:Option Addr)(h b:Nat)(l:List Nat)(w:World)(C:U32 w A l)(M:Dig l)(O:l.length<17592186044416)(E:b<4294967296)(G:0<b):
  Calls prog 100 #[.slice A l.length h, .int .u32 (b:Nat)] w fun e w'=>∃v,e= .returned (.tuple #[v, .int .u32 (val l%b:Nat)]) /\ iH w' v (val l / b) /\ Below w.heap.size w w':=
 (wY A h b l w C M O E G).mono fun _ _ ⟨v,h1,r,t⟩=>⟨v,h1,r.1,t⟩
end
section
open Go.RowKit
theorem wZ(A:Option Addr)(ca y:Nat)(l:List Nat)(w:World)(ha:U32 w A l)(a9:Dig l)(aq:l.length<17592186044416)(hy:y<32):
  Calls prog 164 #[.slice A l.length ca, .int .i64 (y:Nat)] w fun e w'=>∃g t,e= .returned (.slice (some ⟨g,0,none⟩) t.length t.length) /\ fA w' g t /\ Dig t /\ val t=2^y*val l /\ t.length=l.length+1 /\ Below w.heap.size w w' /\ w.heap.size <= g:=by
 obtain⟨i0,ab,ae,af,ag⟩:=info_parts mE;go_enter func164,ntmps164
 go_wp2_with (at_make;refine nz _ rfl (.tmp 10) (.tmp 10) 36 rfl 169 i0 (.int .u32 0) underlying36 ab ae af rfl _ _ _ rfl rfl rfl rfl ?_ ?_ ?_)
 ·first | omega | (rw[ag];omega)
 ·unfold maxLen;omega
 intro w1 h a7 ad;have T:=fA.made h;clear h;have HR:=lH T;clear T;go_wp2_with fail
 go_loopw [14] (fun U wr=>∃ (k:Nat) (lo:List Nat),k <= l.length /\ U= .int .i64 k /\ fA wr w.heap.size lo /\ lo.length=l.length+1 /\ Dig lo /\ Hid (dg lo k<2^y) /\ Hid (val (lo.take k)+BB^k*dg lo k=2^y*val (l.take k)) /\ Below w.heap.size w wr)
  (fun U _=>l.length-(intOf U).toNat)
 case atStart=>exact⟨0,_,Nat.zero_le _,rfl,HR.o,List.length_replicate,Dig.replicate _,by show _<_;rw[nT];split <;> exact Nat.two_pow_pos y,by show _=_;simp[val,nT],a7⟩
 case round=>
  obtain⟨k,lo,hk,rfl,h,R,a0,aa,a1,O⟩:=hrel;have V:=lH a0;clear a0;by_cases ac:k<l.length
  ·obtain⟨b1,ah,rfl,a8,Y⟩:=Cells.at_ ha oM;have Z:=Y k ac;have ak:((dg l k:Nat):Int)<4294967296:=by have:=a9 k;omega
   have hg:=h.cell (j:=k) oM;have an:=h.free k;have ap:=h.cell (j:=k+1) oM;have ao:=h.free (k+1);have al:=((fu O).1 b1 (ah+k) a8).trans Z;have h1:((k:Nat):Int)<(l.length:Nat)+1:=oM
   have h2:((k:Nat):Int)+1<(l.length:Nat)+1:=oM
   clear Y Z;have G:=aa.o;obtain⟨P,r⟩:=eX (2^y);have aj:(2:Int)^y=(P:Nat):=by rw[r];simp
   have X:P <= 2147483648:=by rw[r];exact Nat.pow_le_pow_right (n:=2) oM (show y <= 31 by omega)
   obtain⟨s,C⟩:=eX (dg l k*P);have ad:((dg l k:Nat):Int)* (P:Nat)=(s:Nat):=by rw[C];simp
   have a2:s <= 4294967295*2147483648:=by rw[C];exact Nat.mul_le_mul oM X
   have au:((s:Nat):Int) <= 9223372034707292160:=oM
   have M:=vH (d:=dg l k) hy;rw[<- r, <- C] at M;rw[<- r] at G
   have ar:bits .or .u32 ((dg lo k:Nat):Int) (((s:Nat):Int)%4294967296)=((dg lo k+s%4294967296:Nat):Int):=by
    rw[show(((s:Nat):Int)%4294967296)=((s%4294967296:Nat):Int) by omega,vP];rw[vO y _ _ (by rw[<- r];exact M.1) (by rw[<- r];exact G) oM,Nat.add_comm]
   have E:=lH r;have W:=lH C;have ai:=lH a2;have a5:=lH M;have a4:=lH G;clear r X C a2 M G;go_wp2_with fail
   go_region
   go_wp2_with fail
   go_roundw
   case rel=>
    have a3:s / 4294967296<2^y:=by
     rw[W.o,E.o];refine Nat.div_lt_of_lt_mul ?_;rw[Nat.mul_comm 4294967296];rw[Nat.mul_comm (dg l k)];exact Nat.mul_lt_mul_of_pos_left oM (Nat.two_pow_pos y)
    rw[<- E.o] at a3;have a6:=E.o;have T:=a5.o;have am:=a4.o;refine⟨k+1,(lo.set k (dg lo k+s%4294967296)).set (k+1) (s / 4294967296),by omega,by simp,?_,by rw[List.length_set,List.length_set];exact R,(V.o.set _ _ oM).set _ _ oM,?_,?_,?_⟩
    ·exact fA.set (h.set k (dg lo k+s%4294967296) (by simp)) (k+1) (s / 4294967296) (by simp)
    ·show _<_;rw[iM,if_pos ⟨rfl,by rw[List.length_set];omega⟩, <- a6];exact a3
    ·exact C9 oM (by rw[W.o,E.o]) a1
    ·exact((O.setCell (p:=⟨w.heap.size,k,none⟩) (Nat.le_refl _) _).drew).setCell (p:=⟨w.heap.size,k+1,none⟩) (Nat.le_refl _) _
   case measure=>exact mZ
  ·obtain rfl:k=l.length:=oM
   go_wp2_with fail
   go_returns;have h1:=a1.o;rw[<- iB,jb oM,jb (Nat.le_refl _)] at h1;exact⟨w.heap.size,lo,by rw[R];rfl,h,V.o,h1,R,O,Nat.le_refl _⟩
end
section
open Go.RowKit
def Own(w:World)(base:Nat)(e:TypeId)(g cap:Nat)(xs:List Value):Prop:=
 w.ownsRow base e 1 (.slice (some ⟨g,0,none⟩) xs.length cap) xs.length xs
section
variable {w w':World} {base g cap:Nat} {e:TypeId} {xs:List Value}
theorem Own.lt(h:Own w base e g cap xs):base <= g /\ g<w.heap.size:=World.ownsRow.lt h g rfl
theorem Own.le(h:Own w base e g cap xs):xs.length <= cap /\ cap <= maxLen:=by
 rcases h.2 with ⟨r,_⟩ | ⟨g',C,E,r,_,_,h1,t,_⟩
 ·simp at r
 ·simp only[Value.slice.injEq,Option.some.injEq,Addr.mk.injEq,and_true,true_and] at r;obtain⟨rfl,rfl⟩:=r;exact⟨h1,t⟩
theorem Own.cell(h:Own w base e g cap xs){j:Nat}(r:j<xs.length): w.cell? ⟨g,j,none⟩=xs[j]? :=World.ownsRow.cellAt h j oM
theorem Own.free(h:Own w base e g cap xs)(j:Nat): w.frozen? ⟨g,j,none⟩=false:=World.ownsRow.frozenAt h j
theorem Own.set(h:Own w base e g cap xs)(j:Nat)(v:Value):Own (w.setCell ⟨g,j,none⟩ v) base e g cap (xs.set j v):=by
 have:=(World.ownsRow.stored h j v).1;unfold Own
 rwa [List.length_set]
theorem Own.below(h:Own w base e g cap xs){B:Nat}(C:Below B w w')(G:g<B):Own w' base e g cap xs:=by
 rcases h.2 with ⟨r,_⟩ | ⟨g',O,t,r,E,M,rest⟩
 ·simp at r
 ·simp only[Value.slice.injEq,Option.some.injEq,Addr.mk.injEq,and_true,true_and] at r;obtain⟨rfl,rfl⟩:=r;exact⟨h.1, .inr ⟨g,cap,t,rfl,E,(C.block g G).trans M,rest⟩⟩
theorem Own.x9{v:Value}{n:Nat}(h:w.ownsRow base e 1 v n xs)(C:v≠ .slice none 0 0):∃g cap,v= .slice (some ⟨g,0,none⟩) n cap /\ n=xs.length /\ Own w base e g cap xs:=by
 have t:n=xs.length:=by have:=h.1;omega
 subst t
 rcases h.2 with ⟨r,_⟩ | ⟨g,cap,G,E,_⟩
 ·exact absurd r C
 ·subst E;exact⟨g,cap,rfl,rfl,h⟩
end
def iQ(w:World)(base g cap:Nat)(l:List Nat):Prop:=Own w base 169 g cap (l.map (fun d=>Value.int .u32 (d:Nat)))
section
variable {w w':World} {base g cap:Nat} {l:List Nat}
theorem iQ.lt(h:iQ w base g cap l):base <= g /\ g<w.heap.size:=Own.lt h
theorem iQ.le(h:iQ w base g cap l):l.length <= cap /\ cap <= maxLen:=by have:=Own.le h;rwa [List.length_map] at this
theorem iQ.cell(h:iQ w base g cap l){j:Nat}(r:j<l.length): w.cell? ⟨g,j,none⟩=some (.int .u32 (dg l j:Nat)):=by
 rw[Own.cell h (by rw[List.length_map];exact r),kU r];simp[r]
theorem iQ.free(h:iQ w base g cap l)(j:Nat): w.frozen? ⟨g,j,none⟩=false:=Own.free h j
theorem iQ.set(h:iQ w base g cap l)(j x:Nat){v:Value}(r:v= .int .u32 (x:Nat)):iQ (w.setCell ⟨g,j,none⟩ v) base g cap (l.set j x):=by
 subst r;have:=Own.set h j (.int .u32 (x:Nat));unfold iQ
 rwa [List.map_set]
theorem Own.bt{e:TypeId}{xs:List Value}(h:Own w base e g cap xs)(v:Value)(C:∀z,v= .int .u32 z -> e=169):BT w g v:=by
 rcases h.2 with ⟨r,_⟩ | ⟨g',E,G,r,_,t,_⟩
 ·simp at r
 ·simp only[Value.slice.injEq,Option.some.injEq,Addr.mk.injEq,and_true,true_and] at r;obtain⟨rfl,rfl⟩:=r;exact⟨_,_,_,t,C⟩
theorem iQ.u32(h:iQ w base g cap l):U32 w (some ⟨g,0,none⟩) l:=
 .inr ⟨g,0,rfl,fun j r=>by rw[Nat.zero_add];exact h.cell r,Own.bt h _ fun _ _=>rfl⟩
theorem iQ.drew(h:iQ w base g cap l):iQ w.drew base g cap l:=h
end
end
section
open Go.RowKit
theorem DJ(b a0 ca y:Nat)(l:List Nat)(w:World)(ha:U32 w (some ⟨b,a0,none⟩) l)(a2:Dig l)(aB:l.length<17592186044416)(hy:y<32):
  Calls prog 166 #[.slice (some ⟨b,a0,none⟩) l.length ca, .int .i64 (y:Nat)] w fun e w'=>∃v,e= .returned v /\ iH w' v (val l / 2^y) /\ Below w.heap.size w w':=by
 obtain⟨i0,aj,ao,E,ap⟩:=info_parts mE;go_enter func166,ntmps166;go_wp2_with fail
 refine(Tryz.slices_Clone i0 (.int .u32 0) 1 4 aj ao E ap rfl oM (fun w=>by kernel_rfl) b a0 l.length ca (l.map (fun d=>Value.int .u32 (d:Nat))) w (by simp) (by unfold maxLen;omega) oM ?_ ?_).mono ?_
 ·intro j u G;rw[List.getElem?_map] at G
  rcases Nat.lt_or_ge j l.length with C | C
  ·rcases ha with h0 | ⟨b',aq,T,hc,_⟩
   ·omega
   ·simp only[Option.some.injEq,Addr.mk.injEq,and_true] at T;obtain⟨rfl,rfl⟩:=T;rw[hc j C];simp only[kU C]
    simpa [C] using G
  ·rw[List.getElem?_eq_none C] at G;simp at G
 ·intro u G;obtain⟨_,_,rfl⟩:=List.mem_map.1 G;rfl
 rintro e w1 ⟨v1,rfl,h,ad,a9⟩;obtain⟨g,cap,rfl, -,h⟩:=Own.x9 h ad;have h:iQ w1 w.heap.size g cap l:=h;have a3:=h.lt;obtain⟨Q,U⟩:=eX (2^y);obtain⟨R,hR⟩:=eX (2^ (32-y));have a7:Q*R=4294967296:=by rw[U,hR, <- Nat.pow_add,show y+ (32-y)=32 by omega]
 have a6:0<Q:=by rw[U];exact Nat.two_pow_pos y
 have au:(2:Int)^y=(Q:Nat):=by rw[U];simp
 have HQ:=lH U;have O:=lH a7;have X:=lH a6;have HR:=lH hR;have ah:=lH h;have ae:=lH a9;clear U a7 a6 hR h a9 ad;go_wp2_with fail
 go_loopw [11] (fun iv wr=>∃ (k:Nat) (lo:List Nat),k <= l.length /\ iv= .int .i64 k /\ iQ wr w.heap.size g cap lo /\ Hid (lo.length=l.length) /\ Dig lo /\ Hid (∀j,k <= j -> dg lo j=dg l j) /\ Hid (Q*val (lo.take k)+dg l 0%Q=val (l.take k)+BB^k* (dg l k%Q)) /\ Below w.heap.size w wr)
  (fun iv _=>l.length-(intOf iv).toNat)
 case atStart=>exact⟨0,l,Nat.zero_le _,rfl,ah.o,rfl,a2,fun _ _=>rfl,by show _=_;simp[val],ae.o⟩
 case round=>
  obtain⟨k,lo,hk,rfl,h,r,ab,a5,a4,Y⟩:=hrel;have W:=lH ab;clear ab;by_cases ac:k<l.length
  ·have an:=r.o;have hg:=h.cell (j:=k) oM;have az:=h.free k;rw[a5.o k (Nat.le_refl _)] at hg;have aA:((k:Nat):Int)<(l.length:Nat):=oM
   have aw:((dg l k:Nat):Int)<4294967296:=by have:=a2 k;omega
   clear an;obtain⟨a,a1⟩:=eX (dg l k / Q);have av:((dg l k:Nat):Int) / (Q:Nat)=(a:Nat):=by rw[a1];simp
   have M:=lH a1;clear a1;by_cases ak:k+1<l.length
   ·obtain⟨b',aq,T,ai,aa⟩:=Cells.at_ ha oM;simp only[Option.some.injEq,Addr.mk.injEq,and_true] at T;obtain⟨rfl,rfl⟩:=T;have ay:=((fu Y).1 b (a0+ (k+1)) ai).trans (aa (k+1) ak);have al:((k:Nat):Int)+1<(l.length:Nat):=oM
    have ax:((dg l (k+1):Nat):Int)<4294967296:=by have:=a2 (k+1);omega
    obtain⟨z,hz⟩:=eX (dg l (k+1)*4294967296 / Q%4294967296);obtain⟨z1,E⟩:=eX (dg l (k+1)*4294967296 / Q);rw[<- E] at hz;have aE:((dg l (k+1):Nat):Int)*4294967296 / (Q:Nat)=(z1:Nat):=by rw[E];simp
    have aF:((z1:Nat):Int)%4294967296=(z:Nat):=oM
    have HZ:=lH hz;have ar:=lH E;have t:=Ca (a:=dg l k) (b:=dg l (k+1)) O.o X.o;have V:=vK (a:=dg l k) (b:=dg l (k+1)) O.o X.o oM;rw[<- E, <- hz, <- M.o] at t;rw[<- M.o, <- t.1] at V
    have aD:bits .or .u32 ((a:Nat):Int) ((z:Nat):Int)=((a+z:Nat):Int):=by
     rw[vP,vO (32-y) z a ?_ (by rw[<- HR.o];exact V.1) oM,Nat.add_comm];rw[<- HR.o,t.1,Nat.mul_mod_right]
    have af:=lH t;have ag:=lH V;clear hz E t V aa;go_wp2_with fail
    go_region
    go_wp2_with fail
    go_roundw
    case rel=>
     have Z:=(h.set k a rfl).set k (a+z) (v:= .int .u32 (((a:Nat):Int)+ (z:Nat))) (by simp);rw[List.set_set] at Z;have t:=af.o;have V:=ag.o;refine⟨k+1,lo.set k (a+z),by omega,by simp,Z,by show _=_;rw[List.length_set];exact r.o,W.o.set _ _ oM,?_,?_,?_⟩
     ·intro j C;rw[iM,if_neg oM];exact a5.o j oM
     ·have:=vL (lo:=lo) (l:=l) (k:=k) (Q:=Q) (R:=R) (b0:=dg l 0%Q) (by rw[r.o];exact ac) O.o a4.o;rw[<- t.1, <- M.o] at this;exact this
     ·exact((Y.setCell (p:=⟨g,k,none⟩) a3.1 _).drew).setCell (p:=⟨g,k,none⟩) a3.1 _
    case measure=>exact mZ
   ·have al:¬(((k:Nat):Int)+1<(l.length:Nat)):=oM
    go_wp2_with fail
    go_roundw
    case rel=>
     have Z:=h.set k a rfl;have h0:dg l (k+1)=0:=mo oM;have a8:=(vK (a:=dg l k) (b:=0) O.o X.o oM).2;rw[<- M.o,Nat.zero_mod,Nat.mul_zero,Nat.add_zero] at a8;refine⟨k+1,lo.set k a,by omega,by simp,Z,by show _=_;rw[List.length_set];exact r.o,W.o.set _ _ a8,?_,?_,Y.setCell (p:=⟨g,k,none⟩) a3.1 _⟩
     ·intro j C;rw[iM,if_neg oM];exact a5.o j oM
     ·have:=vL (lo:=lo) (l:=l) (k:=k) (Q:=Q) (R:=R) (b0:=dg l 0%Q) (by rw[r.o];exact ac) O.o a4.o;rw[<- M.o,h0,Nat.zero_mod,Nat.mul_zero,Nat.add_zero] at this;rw[h0,Nat.zero_mod];exact this
    case measure=>exact mZ
  ·obtain rfl:k=l.length:=oM
   go_wp2_with fail
   have hv:=Cb r.o X.o a4.o;rw[HQ.o] at hv;refine(mF _ _ _ lo _ r.o.symm (by have:=h.le;rw[r.o] at this;exact this.1) h.le.2 h.u32 W.o).mono ?_;rintro e w2 ⟨rfl,aC,rfl⟩;have am:=h.le;have HV:=lH hv;clear hv;go_wp2_with fail
   go_returns;refine⟨_,rfl,⟨_,cap,by rw[<- HV.o];rfl,by rw[<- HV.o];omega,am.2,by rw[<- HV.o];exact h.u32.trimmed W.o⟩,Y⟩
end
end Go.Proofs.YtokagbahdkfagaaGreatDoor
