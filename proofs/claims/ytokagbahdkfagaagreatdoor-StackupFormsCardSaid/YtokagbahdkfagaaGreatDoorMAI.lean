/- Parts of this proof: Gcd. -/
import Derived.Test.YtokagbahdkfagaaGreatDoorMAG
import Derived.Deep.LoopGhost
namespace Go.Proofs.YtokagbahdkfagaaGreatDoor
open Tryz
open Go.RowKit
theorem iH.int{w:World}{A:Option Addr}{c n:Nat}(h:iH w (.slice A (ek n).length c) n):eT w (.agg #[.bool false, .slice A (ek n).length c]) (n:Nat):=by
 obtain⟨A',c',r,h1,t,C⟩:=h;simp only[Value.slice.injEq,true_and] at r;obtain⟨rfl,rfl⟩:=r;refine⟨A,c,?_,?_,t,?_⟩
 ·rw[Int.natAbs_natCast,show decide (((n:Nat):Int)<0)=false by simp]
 ·rw[Int.natAbs_natCast];exact h1
 ·rw[Int.natAbs_natCast];exact C
set_option maxHeartbeats 1600000 in
theorem tQ(va vb:Value)(a b:Int)(w:World)(ha:eT w va a)(hb:eT w vb b)(aa:(ek a.natAbs).length<8796093022208)(ab:(ek b.natAbs).length<8796093022208):
  Calls prog 110 #[va,vb] w fun e w'=>∃v,e= .returned v /\ eT w' v (Nat.gcd a.natAbs b.natAbs:Nat) /\ Below w.heap.size w w':=by
 obtain⟨A,O,rfl,a7,ay,ag⟩:=ha;obtain⟨B,R,rfl,a8,az,ah⟩:=hb;generalize decide (a<0)=s at*;generalize decide (b<0)=t at*;generalize a.natAbs=M at*;generalize b.natAbs=G at*;obtain⟨na,a2⟩:=eX ((ek M).length);obtain⟨nb,a3⟩:=eX ((ek G).length);have ad:iH w (.slice A na O) M:=⟨A,O,by rw[a2],a7,ay,ag⟩;have ae:iH w (.slice B nb R) G:=⟨B,R,by rw[a3],a8,az,ah⟩;rw[<- a2, <- a3];clear a2 a3 ag ah a7 a8;obtain⟨W,hW⟩:=eX (((w.alloc (.cells #[.bool s, .slice A na O] 38)).alloc (.cells #[.bool t, .slice B nb R] 38)).alloc (.cells #[.bool false, .slice none 0 0] 38));obtain⟨U,V,Z,ax,T⟩:=kX w (.cells #[.bool s, .slice A na O] 38) (.cells #[.bool t, .slice B nb R] 38) (.cells #[.bool false, .slice none 0 0] 38);rw[<- hW] at U V Z ax T;have Z:Row W (w.heap.size+1+1) 38 [.bool false, .slice none 0 0]:=Z;have U:Row W w.heap.size 38 [.bool s, .slice A na O]:=U;have V:Row W (w.heap.size+1) 38 [.bool t, .slice B nb R]:=V;have e1:=U.at_ 1 rfl;have e2:=V.at_ 1 rfl;have ao:=lH (ad.below T);have ap:=lH (ae.below T);have aq:=lH Z;have ar:=lH T;have al:=lH aa;have am:=lH ab;clear ad ae Z T aa ab U V;go_enter func110,ntmps110;go_wp2_with fail
 rw[<- hW];clear hW
 go_quiet (fail)
 go_wp2_with fail
 go_loopg [5,6] (G+1) (fun g xv yv wr=>∃C h:Nat,iH wr xv C /\ iH wr yv h /\ g=h+1 /\ Hid (Nat.gcd C h=Nat.gcd M G) /\ (ek C).length<8796093022208 /\ (ek h).length<8796093022208 /\ Row wr (w.heap.size+1+1) 38 [.bool false, .slice none 0 0] /\ Below w.heap.size w wr)
 case atStart=>exact⟨M,G,ao.o.below (by first | exact(Below.refl _ _).drew | exact below_drewN _ _ _),ap.o.below (by first | exact(Below.refl _ _).drew | exact below_drewN _ _ _),rfl,lH rfl,al.o,am.o,aq.o,ar.o.trans (by first | exact(Below.refl _ _).drew | exact below_drewN _ _ _)⟩
 case round=>
  obtain⟨C,h,hx,hy,hg,a9,aE,ac,af,a1⟩:=hrel;have HX:=lH hx;have HY:=lH hy;obtain⟨X,cx,rfl,aB,aC,ai⟩:=hx;obtain⟨Y,cy,rfl,aF,aG,ak⟩:=hy;have au:=lH ai;have aw:=lH ak;have HG:=lH hg;have E:=lH af;clear ai ak hg af;by_cases hz:(0:Int)<(((ek h).length:Nat):Int)
  ·have a5:0<h:=kI.1 oM;go_wp2_with fail
   refine(xe X Y cx cy C h _ (by exact au.o) (by exact aw.o) aB aC oM oM a5).mono ?_;rintro e w2 ⟨q,r,rfl,hq,hr,a6⟩;have HQ:=lH hq;have HR:=lH hr;have a0:=lH a6;clear hq hr a6;go_wp2_with fail
   go_roundg (C.mod h+1)
   case measure=>have:=Nat.mod_lt C a5;rw[HG.o];exact Nat.succ_lt_succ this
   case rel=>
    refine⟨h,C%h,HY.o.below a0.o,HR.o,rfl,lH ?_,ac,?_,?_,a1.trans (a0.o.mono a1.size)⟩
    ·rw[<- a9.o,Nat.gcd_comm h,Nat.gcd_comm C, <- Nat.gcd_rec]
    ·exact Nat.lt_of_le_of_lt (jT (Nat.le_of_lt (Nat.mod_lt _ a5))) ac
    ·exact E.o.below a0.o E.o.lt
  ·have aj:h=0:=oL.1 oM;have av:=lH aj;have k1:=E.o.at_ 0 rfl;have k2:=E.o.at_ 1 rfl;have k3:=E.o.free 0;have k4:=E.o.free 1;clear aj;go_wp2_with fail
   have aA:=HX.o.int;refine bodyPost_ret (v:= .agg #[.bool false, .slice X (ek C).length cx]) (by simp[results,results110,go_sem,k1,k2]) rfl ?_;have aD:C=Nat.gcd M G:=by rw[<- a9.o,av.o,Nat.gcd_zero_right]
   have a4:=qy a1 E.o (by simp) (by simp) oM (Below.refl _ _) aA;rw[aD] at a4 ⊢;exact⟨_,rfl,a4.1,a4.2⟩
end Go.Proofs.YtokagbahdkfagaaGreatDoor
