/- Parts of this proof: Gcd. -/
import Derived.Test.YtdefghfjhgmpfaaGreatDoorMAG
import Derived.Deep.LoopGhost
namespace Go.Proofs.YtdefghfjhgmpfaaGreatDoor
open Tryz
open Go.RowKit
theorem iQ.int{w:World}{A:Option Addr}{c n:Nat}(h:iQ w (.slice A (ek n).length c) n):eQ w (.agg #[.bool false, .slice A (ek n).length c]) (n:Nat):=by
 obtain⟨A',c',t,h1,E,F⟩:=h;simp only[Value.slice.injEq,true_and] at t;obtain⟨rfl,rfl⟩:=t;refine⟨A,c,?_,?_,E,?_⟩
 ·rw[Int.natAbs_natCast,show decide (((n:Nat):Int)<0)=false by simp]
 ·rw[Int.natAbs_natCast];exact h1
 ·rw[Int.natAbs_natCast];exact F
set_option maxHeartbeats 1600000 in
theorem uU(va vb:Value)(a b:Int)(w:World)(ha:eQ w va a)(hb:eQ w vb b)(aa:(ek a.natAbs).length<8796093022208)(ab:(ek b.natAbs).length<8796093022208):
  Calls prog 149 #[va,vb] w fun e w'=>∃v,e= .returned v /\ eQ w' v (Nat.gcd a.natAbs b.natAbs:Nat) /\ Below w.heap.size w w':=by
 obtain⟨A,O,rfl,a7,ay,ag⟩:=ha;obtain⟨B,R,rfl,a8,az,ah⟩:=hb;generalize decide (a<0)=s at*;generalize decide (b<0)=t at*;generalize a.natAbs=M at*;generalize b.natAbs=G at*;obtain⟨na,a2⟩:=eX ((ek M).length);obtain⟨nb,a3⟩:=eX ((ek G).length);have ad:iQ w (.slice A na O) M:=⟨A,O,by rw[a2],a7,ay,ag⟩;have ae:iQ w (.slice B nb R) G:=⟨B,R,by rw[a3],a8,az,ah⟩;rw[<- a2, <- a3];clear a2 a3 ag ah a7 a8;obtain⟨W,hW⟩:=eX (((w.alloc (.cells #[.bool s, .slice A na O] 103)).alloc (.cells #[.bool t, .slice B nb R] 103)).alloc (.cells #[.bool false, .slice none 0 0] 103));obtain⟨U,Z,r3,ax,T⟩:=kQ w (.cells #[.bool s, .slice A na O] 103) (.cells #[.bool t, .slice B nb R] 103) (.cells #[.bool false, .slice none 0 0] 103);rw[<- hW] at U Z r3 ax T;have r3:Row W (w.heap.size+1+1) 103 [.bool false, .slice none 0 0]:=r3;have U:Row W w.heap.size 103 [.bool s, .slice A na O]:=U;have Z:Row W (w.heap.size+1) 103 [.bool t, .slice B nb R]:=Z;have e1:=U.at_ 1 rfl;have e2:=Z.at_ 1 rfl;have ao:=lH (ad.below T);have ap:=lH (ae.below T);have aq:=lH r3;have ar:=lH T;have al:=lH aa;have am:=lH ab;clear ad ae r3 T aa ab U Z;go_enter func149,ntmps149;go_wp2_with fail
 rw[<- hW];clear hW
 go_quiet (fail)
 go_wp2_with fail
 go_loopg [5,6] (G+1) (fun g xv yv wr=>∃E h:Nat,iQ wr xv E /\ iQ wr yv h /\ g=h+1 /\ Hid (Nat.gcd E h=Nat.gcd M G) /\ (ek E).length<8796093022208 /\ (ek h).length<8796093022208 /\ Row wr (w.heap.size+1+1) 103 [.bool false, .slice none 0 0] /\ Below w.heap.size w wr)
 case atStart=>exact⟨M,G,ao.o.below (by first | exact(Below.refl _ _).drew | exact below_drewN _ _ _),ap.o.below (by first | exact(Below.refl _ _).drew | exact below_drewN _ _ _),rfl,lH rfl,al.o,am.o,aq.o,ar.o.trans (by first | exact(Below.refl _ _).drew | exact below_drewN _ _ _)⟩
 case round=>
  obtain⟨E,h,hx,hy,hg,a9,aE,ac,af,a1⟩:=hrel;have HX:=lH hx;have HY:=lH hy;obtain⟨X,cx,rfl,aB,aC,ai⟩:=hx;obtain⟨Y,cy,rfl,aF,aG,ak⟩:=hy;have au:=lH ai;have aw:=lH ak;have HG:=lH hg;have F:=lH af;clear ai ak hg af;by_cases hz:(0:Int)<(((ek h).length:Nat):Int)
  ·have a5:0<h:=kK.1 oM;go_wp2_with fail
   refine(yo X Y cx cy E h _ (by exact au.o) (by exact aw.o) aB aC oM oM a5).mono ?_;rintro e w2 ⟨q,r,rfl,hq,hr,a6⟩;have HQ:=lH hq;have HR:=lH hr;have a0:=lH a6;clear hq hr a6;go_wp2_with fail
   go_roundg (E.mod h+1)
   case measure=>have:=Nat.mod_lt E a5;rw[HG.o];exact Nat.succ_lt_succ this
   case rel=>
    refine⟨h,E%h,HY.o.below a0.o,HR.o,rfl,lH ?_,ac,?_,?_,a1.trans (a0.o.mono a1.size)⟩
    ·rw[<- a9.o,Nat.gcd_comm h,Nat.gcd_comm E, <- Nat.gcd_rec]
    ·exact Nat.lt_of_le_of_lt (iO (Nat.le_of_lt (Nat.mod_lt _ a5))) ac
    ·exact F.o.below a0.o F.o.lt
  ·have aj:h=0:=oI.1 oM;have av:=lH aj;have k1:=F.o.at_ 0 rfl;have k2:=F.o.at_ 1 rfl;have k3:=F.o.free 0;have k4:=F.o.free 1;clear aj;go_wp2_with fail
   have aA:=HX.o.int;refine bodyPost_ret (v:= .agg #[.bool false, .slice X (ek E).length cx]) (by simp[results,results149,go_sem,k1,k2]) rfl ?_;have aD:E=Nat.gcd M G:=by rw[<- a9.o,av.o,Nat.gcd_zero_right]
   have a4:=rC a1 F.o (by simp) (by simp) oM (Below.refl _ _) aA;rw[aD] at a4 ⊢;exact⟨_,rfl,a4.1,a4.2⟩
end Go.Proofs.YtdefghfjhgmpfaaGreatDoor
