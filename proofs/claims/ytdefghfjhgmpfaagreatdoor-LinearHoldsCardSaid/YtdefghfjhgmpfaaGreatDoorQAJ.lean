/- Parts of this proof: Gcd. -/
import Derived.Test.YtdefghfjhgmpfaaGreatDoorQAG
import Derived.Deep.LoopGhost
namespace Go.Proofs.YtdefghfjhgmpfaaGreatDoor
open Go.RowKit
theorem IsMag.int{w:World}{A:Option Addr}{c n:Nat}(h:IsMag w (.slice A (digs n).length c) n):IsInt w (.agg #[.bool false, .slice A (digs n).length c]) (n:Nat):=by
 obtain⟨A',c',hv,h1,h2,h3⟩:=h;simp only[Value.slice.injEq,true_and] at hv;obtain⟨rfl,rfl⟩:=hv;refine⟨A,c,?_,?_,h2,?_⟩
 ·rw[Int.natAbs_natCast,show decide (((n:Nat):Int)<0)=false by simp]
 ·rw[Int.natAbs_natCast];exact h1
 ·rw[Int.natAbs_natCast];exact h3
set_option maxHeartbeats 1600000 in
theorem gcd_walk(va vb:Value)(a b:Int)(w:World)(ha:IsInt w va a)(hb:IsInt w vb b)(hla:(digs a.natAbs).length<8796093022208)(hlb:(digs b.natAbs).length<8796093022208):
  Calls Tryz.prog 149 #[va,vb] w fun e w'=>∃v,e= .returned v /\ IsInt w' v (Nat.gcd a.natAbs b.natAbs:Nat) /\ Below w.heap.size w w':=by
 obtain⟨A,ca,rfl,hca,hcma,hua⟩:=ha;obtain⟨B,cb,rfl,hcb,hcmb,hub⟩:=hb;generalize decide (a<0)=s at*;generalize decide (b<0)=t at*;generalize a.natAbs=an at*;generalize b.natAbs=bn at*;obtain⟨na,hna⟩:=eX ((digs an).length);obtain⟨nb,hnb⟩:=eX ((digs bn).length);have hma:IsMag w (.slice A na ca) an:=⟨A,ca,by rw[hna],hca,hcma,hua⟩;have hmb:IsMag w (.slice B nb cb) bn:=⟨B,cb,by rw[hnb],hcb,hcmb,hub⟩;rw[<- hna, <- hnb];clear hna hnb hua hub hca hcb;obtain⟨W,hW⟩:=eX (((w.alloc (.cells #[.bool s, .slice A na ca] 103)).alloc (.cells #[.bool t, .slice B nb cb] 103)).alloc (.cells #[.bool false, .slice none 0 0] 103));obtain⟨r1,r2,r3,hWs,hWB⟩:=boxes3 w (.cells #[.bool s, .slice A na ca] 103) (.cells #[.bool t, .slice B nb cb] 103) (.cells #[.bool false, .slice none 0 0] 103);rw[<- hW] at r1 r2 r3 hWs hWB;have r3:Row W (w.heap.size+1+1) 103 [.bool false, .slice none 0 0]:=r3;have r1:Row W w.heap.size 103 [.bool s, .slice A na ca]:=r1;have r2:Row W (w.heap.size+1) 103 [.bool t, .slice B nb cb]:=r2;have e1:=r1.at_ 1 rfl;have e2:=r2.at_ 1 rfl;have HMA:=lH (hma.below hWB);have HMB:=lH (hmb.below hWB);have HR3:=lH r3;have HWB:=lH hWB;have HLA:=lH hla;have HLB:=lH hlb;clear hma hmb r3 hWB hla hlb r1 r2;go_enter Tryz.func149,Tryz.ntmps149;go_wp2_with fail
 rw[<- hW];clear hW
 go_quiet (fail)
 go_wp2_with fail
 go_loopg [5,6] (bn+1) (fun g xv yv wr=>∃xn yn:Nat,IsMag wr xv xn /\ IsMag wr yv yn /\ g=yn+1 /\ Hid (Nat.gcd xn yn=Nat.gcd an bn) /\ (digs xn).length<8796093022208 /\ (digs yn).length<8796093022208 /\ Row wr (w.heap.size+1+1) 103 [.bool false, .slice none 0 0] /\ Below w.heap.size w wr)
 case atStart=>exact⟨an,bn,HMA.out.below (by first | exact(Below.refl _ _).drew | exact below_drewN _ _ _),HMB.out.below (by first | exact(Below.refl _ _).drew | exact below_drewN _ _ _),rfl,lH rfl,HLA.out,HLB.out,HR3.out,HWB.out.trans (by first | exact(Below.refl _ _).drew | exact below_drewN _ _ _)⟩
 case round=>
  obtain⟨xn,yn,hx,hy,hg,hgcd,hlx,hly,hr3,hbw⟩:=hrel;have HX:=lH hx;have HY:=lH hy;obtain⟨X,cx,rfl,hx1,hx2,hx3⟩:=hx;obtain⟨Y,cy,rfl,hy1,hy2,hy3⟩:=hy;have HX3:=lH hx3;have HY3:=lH hy3;have HG:=lH hg;have HR3':=lH hr3;clear hx3 hy3 hg hr3;by_cases hz:(0:Int)<(((digs yn).length:Nat):Int)
  ·have hyp:0<yn:=digs_len_pos.1 (by omega);go_wp2_with fail
   refine(divide_walk X Y cx cy xn yn _ (by exact HX3.out) (by exact HY3.out) hx1 hx2 (by omega) (by omega) hyp).mono ?_;rintro e w2 ⟨q,r,rfl,hq,hr,hb2⟩;have HQ:=lH hq;have HR:=lH hr;have HB2:=lH hb2;clear hq hr hb2;go_wp2_with fail
   go_roundg (xn.mod yn+1)
   case measure=>have:=Nat.mod_lt xn hyp;rw[HG.out];exact Nat.succ_lt_succ this
   case rel=>
    refine⟨yn,xn%yn,HY.out.below HB2.out,HR.out,rfl,lH ?_,hly,?_,?_,hbw.trans (HB2.out.mono hbw.size)⟩
    ·rw[<- hgcd.out,Nat.gcd_comm yn,Nat.gcd_comm xn, <- Nat.gcd_rec]
    ·exact Nat.lt_of_le_of_lt (digs_len_mono (Nat.le_of_lt (Nat.mod_lt _ hyp))) hly
    ·exact HR3'.out.below HB2.out HR3'.out.lt
  ·have hy0:yn=0:=digs_len_zero.1 (by omega);have HY0:=lH hy0;have k1:=HR3'.out.at_ 0 rfl;have k2:=HR3'.out.at_ 1 rfl;have k3:=HR3'.out.free 0;have k4:=HR3'.out.free 1;clear hy0;go_wp2_with fail
   have hint:=HX.out.int;refine bodyPost_ret (v:= .agg #[.bool false, .slice X (digs xn).length cx]) (by simp[results,Tryz.results149,go_sem,k1,k2]) rfl ?_;have hxg:xn=Nat.gcd an bn:=by rw[<- hgcd.out,HY0.out,Nat.gcd_zero_right]
   have hres:=res_store hbw HR3'.out (by simp) (by simp) (by omega) (Below.refl _ _) hint;rw[hxg] at hres ⊢;exact⟨_,rfl,hres.1,hres.2⟩
end Go.Proofs.YtdefghfjhgmpfaaGreatDoor
