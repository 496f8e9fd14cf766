/- Parts of this proof: SMid. -/
import Derived.Test.YtokagbahdkfagaaGreatDoorMBP
import Derived.Test.YtokagbahdkfagaaGreatDoorMBN
import Derived.Test.YtokagbahdkfagaaGreatDoorMAP
namespace Go.Proofs.YtokagbahdkfagaaGreatDoor
open Go.Proofs.Tryz
open Go.RowKit
open Lp (RL upd eH)
set_option maxRecDepth 100000 in
set_option maxHeartbeats 12800000 in
theorem Ju(n m:Nat)(s:Nat -> ByteArray)(a l u:Nat -> Int)(A C T:Option Addr)(Y cC cT:Nat)(F:Frm)(w:World)(hD:TD w (.slice A n Y) n s a l u)(ha:∀k,k<n -> (a k).natAbs <= 12800)(hn:n <= 5)(hF:TT w (.slice T F.N cT) F.N F.d F.f)(hL:IX n F)(hc:J2 F)(Z:fF w):
  Calls prog 66 #[.agg #[.slice A n Y, .slice C m cC], .agg #[.string F.c, .slice T F.N cT]] w fun e w'=>∃v,e= .returned v /\ eP w' v (fw F (fun j=>((a j:Int):Rat)) F.N) /\ Below w.heap.size w w':=by
 have HD:=lH hD;have a2:=lH ha;have a3:=lH hn;have ac:=lH hF;have a0:=lH hL;have ab:=lH hc;have ad:=lH Z;clear hD ha hn hF hL hc Z;obtain⟨W,hW,E,t,h,r⟩:=eN3 w [.slice A n Y, .slice C m cC] 58 [.string F.c, .slice T F.N cT] 25 [.bool false, .slice none 0 0, .bool false, .slice none 0 0] 40;go_enter func66,ntmps66
 go_upto_region 2 with (fail)
 rw[<- hW];clear hW;go_wp2_with fail
 go_loopw [5,6] (fun av iv wr=>∃ (k:Nat) (B:Option Addr) (R:Nat),k <= n /\ av= .slice B k R /\ iv= .int .i64 k /\ Hid (gy wr (.slice B k R) k (fun j=>((a j:Int):Rat))) /\ Hid (∀g,(Value.slice B k R).ownBlock=some g -> w.heap.size+1+1+1 <= g) /\ Hid (Row wr w.heap.size 58 [.slice A n Y, .slice C m cC]) /\ Hid (Row wr (w.heap.size+1) 25 [.string F.c, .slice T F.N cT]) /\ Hid (Row wr (w.heap.size+1+1) 40 [.bool false, .slice none 0 0, .bool false, .slice none 0 0]) /\ Hid (Below w.heap.size w wr)) (fun _ iv _=>n-(intOf iv).toNat)
 case atStart=>exact⟨0,none,0,Nat.zero_le _,rfl,rfl,lH (gy.nil _ _),lH (fun g Z=>by simp[Value.ownBlock] at Z),E,t,h,r⟩
 case round=>
  clear E t h r;obtain⟨k,B,R,hk,rfl,rfl,O,M,E,t,h,r⟩:=hrel;have a8:=aI 0 E;have aa:=E.o.lt;by_cases aj:((k:Nat):Int)<(n:Nat)
  ·have a1:k<n:=oM
   obtain⟨gA,oA,rfl,a5⟩:=HD.o.at_ oM;have a9:=cell_below r.o (a5 k a1).2.1;have ap:=eF a9;clear a5;have ah:=a2.o k a1;have ar:=a3.o;go_wp2_with fail
   clear a9 ap a8 aa;refine(nL (a k) oM oM _).mono ?_;rintro e w3 ⟨vk,rfl,hv,G⟩;obtain⟨sk,Ak,lk,ck,tk,Bk,mk,dk,rfl⟩:=hv.shape;have VK:=lH hv;clear hv ah;replace O:=lH (O.o.below G);replace E:=rW E G;replace t:=rW t G;replace h:=rW h G;replace r:=bT r G;clear G
   go_wp2_with (at_builtin;(refine wpList_plain rfl fun K hK=>ym w3 (.tmp 14) (.tmp 22) rfl (.slice B k R) k (fun j=>((a j:Int):Rat)) rfl O.o _ _ _ _ _ _ _ _ VK.o rfl oM ?_))
   intro va w4 ho V;obtain⟨B2,b2,rfl,_,_⟩:=ho.shape;have ak:=h.o.lt;have al:=E.o.lt;have ai:=t.o.lt;replace E:=lH (E.o.turned V (fun e=>by have:=M.o _ e;omega));replace t:=lH (t.o.turned V (fun e=>by have:=M.o _ e;omega));replace h:=lH (h.o.turned V (fun e=>by have:=M.o _ e;omega));have a4:=V.below (B:=w.heap.size) r.o.size (fun g e=>by have:=M.o g e;omega);have af:=lH (V.base (B:=w.heap.size+1+1+1) oM M.o);replace r:=lH (r.o.trans a4);have ag:=lH ho;clear ho V a4 ak al ai O M VK;refine hK _ _ ?_;go_wp2_with fail
   go_roundw
   case rel=>exact⟨k+1,B2,b2,a1,rfl,by simp,ag,af,E,t,h,r⟩
   case measure=>exact mZ
  ·have a6:k=n:=oM
   rw[a6] at O;clear a6;obtain⟨an,ao⟩:=aT2 t.o;have aq:=t.o.lt;go_wp2_with fail
   clear a8 aa an ao aq;have a7:k=n:=oM
   rw[a7];clear a7 hk aj;refine(IL F T B cT n R (fun j=>((a j:Int):Rat)) 20 6 _ (ac.o.below r.o) O.o.jD (fun i hi=>a0.o.dim i hi) ab.o.size a0.o.size (fun j hj=>rM (by have:=a2.o j hj;omega) dC) dC dC (by have:=a0.o.few;have:=a3.o;omega) (ad.o.below r.o)).mono ?_;rintro e w5 ⟨vz,rfl,hz,G⟩;obtain⟨sz,Az,lz,cz,tz,Bz,mz,dz,rfl⟩:=hz.shape;have VZ:=lH hz;clear hz;replace h:=rW h G;replace r:=bT r G;clear G;obtain⟨au,aw,ax,ay⟩:=aT4 h.o;have aD:=h.o.lt;have az:=h.o.free 0;have aA:=h.o.free 1;have aB:=h.o.free 2;have aC:=h.o.free 3;have U:=ic h.o gM oM r.o VZ.o;have ae:=lH U;clear U;go_wp2_with fail
   have U:=ae.o;obtain⟨wE,am⟩:=eX (((((w5.setCell ⟨w.heap.size+1+1,0,none⟩ (.bool sz)).setCell ⟨w.heap.size+1+1,1,none⟩ (.slice Az lz cz)).setCell ⟨w.heap.size+1+1,2,none⟩ (.bool tz)).setCell ⟨w.heap.size+1+1,3,none⟩ (.slice Bz mz dz)));have X:=h.o.iJ (x:= .bool sz) (y:= .slice Az lz cz) (z:= .bool tz) (u:= .slice Bz mz dz);rw[<- am] at U X ⊢;have q0:=X.at_ 0 rfl;have q1:=X.at_ 1 rfl;have q2:=X.at_ 2 rfl;have q3:=X.at_ 3 rfl;refine bodyPost_ret (v:= .agg #[.bool sz, .slice Az lz cz, .bool tz, .slice Bz mz dz]) (by simp[results,results66,go_sem,q0,q1,q2,q3]) rfl ?_;exact⟨_,rfl,U.1,U.2⟩
end Go.Proofs.YtokagbahdkfagaaGreatDoor
