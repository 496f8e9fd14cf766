/- Parts of this proof: LSolve. -/
import Derived.Test.YtdefghfjhgmpfaaGreatDoorMBB
import Derived.Test.YtdefghfjhgmpfaaGreatDoorMBG
import Derived.Test.YtdefghfjhgmpfaaGreatDoorMBH
import Derived.Test.YtdefghfjhgmpfaaGreatDoorMAY
namespace Go.Proofs.YtdefghfjhgmpfaaGreatDoor
open Go.Proofs.Tryz
open Go.RowKit
open Lp (RL upd eu)
set_option maxRecDepth 100000 in
set_option maxHeartbeats 3200000 in
theorem Ct(AO AR:Option Addr)(n m cO cR:Nat)(k:Nat -> Nat)(o:Nat -> ByteArray)(t:Nat -> Nat -> ByteArray)(b:Nat -> ByteArray)(K:Nat)(w:World)(ho:TS w (.slice AO n cO) n o)(hr:fZ w (.slice AR m cR) m k t b)(hn:n <= 1000000000)(hm:m <= 1000000000)
  (ag:∀j,j<n -> (o j).size <= 65536) (ah:∀i,i<m -> ∀j,j<k i -> (t i j).size <= 65536) (af:∀i,i<m -> (b i).size <= 65536) (ab:0<K) (hK:Lp.wide m n K+1 <= 1000000) (ad:∀j,j<n -> (o j).size <= K) (ae:∀i,i<m -> ∀j,j<k i -> (t i j).size <= K) (ac:∀i,i<m -> (b i).size <= K) (ht:Tab w) (T:iG w):
  Calls prog 36 #[.agg #[.slice AO n cO, .slice AR m cR]] w fun e w'=>Iy w' n m (Lp.wide m n K+1) k o t b e /\ Below w.heap.size w w':=by
 have al:=lH (wm AO AR n m cO cR k o t b);have HO:=lH ho;have HR:=lH hr;have HS:=lH (And.intro ag (And.intro ah af));have HL:=lH (And.intro ad (And.intro ae ac));have HK:=lH (And.intro ab hK);have aj:=lH T;have am:=lH ht;clear ho hr ag ah af T ad ae ac ab hK ht;obtain⟨W,hW,PB,h,E⟩:=eN2 w [.slice AO n cO, .slice AR m cR] 25 [.int .i64 0, .string ⟨#[]⟩, .slice none 0 0, .slice none 0 0, .slice none 0 0] 32;go_enter func36,ntmps36;obtain⟨p0,p1⟩:=aT2 PB.o;have pl:=PB.o.lt;rw[hW] at p0 p1 pl;go_wp2_with fail
 rw[<- hW];clear hW p0 p1 pl;refine(al.o _ (HO.o.below E.o) (HR.o.below E.o) hn hm HS.o.1 HS.o.2.1 HS.o.2.2 (aj.o.below E.o)).mono ?_;rintro e R ⟨hr,a1⟩;replace h:=rW h a1;replace E:=bT E a1;clear a1 PB
 rcases hr with ⟨h0,rfl⟩ | ⟨h0,AC,AS,AD,cC,cS,cD,A,bq,c,rfl,hc,hA,hD,hP,_⟩
 ·obtain⟨cc,a4⟩:=eX (fD n m k o t b);rw[<- a4] at h0 ⊢;have an:((cc:Nat):Int)≠0:=oM
  have ao:(((cc:Nat):Int) !=0)=true:=by simpa using an
  have ap:(cc !=0)=true:=by simpa using h0
  have ai:=lH h0;have a7:=lH a4;clear h0 a4;obtain⟨U,M⟩:=eX (R.alloc (.cells #[.slice none 0 0, .slice none 0 0, .slice none 0 0] 98));obtain⟨Y,O⟩:=eX (R.heap.size);have G:Below R.heap.size R U:=by rw[M];exact eD _ _
  have QB:Hid (Row U Y 98 [.slice none 0 0, .slice none 0 0, .slice none 0 0]):=lH (by rw[M,O];exact eP _ _);have ak:Hid (w.heap.size+1<Y):=lH (by rw[O];exact h.o.lt);replace h:=rW h G;replace E:=bT E G
  go_upto_region 3 with (fail)
  rw[<- M];clear M G O;obtain⟨r0,f0,r1,f1,r2,f2,r3,f3,r4,f4⟩:=aF5 h.o;have rl:=h.o.lt;go_wp2_with fail
  clear rl r0 f0 r1 f1 r2 f2 r3 f3 r4 f4;have T:=iJ U (w.heap.size+1) (.int .i64 0) (.string ⟨#[]⟩) (.slice none 0 0) (.slice none 0 0) (.slice none 0 0);have F:=h.o.nA (v0:= .int .i64 0) (v1:= .string ⟨#[]⟩) (v2:= .slice none 0 0) (v3:= .slice none 0 0) (v4:= .slice none 0 0);have X:=E.o.grown T E.o.size (by first | (simp;done) | (simp;omega));obtain⟨wE,a6⟩:=eX ((((((U.setCell ⟨w.heap.size+1,0,none⟩ (.int .i64 0)).setCell ⟨w.heap.size+1,1,none⟩ (.string ⟨#[]⟩)).setCell ⟨w.heap.size+1,2,none⟩ (.slice none 0 0)).setCell ⟨w.heap.size+1,3,none⟩ (.slice none 0 0)).setCell ⟨w.heap.size+1,4,none⟩ (.slice none 0 0)));rw[<- a6] at F X ⊢;have k0:=F.at_ 0 rfl;have k1:=F.at_ 1 rfl;have k2:=F.at_ 2 rfl;have k3:=F.at_ 3 rfl;have k4:=F.at_ 4 rfl;refine bodyPost_ret (v:= .tuple #[.agg #[.int .i64 0, .string ⟨#[]⟩, .slice none 0 0, .slice none 0 0, .slice none 0 0], .int .i64 (cc:Nat)]) (by simp[results,results36,go_sem,k0,k1,k2,k3,k4]) rfl ?_;exact⟨.inl ⟨by rw[<- a7.o];exact ai.o,by rw[<- a7.o]⟩,X⟩
 ·have a8:=lH h0;have a9:=lH hP;have HC:=lH hc;have HA:=lH hA;have HD:=lH hD;clear h0 hP hc hA hD;obtain⟨U,M⟩:=eX (R.alloc (.cells #[.slice AC n cC, .slice AS m cS, .slice AD m cD] 98));obtain⟨Y,O⟩:=eX (R.heap.size);have G:Below R.heap.size R U:=by rw[M];exact eD _ _
  have QB:Hid (Row U Y 98 [.slice AC n cC, .slice AS m cS, .slice AD m cD]):=lH (by rw[M,O];exact eP _ _);have ak:Hid (w.heap.size+1<Y):=lH (by rw[O];exact h.o.lt);replace h:=rW h G;replace E:=bT E G;replace HC:=lH (HC.o.below G);replace HA:=lH (HA.o.below G);replace HD:=lH (HD.o.below G);obtain⟨q0,q1,q2⟩:=aT3 QB.o;have ql:=QB.o.lt;rw[M] at q0 q1 q2 ql;rw[O] at q0 q1 q2 ql;go_wp2_with fail
  rw[<- M];clear M G O q0 q1 q2 ql;have a0:=lH (pO a8.o a9.o HL.o.1 HL.o.2.1 HL.o.2.2);refine(Cr AC AS AD n m cC cS cD K A bq c _ HC.o (by exact a0.o.1) (by exact HA.o) (by exact HD.o) hn hm a0.o.2.1 a0.o.2.2 HK.o.1 (by have:=HK.o.2;omega)).mono ?_;rintro e w3 ⟨v,rfl,hv,a2⟩;have HV:=lH hv;replace h:=rW h a2;replace E:=bT E a2;clear a2 hv;go_wp2_with fail
  refine(Cs m n (Lp.wide m n K+1) A bq c v _ HV.out hm hn HK.o.2 (am.o.below E.o)).mono ?_;rintro e w4 ⟨v2,rfl,a5,a3⟩;replace h:=rW h a3;replace E:=bT E a3;clear a3 HV;obtain⟨kk,s0,Z,n0,c0,A1,n1,c1,A2,n2,c2,rfl⟩:=a5.shape;have HV:=lH a5;clear a5;obtain⟨r0,f0,r1,f1,r2,f2,r3,f3,r4,f4⟩:=aF5 h.o;have rl:=h.o.lt;go_wp2_with fail
  clear rl r0 f0 r1 f1 r2 f2 r3 f3 r4 f4;have T:=iJ w4 (w.heap.size+1) (.int .i64 kk) (.string s0) (.slice Z n0 c0) (.slice A1 n1 c1) (.slice A2 n2 c2);have F:=h.o.nA (v0:= .int .i64 kk) (v1:= .string s0) (v2:= .slice Z n0 c0) (v3:= .slice A1 n1 c1) (v4:= .slice A2 n2 c2);have X:=E.o.grown T E.o.size (by first | (simp;done) | (simp;omega));have aa:=HV.o.other T h.o (fun z hz=>by simpa using hz);obtain⟨wE,a6⟩:=eX ((((((w4.setCell ⟨w.heap.size+1,0,none⟩ (.int .i64 kk)).setCell ⟨w.heap.size+1,1,none⟩ (.string s0)).setCell ⟨w.heap.size+1,2,none⟩ (.slice Z n0 c0)).setCell ⟨w.heap.size+1,3,none⟩ (.slice A1 n1 c1)).setCell ⟨w.heap.size+1,4,none⟩ (.slice A2 n2 c2)));rw[<- a6] at F X aa ⊢;have k0:=F.at_ 0 rfl;have k1:=F.at_ 1 rfl;have k2:=F.at_ 2 rfl;have k3:=F.at_ 3 rfl;have k4:=F.at_ 4 rfl;refine bodyPost_ret (v:= .tuple #[.agg #[.int .i64 kk, .string s0, .slice Z n0 c0, .slice A1 n1 c1, .slice A2 n2 c2], .int .i64 0]) (by simp[results,results36,go_sem,k0,k1,k2,k3,k4]) rfl ?_;exact⟨.inr ⟨a8.o,A,bq,c,_,a9.o,aa,rfl⟩,X⟩
end Go.Proofs.YtdefghfjhgmpfaaGreatDoor
