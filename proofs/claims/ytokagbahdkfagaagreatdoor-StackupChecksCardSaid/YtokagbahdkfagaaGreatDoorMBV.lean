/- Parts of this proof: SPmt. -/
import Derived.Test.YtokagbahdkfagaaGreatDoorMBU
import Derived.Test.YtokagbahdkfagaaGreatDoorMBI
import Derived.Test.YtokagbahdkfagaaGreatDoorMAY
namespace Go.Proofs.YtokagbahdkfagaaGreatDoor
open Go.Proofs.Tryz
open Go.RowKit
open Lp (RL upd eH)
def JE(P:Prb)(N:Nat)(s:Nat -> ByteArray)(e:Ending):Prop:=
 (iA P≠0 /\ e= .returned (.tuple #[.bool false, .int .i64 (iA P:Nat)])) \/ (iA P=0 /\ ((jH P.n N s≠0 /\ e= .returned (.tuple #[.bool false, .int .i64 (jH P.n N s:Nat)])) \/
  (jH P.n N s=0 /\ ((Perm P (fun j=>qof (s j)) /\ e= .returned (.tuple #[.bool true, .int .i64 0])) \/ (¬Perm P (fun j=>qof (s j)) /\ e= .returned (.tuple #[.bool false, .int .i64 0]))))))
set_option maxRecDepth 100000 in
set_option maxHeartbeats 12800000 in
theorem Ja(P:Prb)(A C:Option Addr)(V cC K:Nat)(va:Value)(N:Nat)(s:Nat -> ByteArray)(w:World)(hp:PIn w (.slice A P.n V) (.slice C P.m cC) P)(ha:TS w va N s)(hN:N <= 1000000000)(hs:∀j,j<N -> (s j).size <= 60)(hc:iA P=0 -> ∀i,i<P.m -> (P.F i).c.size <= K)(hf:iA P=0 -> ∀i,i<P.m -> ∀k,k<(P.F i).N -> ((P.F i).f k).size <= K)(hK:0<K /\ K <= 1000)(hg:fF w):
  Calls prog 25 #[.agg #[.slice A P.n V, .slice C P.m cC],va] w fun e w'=>JE P N s e /\ Below w.heap.size w w':=by
 obtain⟨X,cX,rfl,a9,aa⟩:=ha.shape;have a6:=lH hp;have HA:=lH ha;have a7:=lH hs;have af:=lH hN;have ac:=lH hc;have ad:=lH hf;have ae:=lH hK;have a1:=lH hg;have ab:=lH (Nat.le_trans a9 aa);clear hp ha hs hN hc hf hK hg a9 aa;obtain⟨W,hW,t,r⟩:=eN1 w [.slice A P.n V, .slice C P.m cC] 58;go_enter func25,ntmps25
 go_upto_region 1 with (fail)
 rw[<- hW];clear hW;obtain⟨Z,a5⟩:=aT2 t.o;have a0:=t.o.lt;go_wp2_with fail
 clear Z a5 a0;refine(zR P A C V cC _ (a6.o.below r.o) (a1.o.below r.o)).mono ?_;rintro e w1 ⟨rfl,G⟩;replace t:=rW t G;replace r:=bT r G;clear G;obtain⟨E,R⟩:=eX (iA P);rw[<- R];have M:=lH R;clear R;by_cases h0:E=0
 ·subst h0;have T:Hid (iA P=0):=lH M.o.symm;clear M;have Z:=aI 0 t;have a0:=t.o.lt;go_wp2_with fail
  clear Z a0;refine(GQ P.n _ N s _ (HA.o.below r.o) af.o (fun j hj=>Nat.le_trans (a7.o j hj) dC) (a1.o.below r.o)).mono ?_;rintro e w2 ⟨O,G⟩;replace t:=rW t G;replace r:=bT r G;clear G;obtain⟨E,R⟩:=eX (jH P.n N s);unfold rH at O;rw[<- R] at O;have M:=lH R;clear R
  rcases O with ⟨h0,rfl⟩ | ⟨h0,g,hg,rfl,O⟩
  ·have U:=lH h0;clear h0;have a4:¬((E:Nat):Int)=0:=by have:=U.o;omega
   have ah:(((E:Nat):Int) !=0)=true:=by simpa using a4
   go_wp2_with fail
   go_returns;exact⟨.inr ⟨T.o, .inl ⟨by rw[<- M.o];exact U.o,by rw[<- M.o];rfl⟩⟩,r.o⟩
  ·subst h0;have a8:Hid (jH P.n N s=0):=lH M.o.symm;have a2:Hid (N=P.n):=lH (by have h:=M.o;unfold jH at h;by_cases e:(N:Int)=((P.n:Nat):Int);omega;rw[if_pos e] at h;cases h);have ag:Hid (fD w2 (.slice (some ⟨g,0,none⟩) P.n P.n) P.n (fun j=>qof (s j))):=lH (by rw[<- a2.o];exact O.jD (Nat.le_refl _) ab.o);clear hg O;rw[a2.o];obtain⟨Z,a5⟩:=aT2 t.o;have a0:=t.o.lt;go_wp2_with fail
   clear Z a5 a0;refine(JD P A C (some ⟨g,0,none⟩) V cC P.n K 60 (fun j=>qof (s j)) _ (a6.o.below r.o) ag.o (zw T.o) (fun j hj=>ig (a7.o j (by have:=a2.o;omega)) dC) (ac.o T.o) (ad.o T.o) ae.o dC (a1.o.below r.o)).mono ?_;rintro e w3 ⟨O,G⟩;replace r:=bT r G;clear G
   rcases O with ⟨Y,rfl⟩ | ⟨Y,rfl⟩
   ·have a3:=lH Y;clear Y;go_wp2_with fail
    go_returns;exact⟨.inr ⟨T.o, .inr ⟨a8.o, .inl ⟨a3.o,rfl⟩⟩⟩,r.o⟩
   ·have a3:=lH Y;clear Y;go_wp2_with fail
    go_returns;exact⟨.inr ⟨T.o, .inr ⟨a8.o, .inr ⟨a3.o,rfl⟩⟩⟩,r.o⟩
 ·have U:=lH h0;clear h0;have a4:¬((E:Nat):Int)=0:=by have:=U.o;omega
  have ah:(((E:Nat):Int) !=0)=true:=by simpa using a4
  go_wp2_with fail
  go_returns;exact⟨.inl ⟨by rw[<- M.o];exact U.o,by rw[<- M.o];rfl⟩,r.o⟩
end Go.Proofs.YtokagbahdkfagaaGreatDoor
