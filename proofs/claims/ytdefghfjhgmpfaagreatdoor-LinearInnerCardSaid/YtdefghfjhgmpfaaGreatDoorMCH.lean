/- Parts of this proof: VerN. -/
import Derived.Test.YtdefghfjhgmpfaaGreatDoorMAZ
import Derived.Test.YtdefghfjhgmpfaaGreatDoorMAV
namespace Go.Proofs.YtdefghfjhgmpfaaGreatDoor
open Go.RowKit
open Lp (RL upd eu)
def pX(n m:Nat)(k:Nat -> Nat)(o:Nat -> ByteArray)(t:Nat -> Nat -> ByteArray)(b:Nat -> ByteArray)(O:OTx)(e:Ending):Prop:=∃code:Nat,e= .returned (.int .i64 code) /\ ou n m k o t b O code
theorem um{q:Rat}:decide (sgI q.num<0)=decide (q<0):=by
 by_cases h:q<0
 ·rw[decide_eq_true h,decide_eq_true (pK h)]
 ·rw[decide_eq_false h,decide_eq_false (by have:=pM (Rat.not_lt.1 h);omega)]
theorem oD{q:Rat}:decide (0<sgI q.num)=decide (0<q):=by
 by_cases h:0<q
 ·rw[decide_eq_true h,decide_eq_true (vS h)]
 ·rw[decide_eq_false h,decide_eq_false (by have:=vT (Rat.not_lt.1 h);omega)]
end Go.Proofs.YtdefghfjhgmpfaaGreatDoor
