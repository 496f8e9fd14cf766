/- Parts of this proof: RayM. -/
import Derived.Test.YtdefghfjhgmpfaaGreatDoorQBF
namespace Go.Proofs.YtdefghfjhgmpfaaGreatDoor
open Go.RowKit
open Lp (RL upd Dict)
open Lp (sumTo spread)
def rayTo(D:Dict)(j:Nat)(s:Rat)(k c:Nat):Rat:=(if D.off j=c then s else 0)+sumTo k (fun r=>if D.basic r=c then -(s*D.cell r j) else 0)
theorem ray_zero{j:Nat}{D:Dict}{s:Rat}(c:Nat):rayTo D j s 0 c=if D.off j=c then s else 0:=by
 show(if D.off j=c then s else 0)+0=_;grind
theorem ray_start{j:Nat}{D:Dict}{s:Rat}(c:Nat):upd (fun _=>0) (D.off j) s c=rayTo D j s 0 c:=by
 rw[ray_zero];by_cases e:c=D.off j
 ·subst e;rw[Lp.upd_same,if_pos rfl]
 ·rw[Lp.upd_other _ _ e,if_neg (fun e'=>e e'.symm)]
theorem ray_far{n j:Nat}{D:Dict}{s:Rat}(h:n <= D.off j)(c:Nat)(hc:c<n):(0:Rat)=rayTo D j s 0 c:=by
 rw[ray_zero,if_neg (by omega)]
theorem ray_skip{n j k:Nat}{D:Dict}{s:Rat}(h:n <= D.basic k)(c:Nat)(hc:c<n):rayTo D j s k c=rayTo D j s (k+1) c:=by
 show _=(if D.off j=c then s else 0)+ (sumTo k (fun r=>if D.basic r=c then -(s*D.cell r j) else 0)+ (if D.basic k=c then -(s*D.cell k j) else 0));rw[if_neg (by omega:¬D.basic k=c)];show(if D.off j=c then s else 0)+sumTo k (fun r=>if D.basic r=c then -(s*D.cell r j) else 0)=_;grind
theorem ray_set{m n j k:Nat}{D:Dict}{s:Rat}(hD:D.Ok m n)(hj:j<n)(hk:k<m)(c:Nat):upd (rayTo D j s k) (D.basic k) (-(s*D.cell k j)) c=rayTo D j s (k+1) c:=by
 show _=(if D.off j=c then s else 0)+ (sumTo k (fun r=>if D.basic r=c then -(s*D.cell r j) else 0)+ (if D.basic k=c then -(s*D.cell k j) else 0));by_cases e:c=D.basic k
 ·subst e;rw[Lp.upd_same,if_pos rfl];have h1:sumTo k (fun r=>if D.basic r=D.basic k then -(s*D.cell r j) else 0)=0:=Lp.sumTo_zero fun r hr=>if_neg fun e=>by have:=hD.bi r k (by omega) hk e;omega
  have h2:¬D.off j=D.basic k:=fun e=>hD.ne k j hk hj e.symm
  rw[h1,if_neg h2];grind
 ·rw[Lp.upd_other _ _ e,if_neg (show ¬D.basic k=c from fun e'=>e e'.symm)];show(if D.off j=c then s else 0)+sumTo k (fun r=>if D.basic r=c then -(s*D.cell r j) else 0)=_;grind
end Go.Proofs.YtdefghfjhgmpfaaGreatDoor
