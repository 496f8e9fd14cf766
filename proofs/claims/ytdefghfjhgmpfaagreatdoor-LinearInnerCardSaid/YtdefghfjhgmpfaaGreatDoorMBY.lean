/- Parts of this proof: LFeasM. -/
import Derived.Test.YtdefghfjhgmpfaaGreatDoorMBV
namespace Go.Proofs.YtdefghfjhgmpfaaGreatDoor
open Go.RowKit
open Lp (RL upd eu)
theorem wV.cases{w:World}{v:Int}{O:Option Addr}{m R:Nat}{k:Nat -> Nat}{t:Nat -> Nat -> ByteArray}{b:Nat -> ByteArray}{e:Ending}(h:wV w v O m R k t b e):
  ∃F E G A' T c',e= .returned (.tuple #[.agg #[.slice F E G, .slice A' T c'], .int .i64 (jF v m k t b:Nat)]) /\
   (jF v m k t b=0 -> E=v.toNat /\ A'=O /\ T=m /\ c'=R /\ fH w (.slice F E G) E (fun _=>⟨#[48]⟩) /\ (0 <= v /\ v <= 96) /\ fD v.toNat m k (fun _=>⟨#[48]⟩) t b=0):=by
 unfold jF
 rcases h with ⟨h,M⟩ | ⟨h1,U,F,G,M,X⟩
 ·rw[if_pos h];exact⟨_,_,_,_,_,_,M,fun h=>absurd h dC⟩
 ·rw[if_neg oM];exact⟨_,_,_,_,_,_,M,fun h=>⟨rfl,rfl,rfl,rfl,X,⟨h1,U⟩,h⟩⟩
theorem CK{n m:Nat}{t:Nat -> Nat -> ByteArray}{b:Nat -> ByteArray}{A:Nat -> Nat -> Rat}{bq c:Nat -> Rat}(h:jk n m (fun _=>⟨#[48]⟩) t b A bq c):∀j,j<n -> c j=0:=fun j E=>rQ ((h.obj j E).symm.trans (by rw[<- jI,mF]))
theorem CL{n:Nat}{c:Nat -> Rat}(h:∀j,j<n -> c j=0)(x:Nat -> Rat):Lp.eB n c x=0:=Lp.iX fun j t=>by rw[h j t];grind
theorem JX{n m:Nat}{t:Nat -> Nat -> ByteArray}{b:Nat -> ByteArray}{A:Nat -> Nat -> Rat}{bq c x y d:Nat -> Rat}{q:Rat}{O:OTx}(F:jk n m (fun _=>⟨#[48]⟩) t b A bq c)(M:1 <= O.kk /\ O.kk <= 3)(G:O.Is q x y d)(h:kI m n O.kk A bq c q x y d):(O.kk=1 /\ O.s=⟨#[48]⟩) \/ O.kk=2:=by
 have e:O.kk=1 \/ O.kk=2 \/ O.kk=3:=oM
 rcases e with e | e | e
 ·have h1:=(h.1 e).value;rw[CL (CK F)] at h1;have E:=G.val e;rw[<- h1] at E;exact .inl ⟨e,lY (by rw[E, <- jI,mF])⟩
 ·exact .inr e
 ·have h1:=(h.2.2 e).up;rw[CL (CK F)] at h1;grind
theorem CO{m n:Nat}(F:m <= 8)(t:n <= 6):2* (Lp.wide m n 12+1)+5 <= 12589:=by
 have h:=Lp.yY (m:=m) (n:=n) (k:=12) (p:=6) (N:=6) (K:=12) oM t (Nat.le_refl _);have E:Lp.wb 6 (12* (6+2))+12* (6+1)=6291:=dC
 omega
end Go.Proofs.YtdefghfjhgmpfaaGreatDoor
