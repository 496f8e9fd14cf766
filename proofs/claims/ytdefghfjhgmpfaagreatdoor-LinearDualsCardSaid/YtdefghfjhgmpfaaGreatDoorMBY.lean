/- Parts of this proof: LFeasM. -/
import Derived.Test.YtdefghfjhgmpfaaGreatDoorMBV
namespace Go.Proofs.YtdefghfjhgmpfaaGreatDoor
open Go.RowKit
open Lp (RL upd eu)
theorem wV.cases{w:World}{v:Int}{G:Option Addr}{m M:Nat}{k:Nat -> Nat}{t:Nat -> Nat -> ByteArray}{b:Nat -> ByteArray}{e:Ending}(h:wV w v G m M k t b e):
  ∃C r E A' O c',e= .returned (.tuple #[.agg #[.slice C r E, .slice A' O c'], .int .i64 (jF v m k t b:Nat)]) /\
   (jF v m k t b=0 -> r=v.toNat /\ A'=G /\ O=m /\ c'=M /\ fH w (.slice C r E) r (fun _=>⟨#[48]⟩) /\ (0 <= v /\ v <= 96) /\ fD v.toNat m k (fun _=>⟨#[48]⟩) t b=0):=by
 unfold jF
 rcases h with ⟨h,F⟩ | ⟨h1,R,C,E,F,T⟩
 ·rw[if_pos h];exact⟨_,_,_,_,_,_,F,fun h=>absurd h dC⟩
 ·rw[if_neg oM];exact⟨_,_,_,_,_,_,F,fun h=>⟨rfl,rfl,rfl,rfl,T,⟨h1,R⟩,h⟩⟩
theorem CK{n m:Nat}{t:Nat -> Nat -> ByteArray}{b:Nat -> ByteArray}{A:Nat -> Nat -> Rat}{r c:Nat -> Rat}(h:jk n m (fun _=>⟨#[48]⟩) t b A r c):∀j,j<n -> c j=0:=fun j C=>rQ ((h.obj j C).symm.trans (by rw[<- jI,mF]))
theorem CL{n:Nat}{c:Nat -> Rat}(h:∀j,j<n -> c j=0)(x:Nat -> Rat):Lp.eB n c x=0:=Lp.iX fun j r=>by rw[h j r];grind
theorem JX{n m:Nat}{t:Nat -> Nat -> ByteArray}{b:Nat -> ByteArray}{A:Nat -> Nat -> Rat}{r c x y d:Nat -> Rat}{q:Rat}{O:OTx}(E:jk n m (fun _=>⟨#[48]⟩) t b A r c)(G:1 <= O.kk /\ O.kk <= 3)(F:O.Is q x y d)(h:kI m n O.kk A r c q x y d):(O.kk=1 /\ O.s=⟨#[48]⟩) \/ O.kk=2:=by
 have e:O.kk=1 \/ O.kk=2 \/ O.kk=3:=oM
 rcases e with e | e | e
 ·have h1:=(h.1 e).value;rw[CL (CK E)] at h1;have C:=F.val e;rw[<- h1] at C;exact .inl ⟨e,lY (by rw[C, <- jI,mF])⟩
 ·exact .inr e
 ·have h1:=(h.2.2 e).up;rw[CL (CK E)] at h1;grind
theorem CO{m n:Nat}(C:m <= 8)(r:n <= 6):2* (Lp.wide m n 12+1)+5 <= 12589:=by
 have h:=Lp.yY (m:=m) (n:=n) (k:=12) (p:=6) (N:=6) (K:=12) oM r (Nat.le_refl _);have t:Lp.wb 6 (12* (6+2))+12* (6+1)=6291:=dC
 omega
end Go.Proofs.YtdefghfjhgmpfaaGreatDoor
