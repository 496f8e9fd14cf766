/- Parts of this proof: Rat RatA RatC. -/
import Derived.Test.YtdefghfjhgmpfaaGreatDoorMAH
import Derived.Test.YtdefghfjhgmpfaaGreatDoorMAI
import Derived.Test.YtdefghfjhgmpfaaGreatDoorMAG
import Derived.Test.YtdefghfjhgmpfaaGreatDoorMAD
import Derived.Test.YtdefghfjhgmpfaaGreatDoorMAJ
import Derived.Test.YtdefghfjhgmpfaaGreatDoorMAE
namespace Go.Proofs.YtdefghfjhgmpfaaGreatDoor
open Tryz
section
open Go.RowKit
theorem z8{w:World}{g:Nat}{e:TypeId}{cs:List Value}(t:Row w g e cs)(F:e≠160){b:Nat}{z:Int}(h:BT w b (.int .u32 z)):b≠g:=by
 rintro rfl;obtain⟨G,e',M,h1,E⟩:=h;have:=E z rfl;unfold Row at t;rw[t] at h1
 injection h1 with h1
 injection h1 with _ h1
 exact F (h1.trans this)
theorem eD(w:World)(o:Obj):Below w.heap.size w (w.alloc o):=(iV w o).2.2
theorem BT.lt{w:World}{b:Nat}{v:Value}(h:BT w b v):b<w.heap.size:=by
 obtain⟨_,_,_,h1,_⟩:=h;exact(Array.getElem?_eq_some_iff.1 h1).1
theorem U32.other{w w':World}{A:Option Addr}{l:List Nat}{g:Nat}{e:TypeId}{cs:List Value}(h:U32 w A l)(E:w.grownBy w' (some g))(T:Row w g e cs)(O:e≠160):U32 w' A l:=by
 rcases h with h | ⟨b,U,G,M,t⟩
 ·exact .inl h
 ·have F:=z8 T O t;exact .inr ⟨b,U,G,fun j R=>E.cell (M j R) (by simp;exact F),t.mJ (E.block b t.lt (by simp;exact F))⟩
theorem eQ.other{w w':World}{v:Value}{n:Int}{g:Nat}{e:TypeId}{cs:List Value}(h:eQ w v n)(G:w.grownBy w' (some g))(M:Row w g e cs)(F:e≠160):eQ w' v n:=by
 obtain⟨A,c,O,h1,t,E⟩:=h;exact⟨A,c,O,h1,t,E.other G M F⟩
theorem il(w:World)(g i j k l:Nat)(v u x y:Value):w.grownBy ((((w.setCell ⟨g,i,none⟩ v).setCell ⟨g,j,none⟩ u).setCell ⟨g,k,none⟩ x).setCell ⟨g,l,none⟩ y) (some g):=
 grownBy_trans (je _ _ _ _ _ _) (je _ _ _ _ _ _)
theorem FB(w:World)(g b o:Nat)(v u x y:Value)(h:b≠g):((((w.setCell ⟨g,0,none⟩ v).setCell ⟨g,1,none⟩ u).setCell ⟨g,2,none⟩ x).setCell ⟨g,3,none⟩ y).cell? ⟨b,o,none⟩= w.cell? ⟨b,o,none⟩:=
 (iP _ g 2 3 b o x y h).trans (iP w g 0 1 b o v u h)
def eO(w:World)(v:Value)(q:Rat):Prop:=
 ∃s A l c t B m d,v= .agg #[.bool s, .slice A l c, .bool t, .slice B m d] /\ eQ w (.agg #[.bool s, .slice A l c]) q.num /\ ∃y:Int,eQ w (.agg #[.bool t, .slice B m d]) y /\ (y=q.den \/ (y=0 /\ q.den=1))
theorem eO.below{w w':World}{v:Value}{q:Rat}(h:eO w v q)(E:Below w.heap.size w w'):eO w' v q:=by
 obtain⟨s,A,l,c,t,B,m,d,M,h1,y,F,G⟩:=h;exact⟨s,A,l,c,t,B,m,d,M,h1.below E,y,F.below E,G⟩
theorem eO.other{w w':World}{v:Value}{q:Rat}{g:Nat}{e:TypeId}{cs:List Value}(h:eO w v q)(F:w.grownBy w' (some g))(G:Row w g e cs)(E:e≠160):eO w' v q:=by
 obtain⟨s,A,l,c,t,B,m,d,R,h1,y,M,O⟩:=h;exact⟨s,A,l,c,t,B,m,d,R,h1.other F G E,y,M.other F G E,O⟩
theorem eO.shape{w:World}{v:Value}{q:Rat}(h:eO w v q):∃s A l c t B m d,v= .agg #[.bool s, .slice A l c, .bool t, .slice B m d]:=by
 obtain⟨s,A,l,c,t,B,m,d,E,_⟩:=h;exact⟨s,A,l,c,t,B,m,d,E⟩
theorem eO.parts{w:World}{s t:Bool}{A B:Option Addr}{l c m d:Nat}{q:Rat}(h:eO w (.agg #[.bool s, .slice A l c, .bool t, .slice B m d]) q):
  eQ w (.agg #[.bool s, .slice A l c]) q.num /\ ∃y:Int,eQ w (.agg #[.bool t, .slice B m d]) y /\ (y=q.den \/ (y=0 /\ q.den=1)):=by
 obtain⟨s',A',G,c',O,B',M,d',E,h1,F⟩:=h;simp only[Value.agg.injEq] at E;obtain⟨⟨rfl⟩,⟨rfl,rfl,rfl⟩,⟨rfl⟩,⟨rfl,rfl,rfl⟩⟩:(s=s') /\ (A=A' /\ l=G /\ c=c') /\ (t=O) /\ (B=B' /\ m=M /\ d=d'):=by simpa using E
 exact⟨h1,F⟩
theorem eO.mk{w:World}{s t:Bool}{A B:Option Addr}{l c m d:Nat}{q:Rat}{x y:Int}(h1:eQ w (.agg #[.bool s, .slice A l c]) x)(h:eQ w (.agg #[.bool t, .slice B m d]) y)(E:x=q.num)(F:y=q.den \/ (y=0 /\ q.den=1)):
  eO w (.agg #[.bool s, .slice A l c, .bool t, .slice B m d]) q:=⟨s,A,l,c,t,B,m,d,rfl,E ▸ h1,y,h,F⟩
theorem eQ.jU(w:World):eQ w (.agg #[.bool false, .slice none 0 0]) 0:=⟨none,0,by simp[gJ],by simp[gJ],by unfold maxLen;omega, .inl (by simp[gJ])⟩
theorem eO.jU(w:World):eO w (.agg #[.bool false, .slice none 0 0, .bool false, .slice none 0 0]) 0:=eO.mk (eQ.jU w) (eQ.jU w) rfl (.inr ⟨rfl,rfl⟩)
open Lp (RL)
theorem iY{w h:World}{rb:Nat}{e:TypeId}{x y z u:Value}{cs:List Value}{q:Rat}(r:Row h rb e cs)(F:e≠160)(t:w.heap.size <= rb)(E:Below w.heap.size w h)(G:eO h (.agg #[x,y,z,u]) q):
  eO ((((h.setCell ⟨rb,0,none⟩ x).setCell ⟨rb,1,none⟩ y).setCell ⟨rb,2,none⟩ z).setCell ⟨rb,3,none⟩ u) (.agg #[x,y,z,u]) q /\
  Below w.heap.size w ((((h.setCell ⟨rb,0,none⟩ x).setCell ⟨rb,1,none⟩ y).setCell ⟨rb,2,none⟩ z).setCell ⟨rb,3,none⟩ u):=
 ⟨G.other (il _ _ _ _ _ _ _ _ _ _) r F,(((E.setCell (p:=⟨rb,0,none⟩) t _).setCell (p:=⟨rb,1,none⟩) t _).setCell (p:=⟨rb,2,none⟩) t _).setCell (p:=⟨rb,3,none⟩) t _⟩
theorem uY{w h:World}{rb:Nat}{e:TypeId}{x y:Value}{cs:List Value}{n:Int}(r:Row h rb e cs)(F:e≠160)(t:w.heap.size <= rb)(E:Below w.heap.size w h)(G:eQ h (.agg #[x,y]) n):
  eQ ((h.setCell ⟨rb,0,none⟩ x).setCell ⟨rb,1,none⟩ y) (.agg #[x,y]) n /\ Below w.heap.size w ((h.setCell ⟨rb,0,none⟩ x).setCell ⟨rb,1,none⟩ y):=
 ⟨G.other (je _ _ _ _ _ _) r F,(E.setCell (p:=⟨rb,0,none⟩) t _).setCell (p:=⟨rb,1,none⟩) t _⟩
def Lim(k:Nat)(a:Int):Prop:=a.natAbs<10^k
theorem Lim.mono{k m:Nat}{a:Int}(h:Lim k a)(t:k <= m):Lim m a:=Nat.lt_of_lt_of_le h (Nat.pow_le_pow_right dC t)
theorem Lim.neg{k:Nat}{a:Int}(h:Lim k a):Lim k (-a):=by unfold Lim at*;rw[Int.natAbs_neg];exact h
theorem Lim.add{k:Nat}{a b:Int}(h:Lim k a)(t:Lim k b):Lim (k+1) (a+b):=by
 unfold Lim at*;rw[Nat.pow_succ];have:=Int.natAbs_add_le a b;omega
theorem Lim.mul{k m:Nat}{a b:Int}(h:Lim k a)(t:Lim m b):Lim (k+m) (a*b):=by
 unfold Lim at*;rw[Int.natAbs_mul,Nat.pow_add];exact Nat.mul_lt_mul'' h t
theorem Lim.ek{k:Nat}{a:Int}(h:Lim k a):(ek a.natAbs).length <= k:=
 jQ (Nat.lt_of_lt_of_le h (Nat.pow_le_pow_left dC k))
theorem Lim.l1{k:Nat}{a:Int}(h:Lim k a)(t:k <= 8000000000000):(Go.Proofs.YtdefghfjhgmpfaaGreatDoor.ek a.natAbs).length<8796093022208:=by have:=h.ek;omega
theorem Lim.l2{k:Nat}{a:Int}(h:Lim k a)(t:k <= 8000000000000):(Go.Proofs.YtdefghfjhgmpfaaGreatDoor.ek a.natAbs).length<8796093022200:=by have:=h.ek;omega
theorem Lp.RL.fE{k:Nat}{q:Rat}(h:RL k q):Lim k q.num:=h.1
theorem Lp.RL.fB{k:Nat}{q:Rat}(h:RL k q):Lim k (q.den:Int):=by unfold Lim;rw[Int.natAbs_natCast];exact h.2
theorem pg:Lim 1 1:=by unfold Lim;decide
theorem qG(p d:Int)(h:0<d):Int.fdiv p ((Nat.gcd p.natAbs d.natAbs:Nat):Int)=(Rat.divInt p d).num:=by
 rw[Rat.num_divInt,Int.sign_eq_one_of_pos h,Int.one_mul];have e:d.gcd p=Nat.gcd p.natAbs d.natAbs:=by rw[Nat.gcd_comm];rfl
 rw[e,Int.fdiv_eq_ediv_of_nonneg _ oM]
theorem qH(p d:Int)(t:0<d):Int.fdiv d ((Nat.gcd p.natAbs d.natAbs:Nat):Int)=((Rat.divInt p d).den:Int):=by
 rw[Rat.den_divInt,if_neg oM];have e:d.gcd p=Nat.gcd p.natAbs d.natAbs:=by rw[Nat.gcd_comm];rfl
 rw[e,Int.fdiv_eq_ediv_of_nonneg _ oM];have h:d=((d.natAbs:Nat):Int):=oM
 conv=>lhs;rw[h]
 simp
theorem sG(p d:Int)(E:0<d)(h:Nat.gcd p.natAbs d.natAbs=1):p=(Rat.divInt p d).num /\ d=((Rat.divInt p d).den:Int):=by
 have h1:=qG p d E;have t:=qH p d E;rw[h] at h1 t;simp at h1 t;exact⟨h1,t⟩
theorem qI(p d:Int):Rat.divInt (-p) (-d)=Rat.divInt p d:=Rat.neg_divInt_neg p d
theorem sH(p d:Int)(h:0<d):0<Nat.gcd p.natAbs d.natAbs:=Nat.gcd_pos_of_pos_right _ oM
theorem sI(p d:Int)(h:0<d):Nat.gcd p.natAbs d.natAbs <= d.natAbs:=Nat.le_of_dvd oM (Nat.gcd_dvd_right _ _)
theorem uZ(a b:Rat):Rat.divInt (a.num* (b.den:Int)+b.num* (a.den:Int)) ((a.den:Int)* (b.den:Int))=a+b:=by
 rw[Rat.add_def', <- Rat.divInt_ofNat];simp
theorem vv(a b:Rat):Rat.divInt (a.num*b.num) ((a.den:Int)* (b.den:Int))=a*b:=by
 rw[Rat.mul_def', <- Rat.divInt_ofNat];simp
theorem FC(a b:Rat):Rat.divInt (a.num* (b.den:Int)) ((a.den:Int)*b.num)=a / b:=by
 conv=>rhs;rw[Rat.div_def, <- Rat.num_divInt_den a,Rat.inv_def,Rat.divInt_mul_divInt]
theorem za{a b:Rat}(E:a.den=1)(F:b.den=1):(a+b).num=a.num+b.num /\ (a+b).den=1:=by
 have h:a=((a.num:Int):Rat):=Rat.ext rfl E;have t:b=((b.num:Int):Rat):=Rat.ext rfl F;have e:a+b=((a.num+b.num:Int):Rat):=by rw[Rat.intCast_add, <- h, <- t]
 rw[e];exact⟨rfl,rfl⟩
theorem ze{a b:Rat}(E:a.den=1)(F:b.den=1):(a*b).num=a.num*b.num /\ (a*b).den=1:=by
 have h:a=((a.num:Int):Rat):=Rat.ext rfl E;have t:b=((b.num:Int):Rat):=Rat.ext rfl F;have e:a*b=((a.num*b.num:Int):Rat):=by rw[Rat.intCast_mul, <- h, <- t]
 rw[e];exact⟨rfl,rfl⟩
def jq(a b:Rat):Int:=if a<b then -1 else if a=b then 0 else 1
theorem sJ(a b:Rat):(if a.num* (b.den:Int)<b.num* (a.den:Int) then(-1:Int) else if a.num* (b.den:Int)=b.num* (a.den:Int) then 0 else 1)=jq a b:=by
 unfold jq;simp only[Rat.lt_iff,Rat.eq_iff_mul_eq_mul]
theorem FD{a b:Rat}(h:a.den=1)(t:b.den=1):(if a.num<b.num then(-1:Int) else if a.num=b.num then 0 else 1)=jq a b:=by
 rw[<- sJ,h,t];simp
theorem Row.jh{w:World}{g:Nat}{e:TypeId}{p q r s x y z u:Value}(h:Row w g e [p,q,r,s]):Row ((((w.setCell ⟨g,0,none⟩ x).setCell ⟨g,1,none⟩ y).setCell ⟨g,2,none⟩ z).setCell ⟨g,3,none⟩ u) g e [x,y,z,u]:=
 (((h.set 0 x).set 1 y).set 2 z).set 3 u
theorem Row.other{w w':World}{g g':Nat}{e:TypeId}{cs:List Value}(h:Row w g e cs)(t:w.grownBy w' (some g'))(E:g≠g'):Row w' g e cs:=(t.block g h.lt (by simp;exact E)).trans h
theorem nT{B:Nat}{w w':World}(h:Below B w w'){g:Nat}(t:B <= g)(x y:Value):Below B w ((w'.setCell ⟨g,0,none⟩ x).setCell ⟨g,1,none⟩ y):=(h.setCell (p:=⟨g,0,none⟩) t _).setCell (p:=⟨g,1,none⟩) t _
theorem lF{B:Nat}{w w':World}(h:Below B w w'){g:Nat}(t:B <= g)(x y z u:Value):Below B w ((((w'.setCell ⟨g,0,none⟩ x).setCell ⟨g,1,none⟩ y).setCell ⟨g,2,none⟩ z).setCell ⟨g,3,none⟩ u):=((nT h t x y).setCell (p:=⟨g,2,none⟩) t _).setCell (p:=⟨g,3,none⟩) t _
section
variable {w:World} {n o:Nat} {a:Value}
theorem k4N(s:Nat)(h: w.cell? ⟨n,o,none⟩=some a)(E:n≠s:=by omega):∀ (w'':World) (u0 u1 u2 u3:Value),Below w.heap.size w w'' -> ((((w''.setCell ⟨s,0,none⟩ u0).setCell ⟨s,1,none⟩ u1).setCell ⟨s,2,none⟩ u2).setCell ⟨s,3,none⟩ u3).cell? ⟨n,o,none⟩=some a:=fun _ _ _ _ _ t=>(FB _ s n o _ _ _ _ E).trans (kN h _ t)
theorem k4C(s:Nat){S:World -> Value -> Value -> Value -> Value -> Prop}(h: w.cell? ⟨n,o,none⟩=some a)(r:∀ (w'':World) (u0 u1 u2 u3:Value),Below w.heap.size w w'' -> S w'' u0 u1 u2 u3)(E:n≠s:=by omega):∀ (w'':World) (u0 u1 u2 u3:Value),Below w.heap.size w w'' -> ((((w''.setCell ⟨s,0,none⟩ u0).setCell ⟨s,1,none⟩ u1).setCell ⟨s,2,none⟩ u2).setCell ⟨s,3,none⟩ u3).cell? ⟨n,o,none⟩=some a /\ S w'' u0 u1 u2 u3:=fun _ _ _ _ _ t=>⟨k4N s h E _ _ _ _ _ t,r _ _ _ _ _ t⟩
end
end
section
open Go.RowKit
open Lp (RL)
set_option maxHeartbeats 1600000 in
theorem ku(w:World):
  Calls prog 134 #[] w fun e w'=>∃v,e= .returned v /\ eQ w' v (1) /\ Below w.heap.size w w':=by
 obtain⟨W,M,h,t⟩:=eN1 w [.bool false, .slice none 0 0] 103;go_enter func134,ntmps134;go_wp2_with fail
 rw[<- M];clear M;refine(uS 1 _ dC dC).mono ?_;rintro e w1 ⟨vx,rfl,F,E⟩;obtain⟨sx,R,Z,U,rfl⟩:=F.shape;have T:=lH F;clear F;replace h:=rW h E;replace t:=bT t E;clear E;obtain⟨X,Y⟩:=aT2 h.o;have a2:=h.o.lt;have a0:=h.o.free 0;have a1:=h.o.free 1;have O:=uY h.o dC oM t.o T.o;have G:=lH O;clear O;go_wp2_with fail
 refine bodyPost_ret (v:= .agg #[.bool sx, .slice R Z U]) (by simp[results,results134,go_sem,X,Y]) rfl ?_;exact⟨_,rfl,G.o.1,G.o.2⟩
set_option maxHeartbeats 1600000 in
theorem sK(n:Int)(h1: -9223372036854775808 <= n)(X:n <= 9223372036854775807)(w:World):
  Calls prog 75 #[.int .i64 n] w fun e w'=>∃v,e= .returned v /\ eO w' v ((n:Rat)) /\ Below w.heap.size w w':=by
 obtain⟨W,M,h,t⟩:=eN1 w [.bool false, .slice none 0 0, .bool false, .slice none 0 0] 105;go_enter func75,ntmps75;go_wp2_with fail
 rw[<- M];clear M;refine(uS n _ h1 X).mono ?_;rintro e w1 ⟨vx,rfl,F,E⟩;obtain⟨sx,R,lx,U,rfl⟩:=F.shape;have T:=lH F;clear F;replace h:=rW h E;replace t:=bT t E;clear E;obtain⟨Y,Z,a0,a1⟩:=aT4 h.o;have a6:=h.o.lt;have a2:=h.o.free 0;have a3:=h.o.free 1;have a4:=h.o.free 2;have a5:=h.o.free 3;have O:=iY h.o dC oM t.o (eO.mk (q:=(n:Rat)) T.o (eQ.jU _) (Rat.num_intCast n).symm (.inr ⟨rfl,Rat.den_intCast n⟩));have G:=lH O;clear O;go_wp2_with fail
 refine bodyPost_ret (v:= .agg #[.bool sx, .slice R lx U, .bool false, .slice none 0 0]) (by simp[results,results75,go_sem,Y,Z,a0,a1]) rfl ?_;exact⟨_,rfl,G.o.1,G.o.2⟩
set_option maxHeartbeats 1600000 in
theorem fU(M:Value)(a:Rat)(w:World)(t:eO w M a):
  Calls prog 76 #[M] w fun e w'=>e= .returned (.int .i64 (sgI a.num)) /\ Below w.heap.size w w':=by
 obtain⟨sa,O,Y,U,ta,R,Z,X,rfl⟩:=t.shape;obtain⟨W,F,E,h⟩:=eN1 w [.bool sa, .slice O Y U, .bool ta, .slice R Z X] 105;have T:=lH ((t).below h.o);obtain⟨k0,k1⟩:=aT2 E.o;have kl:=E.o.lt;clear t;go_enter func76,ntmps76;go_wp2_with fail
 rw[<- F];clear F;refine(ko _ a.num _ T.o.parts.1).mono ?_;rintro e w1 ⟨rfl,G⟩;replace h:=bT h G;clear G;go_wp2_with fail
 go_returns;exact⟨rfl,h.o⟩
end
section
open Go.RowKit
open Lp (RL)
set_option maxHeartbeats 1600000 in
theorem ji(va:Value)(a:Rat)(w:World)(T:eO w va a):
  Calls prog 142 #[va] w fun e w'=>∃v,e= .returned v /\ eQ w' v ((a.den:Int)) /\ Below w.heap.size w w':=by
 obtain⟨sa,Aa,la,ca,ta,X,ma,Y,rfl⟩:=T.shape;obtain⟨a2,y,U,hy⟩:=T.parts;by_cases h0:y=0
 ·subst h0;have HY:=lH hy;clear hy;obtain⟨W,O,t,h,E⟩:=eN2 w [.bool sa, .slice Aa la ca, .bool ta, .slice X ma Y] 105 [.bool false, .slice none 0 0] 103;have G:=lH ((U).below E.o);clear T a2 U;have k2:=aI 2 t;have k3:=aI 3 t;have kl:=t.o.lt;go_enter func142,ntmps142;go_wp2_with fail
  rw[<- O];clear O;refine(ko _ 0 _ G.o).mono ?_;rintro e w1 ⟨rfl,F⟩;replace h:=rW h F;replace E:=bT E F;clear F;rw[show sgI 0=0 from rfl];clear k2 k3 kl;go_wp2_with fail
  refine(ku _).mono ?_;rintro e w2 ⟨vo,rfl,ho,Z⟩;obtain⟨so,Ao,lo,co,rfl⟩:=ho.shape;have Vo:=lH ho;clear ho;replace h:=rW h Z;replace E:=bT E Z;clear Z;obtain⟨a0,a1⟩:=aT2 h.o;have a8:=h.o.lt;have a6:=h.o.free 0;have a7:=h.o.free 1;have R:=uY h.o dC oM E.o Vo.o;have M:=lH R;clear R;go_wp2_with fail
  refine bodyPost_ret (v:= .agg #[.bool so, .slice Ao lo co]) (by simp[results,results142,go_sem,a0,a1]) rfl ?_;exact⟨_,rfl,by rw[show(a.den:Int)=1 from by have:=HY.o;have:=a.den_nz;omega];exact M.o.1,M.o.2⟩
 ·have a5:y=(a.den:Int):=oM
  subst a5;have a3:sgI (a.den:Int)=1:=by unfold sgI;rw[if_neg oM,if_neg oM]
  have a4:=lH a3;clear a3 hy h0;obtain⟨W,O,t,h,E⟩:=eN2 w [.bool sa, .slice Aa la ca, .bool ta, .slice X ma Y] 105 [.bool false, .slice none 0 0] 103;have G:=lH ((U).below E.o);clear T a2 U;have k2:=aI 2 t;have k3:=aI 3 t;have kl:=t.o.lt;go_enter func142,ntmps142;go_wp2_with fail
  rw[<- O];clear O;refine(ko _ _ _ G.o).mono ?_;rintro e w1 ⟨rfl,F⟩;replace G:=lH (G.o.below F);replace t:=rW t F;replace h:=rW h F;replace E:=bT E F;clear F;rw[a4.o];clear k2 k3 kl;have a9:=aI 2 t;have aa:=aI 3 t;have ab:=t.o.lt;obtain⟨a0,a1⟩:=aT2 h.o;have a8:=h.o.lt;have a6:=h.o.free 0;have a7:=h.o.free 1;have R:=uY h.o dC oM E.o G.o;have M:=lH R;clear R;go_wp2_with fail
  refine bodyPost_ret (v:= .agg #[.bool ta, .slice X ma Y]) (by simp[results,results142,go_sem,a0,a1]) rfl ?_;exact⟨_,rfl,M.o.1,M.o.2⟩
set_option maxHeartbeats 1600000 in
theorem nU(va:Value)(a:Rat)(w:World)(ha:eO w va a):
  Calls prog 69 #[va] w fun e w'=>∃v,e= .returned v /\ eO w' v (-a) /\ Below w.heap.size w w':=by
 obtain⟨sa,Aa,la,ca,ta,M,ma,T,rfl⟩:=ha.shape;obtain⟨a3,y,a2,hy⟩:=ha.parts;have HY:=lH hy;clear hy;obtain⟨W,hW,RA,E,F⟩:=eN2 w [.bool sa, .slice Aa la ca, .bool ta, .slice M ma T] 105 [.bool false, .slice none 0 0, .bool false, .slice none 0 0] 105;have R:=lH ((a3).below F.o);have O:=lH ((a2).below F.o);clear ha a3 a2;go_enter func69,ntmps69;go_wp2_with fail
 rw[<- hW];clear hW;go_wp2_with fail
 have h:=rG W;have a0:Hid (Below W.heap.size W W.drew):=lH (Below.refl _ _).drew;have a5:=RA.o.lt;obtain⟨U,X,Y,Z⟩:=aT4 RA.o;have G:=lH (kC U (kC X (kC Y (kN Z))));have aa:=E.o.lt;have KT:=lH (k4C (w.heap.size+1) U (k4C (w.heap.size+1) X (k4C (w.heap.size+1) Y (k4N (w.heap.size+1) Z))));clear aa;have a4:True:=trivial
 go_region_held3 (fun w'=> w'.cell? ⟨w.heap.size,0,none⟩=some (.bool sa) /\ w'.cell? ⟨w.heap.size,1,none⟩=some (.slice Aa la ca) /\ w'.cell? ⟨w.heap.size,2,none⟩=some (.bool ta) /\ w'.cell? ⟨w.heap.size,3,none⟩=some (.slice M ma T))
  (first | (with_reducible exact G.o _ a0.o) | (with_reducible exact G.o _ h.o) | (with_reducible exact KT.o _ _ _ _ _ h.o) | (exact G.o _ (h.o.trans ((eD _ _).mono h.o.size))) | (exact G.o _ (h.o.trans (((eD _ _).drew).mono h.o.size))) | go_keep)
  (first
   | (go_at_call 108
      have _t:=a4;refine(rV _ a.num _ (by exact R.o)).mono ?_;rintro e w1 ⟨vn,rfl,hn,t⟩;have t:Below W.heap.size W w1:=bD t;obtain⟨sn,An,ln,cn,rfl⟩:=hn.shape;have Vn:=lH hn;replace R:=lH (R.o.below t);replace O:=lH (O.o.below t);replace E:=rW E t;replace F:=bT F t;replace h:=bT h t;have hr:=iY E.o dC oM F.o (eO.mk (q:= -a) Vn.o O.o (Rat.neg_num a).symm (by rw[Rat.neg_den];exact HY.o));have a1:=lH hr;clear hr;obtain⟨a6,ab,a7,ac,a8,ad,a9,ae⟩:=aF4 E.o;have af:=E.o.lt
      clear t a4 _t hn))
 clear a5 U X Y Z G h a0 KT;go_wp2_with fail
 refine bodyPost_ret (v:= .agg #[.bool sn, .slice An ln cn, .bool ta, .slice M ma T]) (by simp[results,results69,go_sem,a6,a7,a8,a9]) rfl ?_;exact⟨_,rfl,a1.o.1,a1.o.2⟩
end
end Go.Proofs.YtdefghfjhgmpfaaGreatDoor
