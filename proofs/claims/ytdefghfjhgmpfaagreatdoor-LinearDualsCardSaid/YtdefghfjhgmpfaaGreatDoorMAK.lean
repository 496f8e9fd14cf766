/- Parts of this proof: Rat RatA RatC. -/
import Derived.Test.YtdefghfjhgmpfaaGreatDoorMAH
import Derived.Test.YtdefghfjhgmpfaaGreatDoorMAI
import Derived.Test.YtdefghfjhgmpfaaGreatDoorMAG
import Derived.Test.YtdefghfjhgmpfaaGreatDoorMAD
import Derived.Test.YtdefghfjhgmpfaaGreatDoorMAJ
import Derived.Test.YtdefghfjhgmpfaaGreatDoorMAE
namespace Go.Proofs.YtdefghfjhgmpfaaGreatDoor
open Tryz
section
open Go.RowKit
theorem z8{w:World}{g:Nat}{e:TypeId}{cs:List Value}(r:Row w g e cs)(C:e≠160){b:Nat}{z:Int}(h:BT w b (.int .u32 z)):b≠g:=by
 rintro rfl;obtain⟨E,e',F,h1,t⟩:=h;have:=t z rfl;unfold Row at r;rw[r] at h1
 injection h1 with h1
 injection h1 with _ h1
 exact C (h1.trans this)
theorem eD(w:World)(o:Obj):Below w.heap.size w (w.alloc o):=(iV w o).2.2
theorem BT.lt{w:World}{b:Nat}{v:Value}(h:BT w b v):b<w.heap.size:=by
 obtain⟨_,_,_,h1,_⟩:=h;exact(Array.getElem?_eq_some_iff.1 h1).1
theorem U32.other{w w':World}{A:Option Addr}{l:List Nat}{g:Nat}{e:TypeId}{cs:List Value}(h:U32 w A l)(t:w.grownBy w' (some g))(O:Row w g e cs)(G:e≠160):U32 w' A l:=by
 rcases h with h | ⟨b,R,E,F,r⟩
 ·exact .inl h
 ·have C:=z8 O G r;exact .inr ⟨b,R,E,fun j M=>t.cell (F j M) (by simp;exact C),r.mJ (t.block b r.lt (by simp;exact C))⟩
theorem eQ.other{w w':World}{v:Value}{n:Int}{g:Nat}{e:TypeId}{cs:List Value}(h:eQ w v n)(E:w.grownBy w' (some g))(F:Row w g e cs)(C:e≠160):eQ w' v n:=by
 obtain⟨A,c,G,h1,r,t⟩:=h;exact⟨A,c,G,h1,r,t.other E F C⟩
theorem il(w:World)(g i j k l:Nat)(v u x y:Value):w.grownBy ((((w.setCell ⟨g,i,none⟩ v).setCell ⟨g,j,none⟩ u).setCell ⟨g,k,none⟩ x).setCell ⟨g,l,none⟩ y) (some g):=
 grownBy_trans (je _ _ _ _ _ _) (je _ _ _ _ _ _)
theorem FB(w:World)(g b o:Nat)(v u x y:Value)(h:b≠g):((((w.setCell ⟨g,0,none⟩ v).setCell ⟨g,1,none⟩ u).setCell ⟨g,2,none⟩ x).setCell ⟨g,3,none⟩ y).cell? ⟨b,o,none⟩= w.cell? ⟨b,o,none⟩:=
 (iP _ g 2 3 b o x y h).trans (iP w g 0 1 b o v u h)
def eO(w:World)(v:Value)(q:Rat):Prop:=
 ∃s A l c t B m d,v= .agg #[.bool s, .slice A l c, .bool t, .slice B m d] /\ eQ w (.agg #[.bool s, .slice A l c]) q.num /\ ∃y:Int,eQ w (.agg #[.bool t, .slice B m d]) y /\ (y=q.den \/ (y=0 /\ q.den=1))
theorem eO.below{w w':World}{v:Value}{q:Rat}(h:eO w v q)(r:Below w.heap.size w w'):eO w' v q:=by
 obtain⟨s,A,l,c,t,B,m,d,F,h1,y,C,E⟩:=h;exact⟨s,A,l,c,t,B,m,d,F,h1.below r,y,C.below r,E⟩
theorem eO.other{w w':World}{v:Value}{q:Rat}{g:Nat}{e:TypeId}{cs:List Value}(h:eO w v q)(C:w.grownBy w' (some g))(E:Row w g e cs)(r:e≠160):eO w' v q:=by
 obtain⟨s,A,l,c,t,B,m,d,M,h1,y,F,G⟩:=h;exact⟨s,A,l,c,t,B,m,d,M,h1.other C E r,y,F.other C E r,G⟩
theorem eO.shape{w:World}{v:Value}{q:Rat}(h:eO w v q):∃s A l c t B m d,v= .agg #[.bool s, .slice A l c, .bool t, .slice B m d]:=by
 obtain⟨s,A,l,c,t,B,m,d,r,_⟩:=h;exact⟨s,A,l,c,t,B,m,d,r⟩
theorem eO.parts{w:World}{s t:Bool}{A B:Option Addr}{l c m d:Nat}{q:Rat}(h:eO w (.agg #[.bool s, .slice A l c, .bool t, .slice B m d]) q):
  eQ w (.agg #[.bool s, .slice A l c]) q.num /\ ∃y:Int,eQ w (.agg #[.bool t, .slice B m d]) y /\ (y=q.den \/ (y=0 /\ q.den=1)):=by
 obtain⟨G,A',E,c',M,B',F,d',r,h1,C⟩:=h;simp only[Value.agg.injEq] at r;obtain⟨⟨rfl⟩,⟨rfl,rfl,rfl⟩,⟨rfl⟩,⟨rfl,rfl,rfl⟩⟩:(s=G) /\ (A=A' /\ l=E /\ c=c') /\ (t=M) /\ (B=B' /\ m=F /\ d=d'):=by simpa using r
 exact⟨h1,C⟩
theorem eO.mk{w:World}{s t:Bool}{A B:Option Addr}{l c m d:Nat}{q:Rat}{x y:Int}(h1:eQ w (.agg #[.bool s, .slice A l c]) x)(h:eQ w (.agg #[.bool t, .slice B m d]) y)(r:x=q.num)(C:y=q.den \/ (y=0 /\ q.den=1)):
  eO w (.agg #[.bool s, .slice A l c, .bool t, .slice B m d]) q:=⟨s,A,l,c,t,B,m,d,rfl,r ▸ h1,y,h,C⟩
theorem eQ.jU(w:World):eQ w (.agg #[.bool false, .slice none 0 0]) 0:=⟨none,0,by simp[gJ],by simp[gJ],by unfold maxLen;omega, .inl (by simp[gJ])⟩
theorem eO.jU(w:World):eO w (.agg #[.bool false, .slice none 0 0, .bool false, .slice none 0 0]) 0:=eO.mk (eQ.jU w) (eQ.jU w) rfl (.inr ⟨rfl,rfl⟩)
open Lp (RL)
theorem iY{w h:World}{rb:Nat}{e:TypeId}{x y z u:Value}{cs:List Value}{q:Rat}(r:Row h rb e cs)(E:e≠160)(t:w.heap.size <= rb)(C:Below w.heap.size w h)(F:eO h (.agg #[x,y,z,u]) q):
  eO ((((h.setCell ⟨rb,0,none⟩ x).setCell ⟨rb,1,none⟩ y).setCell ⟨rb,2,none⟩ z).setCell ⟨rb,3,none⟩ u) (.agg #[x,y,z,u]) q /\
  Below w.heap.size w ((((h.setCell ⟨rb,0,none⟩ x).setCell ⟨rb,1,none⟩ y).setCell ⟨rb,2,none⟩ z).setCell ⟨rb,3,none⟩ u):=
 ⟨F.other (il _ _ _ _ _ _ _ _ _ _) r E,(((C.setCell (p:=⟨rb,0,none⟩) t _).setCell (p:=⟨rb,1,none⟩) t _).setCell (p:=⟨rb,2,none⟩) t _).setCell (p:=⟨rb,3,none⟩) t _⟩
theorem uY{w h:World}{rb:Nat}{e:TypeId}{x y:Value}{cs:List Value}{n:Int}(r:Row h rb e cs)(E:e≠160)(t:w.heap.size <= rb)(C:Below w.heap.size w h)(F:eQ h (.agg #[x,y]) n):
  eQ ((h.setCell ⟨rb,0,none⟩ x).setCell ⟨rb,1,none⟩ y) (.agg #[x,y]) n /\ Below w.heap.size w ((h.setCell ⟨rb,0,none⟩ x).setCell ⟨rb,1,none⟩ y):=
 ⟨F.other (je _ _ _ _ _ _) r E,(C.setCell (p:=⟨rb,0,none⟩) t _).setCell (p:=⟨rb,1,none⟩) t _⟩
def Lim(k:Nat)(a:Int):Prop:=a.natAbs<10^k
theorem Lim.mono{k m:Nat}{a:Int}(h:Lim k a)(r:k <= m):Lim m a:=Nat.lt_of_lt_of_le h (Nat.pow_le_pow_right dC r)
theorem Lim.neg{k:Nat}{a:Int}(h:Lim k a):Lim k (-a):=by unfold Lim at*;rw[Int.natAbs_neg];exact h
theorem Lim.add{k:Nat}{a b:Int}(h:Lim k a)(r:Lim k b):Lim (k+1) (a+b):=by
 unfold Lim at*;rw[Nat.pow_succ];have:=Int.natAbs_add_le a b;omega
theorem Lim.mul{k m:Nat}{a b:Int}(h:Lim k a)(r:Lim m b):Lim (k+m) (a*b):=by
 unfold Lim at*;rw[Int.natAbs_mul,Nat.pow_add];exact Nat.mul_lt_mul'' h r
theorem Lim.ek{k:Nat}{a:Int}(h:Lim k a):(ek a.natAbs).length <= k:=
 jQ (Nat.lt_of_lt_of_le h (Nat.pow_le_pow_left dC k))
theorem Lim.l1{k:Nat}{a:Int}(h:Lim k a)(r:k <= 8000000000000):(Go.Proofs.YtdefghfjhgmpfaaGreatDoor.ek a.natAbs).length<8796093022208:=by have:=h.ek;omega
theorem Lim.l2{k:Nat}{a:Int}(h:Lim k a)(r:k <= 8000000000000):(Go.Proofs.YtdefghfjhgmpfaaGreatDoor.ek a.natAbs).length<8796093022200:=by have:=h.ek;omega
theorem Lp.RL.fE{k:Nat}{q:Rat}(h:RL k q):Lim k q.num:=h.1
theorem Lp.RL.fB{k:Nat}{q:Rat}(h:RL k q):Lim k (q.den:Int):=by unfold Lim;rw[Int.natAbs_natCast];exact h.2
theorem pg:Lim 1 1:=by unfold Lim;decide
theorem qG(p d:Int)(h:0<d):Int.fdiv p ((Nat.gcd p.natAbs d.natAbs:Nat):Int)=(Rat.divInt p d).num:=by
 rw[Rat.num_divInt,Int.sign_eq_one_of_pos h,Int.one_mul];have e:d.gcd p=Nat.gcd p.natAbs d.natAbs:=by rw[Nat.gcd_comm];rfl
 rw[e,Int.fdiv_eq_ediv_of_nonneg _ oM]
theorem qH(p d:Int)(r:0<d):Int.fdiv d ((Nat.gcd p.natAbs d.natAbs:Nat):Int)=((Rat.divInt p d).den:Int):=by
 rw[Rat.den_divInt,if_neg oM];have e:d.gcd p=Nat.gcd p.natAbs d.natAbs:=by rw[Nat.gcd_comm];rfl
 rw[e,Int.fdiv_eq_ediv_of_nonneg _ oM];have h:d=((d.natAbs:Nat):Int):=oM
 conv=>lhs;rw[h]
 simp
theorem sG(p d:Int)(t:0<d)(h:Nat.gcd p.natAbs d.natAbs=1):p=(Rat.divInt p d).num /\ d=((Rat.divInt p d).den:Int):=by
 have h1:=qG p d t;have r:=qH p d t;rw[h] at h1 r;simp at h1 r;exact⟨h1,r⟩
theorem qI(p d:Int):Rat.divInt (-p) (-d)=Rat.divInt p d:=Rat.neg_divInt_neg p d
theorem sH(p d:Int)(h:0<d):0<Nat.gcd p.natAbs d.natAbs:=Nat.gcd_pos_of_pos_right _ oM
theorem sI(p d:Int)(h:0<d):Nat.gcd p.natAbs d.natAbs <= d.natAbs:=Nat.le_of_dvd oM (Nat.gcd_dvd_right _ _)
theorem uZ(a b:Rat):Rat.divInt (a.num* (b.den:Int)+b.num* (a.den:Int)) ((a.den:Int)* (b.den:Int))=a+b:=by
 rw[Rat.add_def', <- Rat.divInt_ofNat];simp
theorem vv(a b:Rat):Rat.divInt (a.num*b.num) ((a.den:Int)* (b.den:Int))=a*b:=by
 rw[Rat.mul_def', <- Rat.divInt_ofNat];simp
theorem FC(a b:Rat):Rat.divInt (a.num* (b.den:Int)) ((a.den:Int)*b.num)=a / b:=by
 conv=>rhs;rw[Rat.div_def, <- Rat.num_divInt_den a,Rat.inv_def,Rat.divInt_mul_divInt]
theorem za{a b:Rat}(t:a.den=1)(C:b.den=1):(a+b).num=a.num+b.num /\ (a+b).den=1:=by
 have h:a=((a.num:Int):Rat):=Rat.ext rfl t;have r:b=((b.num:Int):Rat):=Rat.ext rfl C;have e:a+b=((a.num+b.num:Int):Rat):=by rw[Rat.intCast_add, <- h, <- r]
 rw[e];exact⟨rfl,rfl⟩
theorem ze{a b:Rat}(t:a.den=1)(C:b.den=1):(a*b).num=a.num*b.num /\ (a*b).den=1:=by
 have h:a=((a.num:Int):Rat):=Rat.ext rfl t;have r:b=((b.num:Int):Rat):=Rat.ext rfl C;have e:a*b=((a.num*b.num:Int):Rat):=by rw[Rat.intCast_mul, <- h, <- r]
 rw[e];exact⟨rfl,rfl⟩
def jq(a b:Rat):Int:=if a<b then -1 else if a=b then 0 else 1
theorem sJ(a b:Rat):(if a.num* (b.den:Int)<b.num* (a.den:Int) then(-1:Int) else if a.num* (b.den:Int)=b.num* (a.den:Int) then 0 else 1)=jq a b:=by
 unfold jq;simp only[Rat.lt_iff,Rat.eq_iff_mul_eq_mul]
theorem FD{a b:Rat}(h:a.den=1)(r:b.den=1):(if a.num<b.num then(-1:Int) else if a.num=b.num then 0 else 1)=jq a b:=by
 rw[<- sJ,h,r];simp
theorem Row.jh{w:World}{g:Nat}{e:TypeId}{p q r s x y z u:Value}(h:Row w g e [p,q,r,s]):Row ((((w.setCell ⟨g,0,none⟩ x).setCell ⟨g,1,none⟩ y).setCell ⟨g,2,none⟩ z).setCell ⟨g,3,none⟩ u) g e [x,y,z,u]:=
 (((h.set 0 x).set 1 y).set 2 z).set 3 u
theorem Row.other{w w':World}{g g':Nat}{e:TypeId}{cs:List Value}(h:Row w g e cs)(r:w.grownBy w' (some g'))(t:g≠g'):Row w' g e cs:=(r.block g h.lt (by simp;exact t)).trans h
theorem nT{B:Nat}{w w':World}(h:Below B w w'){g:Nat}(r:B <= g)(x y:Value):Below B w ((w'.setCell ⟨g,0,none⟩ x).setCell ⟨g,1,none⟩ y):=(h.setCell (p:=⟨g,0,none⟩) r _).setCell (p:=⟨g,1,none⟩) r _
theorem lF{B:Nat}{w w':World}(h:Below B w w'){g:Nat}(r:B <= g)(x y z u:Value):Below B w ((((w'.setCell ⟨g,0,none⟩ x).setCell ⟨g,1,none⟩ y).setCell ⟨g,2,none⟩ z).setCell ⟨g,3,none⟩ u):=((nT h r x y).setCell (p:=⟨g,2,none⟩) r _).setCell (p:=⟨g,3,none⟩) r _
section
variable {w:World} {n o:Nat} {a:Value}
theorem k4N(s:Nat)(h: w.cell? ⟨n,o,none⟩=some a)(t:n≠s:=by omega):∀ (w'':World) (u0 u1 u2 u3:Value),Below w.heap.size w w'' -> ((((w''.setCell ⟨s,0,none⟩ u0).setCell ⟨s,1,none⟩ u1).setCell ⟨s,2,none⟩ u2).setCell ⟨s,3,none⟩ u3).cell? ⟨n,o,none⟩=some a:=fun _ _ _ _ _ r=>(FB _ s n o _ _ _ _ t).trans (kN h _ r)
theorem k4C(s:Nat){S:World -> Value -> Value -> Value -> Value -> Prop}(h: w.cell? ⟨n,o,none⟩=some a)(r:∀ (w'':World) (u0 u1 u2 u3:Value),Below w.heap.size w w'' -> S w'' u0 u1 u2 u3)(C:n≠s:=by omega):∀ (w'':World) (u0 u1 u2 u3:Value),Below w.heap.size w w'' -> ((((w''.setCell ⟨s,0,none⟩ u0).setCell ⟨s,1,none⟩ u1).setCell ⟨s,2,none⟩ u2).setCell ⟨s,3,none⟩ u3).cell? ⟨n,o,none⟩=some a /\ S w'' u0 u1 u2 u3:=fun _ _ _ _ _ t=>⟨k4N s h C _ _ _ _ _ t,r _ _ _ _ _ t⟩
end
end
section
open Go.RowKit
open Lp (RL)
set_option maxHeartbeats 1600000 in
theorem ku(w:World):
  Calls prog 134 #[] w fun e w'=>∃v,e= .returned v /\ eQ w' v (1) /\ Below w.heap.size w w':=by
 obtain⟨W,F,h,r⟩:=eN1 w [.bool false, .slice none 0 0] 103;go_enter func134,ntmps134;go_wp2_with fail
 rw[<- F];clear F;refine(uS 1 _ dC dC).mono ?_;rintro e w1 ⟨vx,rfl,C,t⟩;obtain⟨X,M,V,R,rfl⟩:=C.shape;have O:=lH C;clear C;replace h:=rW h t;replace r:=bT r t;clear t;obtain⟨T,U⟩:=aT2 h.o;have a0:=h.o.lt;have Y:=h.o.free 0;have Z:=h.o.free 1;have G:=uY h.o dC oM r.o O.o;have E:=lH G;clear G;go_wp2_with fail
 refine bodyPost_ret (v:= .agg #[.bool X, .slice M V R]) (by simp[results,results134,go_sem,T,U]) rfl ?_;exact⟨_,rfl,E.o.1,E.o.2⟩
set_option maxHeartbeats 1600000 in
theorem sK(n:Int)(h1: -9223372036854775808 <= n)(T:n <= 9223372036854775807)(w:World):
  Calls prog 75 #[.int .i64 n] w fun e w'=>∃v,e= .returned v /\ eO w' v ((n:Rat)) /\ Below w.heap.size w w':=by
 obtain⟨W,F,h,r⟩:=eN1 w [.bool false, .slice none 0 0, .bool false, .slice none 0 0] 105;go_enter func75,ntmps75;go_wp2_with fail
 rw[<- F];clear F;refine(uS n _ h1 T).mono ?_;rintro e w1 ⟨vx,rfl,C,t⟩;obtain⟨sx,M,Z,R,rfl⟩:=C.shape;have O:=lH C;clear C;replace h:=rW h t;replace r:=bT r t;clear t;obtain⟨U,V,X,Y⟩:=aT4 h.o;have a4:=h.o.lt;have a0:=h.o.free 0;have a1:=h.o.free 1;have a2:=h.o.free 2;have a3:=h.o.free 3;have G:=iY h.o dC oM r.o (eO.mk (q:=(n:Rat)) O.o (eQ.jU _) (Rat.num_intCast n).symm (.inr ⟨rfl,Rat.den_intCast n⟩));have E:=lH G;clear G;go_wp2_with fail
 refine bodyPost_ret (v:= .agg #[.bool sx, .slice M Z R, .bool false, .slice none 0 0]) (by simp[results,results75,go_sem,U,V,X,Y]) rfl ?_;exact⟨_,rfl,E.o.1,E.o.2⟩
set_option maxHeartbeats 1600000 in
theorem fU(F:Value)(a:Rat)(w:World)(r:eO w F a):
  Calls prog 76 #[F] w fun e w'=>e= .returned (.int .i64 (sgI a.num)) /\ Below w.heap.size w w':=by
 obtain⟨X,G,U,R,Y,M,V,T,rfl⟩:=r.shape;obtain⟨W,C,t,h⟩:=eN1 w [.bool X, .slice G U R, .bool Y, .slice M V T] 105;have O:=lH ((r).below h.o);obtain⟨Z,k1⟩:=aT2 t.o;have kl:=t.o.lt;clear r;go_enter func76,ntmps76;go_wp2_with fail
 rw[<- C];clear C;refine(ko _ a.num _ O.o.parts.1).mono ?_;rintro e w1 ⟨rfl,E⟩;replace h:=bT h E;clear E;go_wp2_with fail
 go_returns;exact⟨rfl,h.o⟩
end
section
open Go.RowKit
open Lp (RL)
set_option maxHeartbeats 1600000 in
theorem ji(va:Value)(a:Rat)(w:World)(O:eO w va a):
  Calls prog 142 #[va] w fun e w'=>∃v,e= .returned v /\ eQ w' v ((a.den:Int)) /\ Below w.heap.size w w':=by
 obtain⟨sa,Aa,la,ca,ta,T,ma,U,rfl⟩:=O.shape;obtain⟨a1,y,R,Y⟩:=O.parts;by_cases h0:y=0
 ·subst h0;have HY:=lH Y;clear Y;obtain⟨W,G,r,h,t⟩:=eN2 w [.bool sa, .slice Aa la ca, .bool ta, .slice T ma U] 105 [.bool false, .slice none 0 0] 103;have E:=lH ((R).below t.o);clear O a1 R;have k2:=aI 2 r;have k3:=aI 3 r;have kl:=r.o.lt;go_enter func142,ntmps142;go_wp2_with fail
  rw[<- G];clear G;refine(ko _ 0 _ E.o).mono ?_;rintro e w1 ⟨rfl,C⟩;replace h:=rW h C;replace t:=bT t C;clear C;rw[show sgI 0=0 from rfl];clear k2 k3 kl;go_wp2_with fail
  refine(ku _).mono ?_;rintro e w2 ⟨vo,rfl,X,V⟩;obtain⟨so,Ao,lo,co,rfl⟩:=X.shape;have Vo:=lH X;clear X;replace h:=rW h V;replace t:=bT t V;clear V;obtain⟨Z,a0⟩:=aT2 h.o;have a7:=h.o.lt;have a5:=h.o.free 0;have a6:=h.o.free 1;have M:=uY h.o dC oM t.o Vo.o;have F:=lH M;clear M;go_wp2_with fail
  refine bodyPost_ret (v:= .agg #[.bool so, .slice Ao lo co]) (by simp[results,results142,go_sem,Z,a0]) rfl ?_;exact⟨_,rfl,by rw[show(a.den:Int)=1 from by have:=HY.o;have:=a.den_nz;omega];exact F.o.1,F.o.2⟩
 ·have a4:y=(a.den:Int):=oM
  subst a4;have a2:sgI (a.den:Int)=1:=by unfold sgI;rw[if_neg oM,if_neg oM]
  have a3:=lH a2;clear a2 Y h0;obtain⟨W,G,r,h,t⟩:=eN2 w [.bool sa, .slice Aa la ca, .bool ta, .slice T ma U] 105 [.bool false, .slice none 0 0] 103;have E:=lH ((R).below t.o);clear O a1 R;have k2:=aI 2 r;have k3:=aI 3 r;have kl:=r.o.lt;go_enter func142,ntmps142;go_wp2_with fail
  rw[<- G];clear G;refine(ko _ _ _ E.o).mono ?_;rintro e w1 ⟨rfl,C⟩;replace E:=lH (E.o.below C);replace r:=rW r C;replace h:=rW h C;replace t:=bT t C;clear C;rw[a3.o];clear k2 k3 kl;have a8:=aI 2 r;have a9:=aI 3 r;have aa:=r.o.lt;obtain⟨Z,a0⟩:=aT2 h.o;have a7:=h.o.lt;have a5:=h.o.free 0;have a6:=h.o.free 1;have M:=uY h.o dC oM t.o E.o;have F:=lH M;clear M;go_wp2_with fail
  refine bodyPost_ret (v:= .agg #[.bool ta, .slice T ma U]) (by simp[results,results142,go_sem,Z,a0]) rfl ?_;exact⟨_,rfl,F.o.1,F.o.2⟩
set_option maxHeartbeats 1600000 in
theorem nU(va:Value)(a:Rat)(w:World)(X:eO w va a):
  Calls prog 69 #[va] w fun e w'=>∃v,e= .returned v /\ eO w' v (-a) /\ Below w.heap.size w w':=by
 obtain⟨sa,Aa,la,ca,ta,F,Z,O,rfl⟩:=X.shape;obtain⟨a3,y,a2,hy⟩:=X.parts;have HY:=lH hy;clear hy;obtain⟨W,hW,RA,t,C⟩:=eN2 w [.bool sa, .slice Aa la ca, .bool ta, .slice F Z O] 105 [.bool false, .slice none 0 0, .bool false, .slice none 0 0] 105;have M:=lH ((a3).below C.o);have G:=lH ((a2).below C.o);clear X a3 a2;go_enter func69,ntmps69;go_wp2_with fail
 rw[<- hW];clear hW;go_wp2_with fail
 have h:=rG W;have a0:Hid (Below W.heap.size W W.drew):=lH (Below.refl _ _).drew;have a5:=RA.o.lt;obtain⟨R,T,U,V⟩:=aT4 RA.o;have E:=lH (kC R (kC T (kC U (kN V))));have aa:=t.o.lt;have KT:=lH (k4C (w.heap.size+1) R (k4C (w.heap.size+1) T (k4C (w.heap.size+1) U (k4N (w.heap.size+1) V))));clear aa;have a4:True:=trivial
 go_region_held3 (fun w'=> w'.cell? ⟨w.heap.size,0,none⟩=some (.bool sa) /\ w'.cell? ⟨w.heap.size,1,none⟩=some (.slice Aa la ca) /\ w'.cell? ⟨w.heap.size,2,none⟩=some (.bool ta) /\ w'.cell? ⟨w.heap.size,3,none⟩=some (.slice F Z O))
  (first | (with_reducible exact E.o _ a0.o) | (with_reducible exact E.o _ h.o) | (with_reducible exact KT.o _ _ _ _ _ h.o) | (exact E.o _ (h.o.trans ((eD _ _).mono h.o.size))) | (exact E.o _ (h.o.trans (((eD _ _).drew).mono h.o.size))) | go_keep)
  (first
   | (go_at_call 108
      have _t:=a4;refine(rV _ a.num _ (by exact M.o)).mono ?_;rintro e w1 ⟨vn,rfl,Y,r⟩;have r:Below W.heap.size W w1:=bD r;obtain⟨sn,An,ln,cn,rfl⟩:=Y.shape;have Vn:=lH Y;replace M:=lH (M.o.below r);replace G:=lH (G.o.below r);replace t:=rW t r;replace C:=bT C r;replace h:=bT h r;have hr:=iY t.o dC oM C.o (eO.mk (q:= -a) Vn.o G.o (Rat.neg_num a).symm (by rw[Rat.neg_den];exact HY.o));have a1:=lH hr;clear hr;obtain⟨a6,ab,a7,ac,a8,ad,a9,ae⟩:=aF4 t.o;have af:=t.o.lt
      clear r a4 _t Y))
 clear a5 R T U V E h a0 KT;go_wp2_with fail
 refine bodyPost_ret (v:= .agg #[.bool sn, .slice An ln cn, .bool ta, .slice F Z O]) (by simp[results,results69,go_sem,a6,a7,a8,a9]) rfl ?_;exact⟨_,rfl,a1.o.1,a1.o.2⟩
end
end Go.Proofs.YtdefghfjhgmpfaaGreatDoor
