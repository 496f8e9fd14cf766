/- Parts of this proof: Rat RatA RatC. -/
import Derived.Test.YtokagbahdkfagaaGreatDoorMAH
import Derived.Test.YtokagbahdkfagaaGreatDoorMAI
import Derived.Test.YtokagbahdkfagaaGreatDoorMAG
import Derived.Test.YtokagbahdkfagaaGreatDoorMAD
import Derived.Test.YtokagbahdkfagaaGreatDoorMAJ
import Derived.Test.YtokagbahdkfagaaGreatDoorMAE
namespace Go.Proofs.YtokagbahdkfagaaGreatDoor
open Tryz
section
open Go.RowKit
theorem xS{w:World}{g:Nat}{e:TypeId}{cs:List Value}(r:Row w g e cs)(C:e≠169){b:Nat}{z:Int}(h:BT w b (.int .u32 z)):b≠g:=by
 rintro rfl;obtain⟨E,e',G,h1,t⟩:=h;have:=t z rfl;unfold Row at r;rw[r] at h1
 injection h1 with h1
 injection h1 with _ h1
 exact C (h1.trans this)
theorem eD(w:World)(o:Obj):Below w.heap.size w (w.alloc o):=(jy w o).2.2
theorem BT.lt{w:World}{b:Nat}{v:Value}(h:BT w b v):b<w.heap.size:=by
 obtain⟨_,_,_,h1,_⟩:=h;exact(Array.getElem?_eq_some_iff.1 h1).1
theorem U32.other{w w':World}{A:Option Addr}{l:List Nat}{g:Nat}{e:TypeId}{cs:List Value}(h:U32 w A l)(t:w.grownBy w' (some g))(R:Row w g e cs)(M:e≠169):U32 w' A l:=by
 rcases h with h | ⟨b,T,E,G,r⟩
 ·exact .inl h
 ·have C:=xS R M r;exact .inr ⟨b,T,E,fun j O=>t.cell (G j O) (by simp;exact C),r.mD (t.block b r.lt (by simp;exact C))⟩
theorem eT.other{w w':World}{v:Value}{n:Int}{g:Nat}{e:TypeId}{cs:List Value}(h:eT w v n)(E:w.grownBy w' (some g))(G:Row w g e cs)(C:e≠169):eT w' v n:=by
 obtain⟨A,c,M,h1,r,t⟩:=h;exact⟨A,c,M,h1,r,t.other E G C⟩
theorem gJ(w:World)(g i j k l:Nat)(v u x y:Value):w.grownBy ((((w.setCell ⟨g,i,none⟩ v).setCell ⟨g,j,none⟩ u).setCell ⟨g,k,none⟩ x).setCell ⟨g,l,none⟩ y) (some g):=
 grownBy_trans (iP _ _ _ _ _ _) (iP _ _ _ _ _ _)
theorem Es(w:World)(g b o:Nat)(v u x y:Value)(h:b≠g):((((w.setCell ⟨g,0,none⟩ v).setCell ⟨g,1,none⟩ u).setCell ⟨g,2,none⟩ x).setCell ⟨g,3,none⟩ y).cell? ⟨b,o,none⟩= w.cell? ⟨b,o,none⟩:=
 (iG _ g 2 3 b o x y h).trans (iG w g 0 1 b o v u h)
def eP(w:World)(v:Value)(q:Rat):Prop:=
 ∃s A l c t B m d,v= .agg #[.bool s, .slice A l c, .bool t, .slice B m d] /\ eT w (.agg #[.bool s, .slice A l c]) q.num /\ ∃y:Int,eT w (.agg #[.bool t, .slice B m d]) y /\ (y=q.den \/ (y=0 /\ q.den=1))
theorem eP.below{w w':World}{v:Value}{q:Rat}(h:eP w v q)(r:Below w.heap.size w w'):eP w' v q:=by
 obtain⟨s,A,l,c,t,B,m,d,G,h1,y,C,E⟩:=h;exact⟨s,A,l,c,t,B,m,d,G,h1.below r,y,C.below r,E⟩
theorem eP.other{w w':World}{v:Value}{q:Rat}{g:Nat}{e:TypeId}{cs:List Value}(h:eP w v q)(C:w.grownBy w' (some g))(E:Row w g e cs)(r:e≠169):eP w' v q:=by
 obtain⟨s,A,l,c,t,B,m,d,O,h1,y,G,M⟩:=h;exact⟨s,A,l,c,t,B,m,d,O,h1.other C E r,y,G.other C E r,M⟩
theorem eP.shape{w:World}{v:Value}{q:Rat}(h:eP w v q):∃s A l c t B m d,v= .agg #[.bool s, .slice A l c, .bool t, .slice B m d]:=by
 obtain⟨s,A,l,c,t,B,m,d,r,_⟩:=h;exact⟨s,A,l,c,t,B,m,d,r⟩
theorem eP.parts{w:World}{s t:Bool}{A B:Option Addr}{l c m d:Nat}{q:Rat}(h:eP w (.agg #[.bool s, .slice A l c, .bool t, .slice B m d]) q):
  eT w (.agg #[.bool s, .slice A l c]) q.num /\ ∃y:Int,eT w (.agg #[.bool t, .slice B m d]) y /\ (y=q.den \/ (y=0 /\ q.den=1)):=by
 obtain⟨s',A',G,c',O,C,M,d',r,h1,E⟩:=h;simp only[Value.agg.injEq] at r;obtain⟨⟨rfl⟩,⟨rfl,rfl,rfl⟩,⟨rfl⟩,⟨rfl,rfl,rfl⟩⟩:(s=s') /\ (A=A' /\ l=G /\ c=c') /\ (t=O) /\ (B=C /\ m=M /\ d=d'):=by simpa using r
 exact⟨h1,E⟩
theorem eP.mk{w:World}{s t:Bool}{A B:Option Addr}{l c m d:Nat}{q:Rat}{x y:Int}(h1:eT w (.agg #[.bool s, .slice A l c]) x)(h:eT w (.agg #[.bool t, .slice B m d]) y)(r:x=q.num)(C:y=q.den \/ (y=0 /\ q.den=1)):
  eP w (.agg #[.bool s, .slice A l c, .bool t, .slice B m d]) q:=⟨s,A,l,c,t,B,m,d,rfl,r ▸ h1,y,h,C⟩
theorem eT.jo(w:World):eT w (.agg #[.bool false, .slice none 0 0]) 0:=⟨none,0,by simp[il],by simp[il],by unfold maxLen;omega, .inl (by simp[il])⟩
theorem eP.jo(w:World):eP w (.agg #[.bool false, .slice none 0 0, .bool false, .slice none 0 0]) 0:=eP.mk (eT.jo w) (eT.jo w) rfl (.inr ⟨rfl,rfl⟩)
open Lp (RL)
theorem ic{w h:World}{rb:Nat}{e:TypeId}{x y z u:Value}{cs:List Value}{q:Rat}(r:Row h rb e cs)(E:e≠169)(t:w.heap.size <= rb)(C:Below w.heap.size w h)(G:eP h (.agg #[x,y,z,u]) q):
  eP ((((h.setCell ⟨rb,0,none⟩ x).setCell ⟨rb,1,none⟩ y).setCell ⟨rb,2,none⟩ z).setCell ⟨rb,3,none⟩ u) (.agg #[x,y,z,u]) q /\
  Below w.heap.size w ((((h.setCell ⟨rb,0,none⟩ x).setCell ⟨rb,1,none⟩ y).setCell ⟨rb,2,none⟩ z).setCell ⟨rb,3,none⟩ u):=
 ⟨G.other (gJ _ _ _ _ _ _ _ _ _ _) r E,(((C.setCell (p:=⟨rb,0,none⟩) t _).setCell (p:=⟨rb,1,none⟩) t _).setCell (p:=⟨rb,2,none⟩) t _).setCell (p:=⟨rb,3,none⟩) t _⟩
theorem tX{w h:World}{rb:Nat}{e:TypeId}{x y:Value}{cs:List Value}{n:Int}(r:Row h rb e cs)(E:e≠169)(t:w.heap.size <= rb)(C:Below w.heap.size w h)(G:eT h (.agg #[x,y]) n):
  eT ((h.setCell ⟨rb,0,none⟩ x).setCell ⟨rb,1,none⟩ y) (.agg #[x,y]) n /\ Below w.heap.size w ((h.setCell ⟨rb,0,none⟩ x).setCell ⟨rb,1,none⟩ y):=
 ⟨G.other (iP _ _ _ _ _ _) r E,(C.setCell (p:=⟨rb,0,none⟩) t _).setCell (p:=⟨rb,1,none⟩) t _⟩
def Lim(k:Nat)(a:Int):Prop:=a.natAbs<10^k
theorem Lim.mono{k m:Nat}{a:Int}(h:Lim k a)(r:k <= m):Lim m a:=Nat.lt_of_lt_of_le h (Nat.pow_le_pow_right dC r)
theorem Lim.neg{k:Nat}{a:Int}(h:Lim k a):Lim k (-a):=by unfold Lim at*;rw[Int.natAbs_neg];exact h
theorem Lim.add{k:Nat}{a b:Int}(h:Lim k a)(r:Lim k b):Lim (k+1) (a+b):=by
 unfold Lim at*;rw[Nat.pow_succ];have:=Int.natAbs_add_le a b;omega
theorem Lim.mul{k m:Nat}{a b:Int}(h:Lim k a)(r:Lim m b):Lim (k+m) (a*b):=by
 unfold Lim at*;rw[Int.natAbs_mul,Nat.pow_add];exact Nat.mul_lt_mul'' h r
theorem Lim.ek{k:Nat}{a:Int}(h:Lim k a):(ek a.natAbs).length <= k:=
 jS (Nat.lt_of_lt_of_le h (Nat.pow_le_pow_left dC k))
theorem Lim.l1{k:Nat}{a:Int}(h:Lim k a)(r:k <= 8000000000000):(Go.Proofs.YtokagbahdkfagaaGreatDoor.ek a.natAbs).length<8796093022208:=by have:=h.ek;omega
theorem Lim.l2{k:Nat}{a:Int}(h:Lim k a)(r:k <= 8000000000000):(Go.Proofs.YtokagbahdkfagaaGreatDoor.ek a.natAbs).length<8796093022200:=by have:=h.ek;omega
theorem Lp.RL.fJ{k:Nat}{q:Rat}(h:RL k q):Lim k q.num:=h.1
theorem Lp.RL.fH{k:Nat}{q:Rat}(h:RL k q):Lim k (q.den:Int):=by unfold Lim;rw[Int.natAbs_natCast];exact h.2
theorem o9:Lim 1 1:=by unfold Lim;decide
theorem tY(p d:Int)(h:0<d):Int.fdiv p ((Nat.gcd p.natAbs d.natAbs:Nat):Int)=(Rat.divInt p d).num:=by
 rw[Rat.num_divInt,Int.sign_eq_one_of_pos h,Int.one_mul];have e:d.gcd p=Nat.gcd p.natAbs d.natAbs:=by rw[Nat.gcd_comm];rfl
 rw[e,Int.fdiv_eq_ediv_of_nonneg _ oM]
theorem tZ(p d:Int)(r:0<d):Int.fdiv d ((Nat.gcd p.natAbs d.natAbs:Nat):Int)=((Rat.divInt p d).den:Int):=by
 rw[Rat.den_divInt,if_neg oM];have e:d.gcd p=Nat.gcd p.natAbs d.natAbs:=by rw[Nat.gcd_comm];rfl
 rw[e,Int.fdiv_eq_ediv_of_nonneg _ oM];have h:d=((d.natAbs:Nat):Int):=oM
 conv=>lhs;rw[h]
 simp
theorem qO(p d:Int)(t:0<d)(h:Nat.gcd p.natAbs d.natAbs=1):p=(Rat.divInt p d).num /\ d=((Rat.divInt p d).den:Int):=by
 have h1:=tY p d t;have r:=tZ p d t;rw[h] at h1 r;simp at h1 r;exact⟨h1,r⟩
theorem qQ(p d:Int):Rat.divInt (-p) (-d)=Rat.divInt p d:=Rat.neg_divInt_neg p d
theorem xU(p d:Int)(h:0<d):0<Nat.gcd p.natAbs d.natAbs:=Nat.gcd_pos_of_pos_right _ oM
theorem xV(p d:Int)(h:0<d):Nat.gcd p.natAbs d.natAbs <= d.natAbs:=Nat.le_of_dvd oM (Nat.gcd_dvd_right _ _)
theorem xW(a b:Rat):Rat.divInt (a.num* (b.den:Int)+b.num* (a.den:Int)) ((a.den:Int)* (b.den:Int))=a+b:=by
 rw[Rat.add_def', <- Rat.divInt_ofNat];simp
theorem xX(a b:Rat):Rat.divInt (a.num*b.num) ((a.den:Int)* (b.den:Int))=a*b:=by
 rw[Rat.mul_def', <- Rat.divInt_ofNat];simp
theorem Et(a b:Rat):Rat.divInt (a.num* (b.den:Int)) ((a.den:Int)*b.num)=a / b:=by
 conv=>rhs;rw[Rat.div_def, <- Rat.num_divInt_den a,Rat.inv_def,Rat.divInt_mul_divInt]
theorem xY{a b:Rat}(t:a.den=1)(C:b.den=1):(a+b).num=a.num+b.num /\ (a+b).den=1:=by
 have h:a=((a.num:Int):Rat):=Rat.ext rfl t;have r:b=((b.num:Int):Rat):=Rat.ext rfl C;have e:a+b=((a.num+b.num:Int):Rat):=by rw[Rat.intCast_add, <- h, <- r]
 rw[e];exact⟨rfl,rfl⟩
theorem xZ{a b:Rat}(t:a.den=1)(C:b.den=1):(a*b).num=a.num*b.num /\ (a*b).den=1:=by
 have h:a=((a.num:Int):Rat):=Rat.ext rfl t;have r:b=((b.num:Int):Rat):=Rat.ext rfl C;have e:a*b=((a.num*b.num:Int):Rat):=by rw[Rat.intCast_mul, <- h, <- r]
 rw[e];exact⟨rfl,rfl⟩
def nJ(a b:Rat):Int:=if a<b then -1 else if a=b then 0 else 1
theorem u6(a b:Rat):(if a.num* (b.den:Int)<b.num* (a.den:Int) then(-1:Int) else if a.num* (b.den:Int)=b.num* (a.den:Int) then 0 else 1)=nJ a b:=by
 unfold nJ;simp only[Rat.lt_iff,Rat.eq_iff_mul_eq_mul]
theorem Eu{a b:Rat}(h:a.den=1)(r:b.den=1):(if a.num<b.num then(-1:Int) else if a.num=b.num then 0 else 1)=nJ a b:=by
 rw[<- u6,h,r];simp
theorem Row.iJ{w:World}{g:Nat}{e:TypeId}{p q r s x y z u:Value}(h:Row w g e [p,q,r,s]):Row ((((w.setCell ⟨g,0,none⟩ x).setCell ⟨g,1,none⟩ y).setCell ⟨g,2,none⟩ z).setCell ⟨g,3,none⟩ u) g e [x,y,z,u]:=
 (((h.set 0 x).set 1 y).set 2 z).set 3 u
theorem Row.other{w w':World}{g g':Nat}{e:TypeId}{cs:List Value}(h:Row w g e cs)(r:w.grownBy w' (some g'))(t:g≠g'):Row w' g e cs:=(r.block g h.lt (by simp;exact t)).trans h
theorem nK{B:Nat}{w w':World}(h:Below B w w'){g:Nat}(r:B <= g)(x y:Value):Below B w ((w'.setCell ⟨g,0,none⟩ x).setCell ⟨g,1,none⟩ y):=(h.setCell (p:=⟨g,0,none⟩) r _).setCell (p:=⟨g,1,none⟩) r _
theorem jq{B:Nat}{w w':World}(h:Below B w w'){g:Nat}(r:B <= g)(x y z u:Value):Below B w ((((w'.setCell ⟨g,0,none⟩ x).setCell ⟨g,1,none⟩ y).setCell ⟨g,2,none⟩ z).setCell ⟨g,3,none⟩ u):=((nK h r x y).setCell (p:=⟨g,2,none⟩) r _).setCell (p:=⟨g,3,none⟩) r _
section
variable {w:World} {n o:Nat} {a:Value}
theorem k4N(s:Nat)(h: w.cell? ⟨n,o,none⟩=some a)(t:n≠s:=by omega):∀ (w'':World) (u0 u1 u2 u3:Value),Below w.heap.size w w'' -> ((((w''.setCell ⟨s,0,none⟩ u0).setCell ⟨s,1,none⟩ u1).setCell ⟨s,2,none⟩ u2).setCell ⟨s,3,none⟩ u3).cell? ⟨n,o,none⟩=some a:=fun _ _ _ _ _ r=>(Es _ s n o _ _ _ _ t).trans (kN h _ r)
theorem k4C(s:Nat){S:World -> Value -> Value -> Value -> Value -> Prop}(h: w.cell? ⟨n,o,none⟩=some a)(r:∀ (w'':World) (u0 u1 u2 u3:Value),Below w.heap.size w w'' -> S w'' u0 u1 u2 u3)(C:n≠s:=by omega):∀ (w'':World) (u0 u1 u2 u3:Value),Below w.heap.size w w'' -> ((((w''.setCell ⟨s,0,none⟩ u0).setCell ⟨s,1,none⟩ u1).setCell ⟨s,2,none⟩ u2).setCell ⟨s,3,none⟩ u3).cell? ⟨n,o,none⟩=some a /\ S w'' u0 u1 u2 u3:=fun _ _ _ _ _ t=>⟨k4N s h C _ _ _ _ _ t,r _ _ _ _ _ t⟩
end
end
section
open Go.RowKit
open Lp (RL)
set_option maxHeartbeats 1600000 in
theorem jW(w:World):
  Calls prog 99 #[] w fun e w'=>∃v,e= .returned v /\ eT w' v (1) /\ Below w.heap.size w w':=by
 obtain⟨W,G,h,r⟩:=eN1 w [.bool false, .slice none 0 0] 38;go_enter func99,ntmps99;go_wp2_with fail
 rw[<- G];clear G;refine(tN 1 _ dC dC).mono ?_;rintro e w1 ⟨vx,rfl,C,t⟩;obtain⟨Y,O,X,T,rfl⟩:=C.shape;have R:=lH C;clear C;replace h:=rW h t;replace r:=bT r t;clear t;obtain⟨U,V⟩:=aT2 h.o;have a1:=h.o.lt;have Z:=h.o.free 0;have a0:=h.o.free 1;have M:=tX h.o dC oM r.o R.o;have E:=lH M;clear M;go_wp2_with fail
 refine bodyPost_ret (v:= .agg #[.bool Y, .slice O X T]) (by simp[results,results99,go_sem,U,V]) rfl ?_;exact⟨_,rfl,E.o.1,E.o.2⟩
set_option maxHeartbeats 1600000 in
theorem nL(n:Int)(h1: -9223372036854775808 <= n)(U:n <= 9223372036854775807)(w:World):
  Calls prog 32 #[.int .i64 n] w fun e w'=>∃v,e= .returned v /\ eP w' v ((n:Rat)) /\ Below w.heap.size w w':=by
 obtain⟨W,G,h,r⟩:=eN1 w [.bool false, .slice none 0 0, .bool false, .slice none 0 0] 40;go_enter func32,ntmps32;go_wp2_with fail
 rw[<- G];clear G;refine(tN n _ h1 U).mono ?_;rintro e w1 ⟨vx,rfl,C,t⟩;obtain⟨sx,O,lx,T,rfl⟩:=C.shape;have R:=lH C;clear C;replace h:=rW h t;replace r:=bT r t;clear t;obtain⟨V,X,Y,Z⟩:=aT4 h.o;have a4:=h.o.lt;have a0:=h.o.free 0;have a1:=h.o.free 1;have a2:=h.o.free 2;have a3:=h.o.free 3;have M:=ic h.o dC oM r.o (eP.mk (q:=(n:Rat)) R.o (eT.jo _) (Rat.num_intCast n).symm (.inr ⟨rfl,Rat.den_intCast n⟩));have E:=lH M;clear M;go_wp2_with fail
 refine bodyPost_ret (v:= .agg #[.bool sx, .slice O lx T, .bool false, .slice none 0 0]) (by simp[results,results32,go_sem,V,X,Y,Z]) rfl ?_;exact⟨_,rfl,E.o.1,E.o.2⟩
set_option maxHeartbeats 1600000 in
theorem fQ(G:Value)(a:Rat)(w:World)(r:eP w G a):
  Calls prog 31 #[G] w fun e w'=>e= .returned (.int .i64 (sgI a.num)) /\ Below w.heap.size w w':=by
 obtain⟨Y,M,V,T,Z,O,X,U,rfl⟩:=r.shape;obtain⟨W,C,t,h⟩:=eN1 w [.bool Y, .slice M V T, .bool Z, .slice O X U] 40;have R:=lH ((r).below h.o);obtain⟨k0,k1⟩:=aT2 t.o;have kl:=t.o.lt;clear r;go_enter func31,ntmps31;go_wp2_with fail
 rw[<- C];clear C;refine(jU _ a.num _ R.o.parts.1).mono ?_;rintro e w1 ⟨rfl,E⟩;replace h:=bT h E;clear E;go_wp2_with fail
 go_returns;exact⟨rfl,h.o⟩
end
section
open Go.RowKit
open Lp (RL)
set_option maxHeartbeats 1600000 in
theorem iU(va:Value)(a:Rat)(w:World)(R:eP w va a):
  Calls prog 78 #[va] w fun e w'=>∃v,e= .returned v /\ eT w' v ((a.den:Int)) /\ Below w.heap.size w w':=by
 obtain⟨sa,Aa,la,ca,ta,U,ma,V,rfl⟩:=R.shape;obtain⟨a2,y,T,Z⟩:=R.parts;by_cases h0:y=0
 ·subst h0;have HY:=lH Z;clear Z;obtain⟨W,M,r,h,t⟩:=eN2 w [.bool sa, .slice Aa la ca, .bool ta, .slice U ma V] 40 [.bool false, .slice none 0 0] 38;have E:=lH ((T).below t.o);clear R a2 T;have k2:=aI 2 r;have k3:=aI 3 r;have kl:=r.o.lt;go_enter func78,ntmps78;go_wp2_with fail
  rw[<- M];clear M;refine(jU _ 0 _ E.o).mono ?_;rintro e w1 ⟨rfl,C⟩;replace h:=rW h C;replace t:=bT t C;clear C;rw[show sgI 0=0 from rfl];clear k2 k3 kl;go_wp2_with fail
  refine(jW _).mono ?_;rintro e w2 ⟨vo,rfl,Y,X⟩;obtain⟨so,Ao,lo,co,rfl⟩:=Y.shape;have Vo:=lH Y;clear Y;replace h:=rW h X;replace t:=bT t X;clear X;obtain⟨a0,a1⟩:=aT2 h.o;have a8:=h.o.lt;have a6:=h.o.free 0;have a7:=h.o.free 1;have O:=tX h.o dC oM t.o Vo.o;have G:=lH O;clear O;go_wp2_with fail
  refine bodyPost_ret (v:= .agg #[.bool so, .slice Ao lo co]) (by simp[results,results78,go_sem,a0,a1]) rfl ?_;exact⟨_,rfl,by rw[show(a.den:Int)=1 from by have:=HY.o;have:=a.den_nz;omega];exact G.o.1,G.o.2⟩
 ·have a5:y=(a.den:Int):=oM
  subst a5;have a3:sgI (a.den:Int)=1:=by unfold sgI;rw[if_neg oM,if_neg oM]
  have a4:=lH a3;clear a3 Z h0;obtain⟨W,M,r,h,t⟩:=eN2 w [.bool sa, .slice Aa la ca, .bool ta, .slice U ma V] 40 [.bool false, .slice none 0 0] 38;have E:=lH ((T).below t.o);clear R a2 T;have k2:=aI 2 r;have k3:=aI 3 r;have kl:=r.o.lt;go_enter func78,ntmps78;go_wp2_with fail
  rw[<- M];clear M;refine(jU _ _ _ E.o).mono ?_;rintro e w1 ⟨rfl,C⟩;replace E:=lH (E.o.below C);replace r:=rW r C;replace h:=rW h C;replace t:=bT t C;clear C;rw[a4.o];clear k2 k3 kl;have a9:=aI 2 r;have aa:=aI 3 r;have ab:=r.o.lt;obtain⟨a0,a1⟩:=aT2 h.o;have a8:=h.o.lt;have a6:=h.o.free 0;have a7:=h.o.free 1;have O:=tX h.o dC oM t.o E.o;have G:=lH O;clear O;go_wp2_with fail
  refine bodyPost_ret (v:= .agg #[.bool ta, .slice U ma V]) (by simp[results,results78,go_sem,a0,a1]) rfl ?_;exact⟨_,rfl,G.o.1,G.o.2⟩
set_option maxHeartbeats 1600000 in
theorem pF(va:Value)(a:Rat)(w:World)(Y:eP w va a):
  Calls prog 48 #[va] w fun e w'=>∃v,e= .returned v /\ eP w' v (-a) /\ Below w.heap.size w w':=by
 obtain⟨sa,Aa,la,ca,ta,G,ma,R,rfl⟩:=Y.shape;obtain⟨a3,y,a2,hy⟩:=Y.parts;have HY:=lH hy;clear hy;obtain⟨W,hW,RA,t,C⟩:=eN2 w [.bool sa, .slice Aa la ca, .bool ta, .slice G ma R] 40 [.bool false, .slice none 0 0, .bool false, .slice none 0 0] 40;have O:=lH ((a3).below C.o);have M:=lH ((a2).below C.o);clear Y a3 a2;go_enter func48,ntmps48;go_wp2_with fail
 rw[<- hW];clear hW;go_wp2_with fail
 have h:=rG W;have a0:Hid (Below W.heap.size W W.drew):=lH (Below.refl _ _).drew;have a5:=RA.o.lt;obtain⟨T,U,V,X⟩:=aT4 RA.o;have E:=lH (kC T (kC U (kC V (kN X))));have aa:=t.o.lt;have KT:=lH (k4C (w.heap.size+1) T (k4C (w.heap.size+1) U (k4C (w.heap.size+1) V (k4N (w.heap.size+1) X))));clear aa;have a4:True:=trivial
 go_region_held3 (fun w'=> w'.cell? ⟨w.heap.size,0,none⟩=some (.bool sa) /\ w'.cell? ⟨w.heap.size,1,none⟩=some (.slice Aa la ca) /\ w'.cell? ⟨w.heap.size,2,none⟩=some (.bool ta) /\ w'.cell? ⟨w.heap.size,3,none⟩=some (.slice G ma R))
  (first | (with_reducible exact E.o _ a0.o) | (with_reducible exact E.o _ h.o) | (with_reducible exact KT.o _ _ _ _ _ h.o) | (exact E.o _ (h.o.trans ((eD _ _).mono h.o.size))) | (exact E.o _ (h.o.trans (((eD _ _).drew).mono h.o.size))) | go_keep)
  (first
   | (go_at_call 87
      have _t:=a4;refine(qI _ a.num _ (by exact O.o)).mono ?_;rintro e w1 ⟨vn,rfl,Z,r⟩;have r:Below W.heap.size W w1:=bD r;obtain⟨sn,An,ln,cn,rfl⟩:=Z.shape;have Vn:=lH Z;replace O:=lH (O.o.below r);replace M:=lH (M.o.below r);replace t:=rW t r;replace C:=bT C r;replace h:=bT h r;have hr:=ic t.o dC oM C.o (eP.mk (q:= -a) Vn.o M.o (Rat.neg_num a).symm (by rw[Rat.neg_den];exact HY.o));have a1:=lH hr;clear hr;obtain⟨a6,ab,a7,ac,a8,ad,a9,ae⟩:=aF4 t.o;have af:=t.o.lt
      clear r a4 _t Z))
 clear a5 T U V X E h a0 KT;go_wp2_with fail
 refine bodyPost_ret (v:= .agg #[.bool sn, .slice An ln cn, .bool ta, .slice G ma R]) (by simp[results,results48,go_sem,a6,a7,a8,a9]) rfl ?_;exact⟨_,rfl,a1.o.1,a1.o.2⟩
end
end Go.Proofs.YtokagbahdkfagaaGreatDoor
