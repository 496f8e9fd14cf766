/- Parts of this proof: Rat. -/
import Derived.Test.YtdefghfjhgmpfaaGreatDoorQAI
import Derived.Test.YtdefghfjhgmpfaaGreatDoorQAJ
import Derived.Test.YtdefghfjhgmpfaaGreatDoorQAH
import Derived.Test.YtdefghfjhgmpfaaGreatDoorQAE
import Derived.Test.YtdefghfjhgmpfaaGreatDoorQAK
namespace Go.Proofs.YtdefghfjhgmpfaaGreatDoor
open Go.RowKit
theorem row_type_ne{w:World}{g:Nat}{e:TypeId}{cs:List Value}(hr:Row w g e cs)(he:e≠160){b:Nat}{z:Int}(h:BT w b (.int .u32 z)):b≠g:=by
 rintro rfl;obtain⟨cs',e',fr,h1,h2⟩:=h;have:=h2 z rfl;unfold Row at hr;rw[hr] at h1
 injection h1 with h1
 injection h1 with _ h1
 exact he (h1.trans this)
theorem below_new(w:World)(o:Obj):Below w.heap.size w (w.alloc o):=(boxes1 w o).2.2
theorem BT.lt{w:World}{b:Nat}{v:Value}(h:BT w b v):b<w.heap.size:=by
 obtain⟨_,_,_,h1,_⟩:=h;exact(Array.getElem?_eq_some_iff.1 h1).1
theorem U32.other{w w':World}{A:Option Addr}{l:List Nat}{g:Nat}{e:TypeId}{cs:List Value}(h:U32 w A l)(hg:w.grownBy w' (some g))(hr:Row w g e cs)(he:e≠160):U32 w' A l:=by
 rcases h with h | ⟨b,off,hA,hc,ht⟩
 ·exact .inl h
 ·have hne:=row_type_ne hr he ht;exact .inr ⟨b,off,hA,fun j hj=>hg.cell (hc j hj) (by simp;exact hne),ht.of_eq (hg.block b ht.lt (by simp;exact hne))⟩
theorem IsInt.other{w w':World}{v:Value}{n:Int}{g:Nat}{e:TypeId}{cs:List Value}(h:IsInt w v n)(hg:w.grownBy w' (some g))(hr:Row w g e cs)(he:e≠160):IsInt w' v n:=by
 obtain⟨A,c,hv,h1,h2,h3⟩:=h;exact⟨A,c,hv,h1,h2,h3.other hg hr he⟩
theorem grownBy_set4(w:World)(g i j k l:Nat)(v u x y:Value):w.grownBy ((((w.setCell ⟨g,i,none⟩ v).setCell ⟨g,j,none⟩ u).setCell ⟨g,k,none⟩ x).setCell ⟨g,l,none⟩ y) (some g):=
 grownBy_trans (grownBy_set2 _ _ _ _ _ _) (grownBy_set2 _ _ _ _ _ _)
theorem cfar4(w:World)(g b o:Nat)(v u x y:Value)(h:b≠g):((((w.setCell ⟨g,0,none⟩ v).setCell ⟨g,1,none⟩ u).setCell ⟨g,2,none⟩ x).setCell ⟨g,3,none⟩ y).cell? ⟨b,o,none⟩= w.cell? ⟨b,o,none⟩:=
 (cell_far2 _ g 2 3 b o x y h).trans (cell_far2 w g 0 1 b o v u h)
def IsRat(w:World)(v:Value)(q:Rat):Prop:=
 ∃s A l c t B m d,v= .agg #[.bool s, .slice A l c, .bool t, .slice B m d] /\ IsInt w (.agg #[.bool s, .slice A l c]) q.num /\ ∃y:Int,IsInt w (.agg #[.bool t, .slice B m d]) y /\ (y=q.den \/ (y=0 /\ q.den=1))
theorem IsRat.below{w w':World}{v:Value}{q:Rat}(h:IsRat w v q)(hb:Below w.heap.size w w'):IsRat w' v q:=by
 obtain⟨s,A,l,c,t,B,m,d,hv,h1,y,h2,h3⟩:=h;exact⟨s,A,l,c,t,B,m,d,hv,h1.below hb,y,h2.below hb,h3⟩
theorem IsRat.other{w w':World}{v:Value}{q:Rat}{g:Nat}{e:TypeId}{cs:List Value}(h:IsRat w v q)(hg:w.grownBy w' (some g))(hr:Row w g e cs)(he:e≠160):IsRat w' v q:=by
 obtain⟨s,A,l,c,t,B,m,d,hv,h1,y,h2,h3⟩:=h;exact⟨s,A,l,c,t,B,m,d,hv,h1.other hg hr he,y,h2.other hg hr he,h3⟩
theorem IsRat.shape{w:World}{v:Value}{q:Rat}(h:IsRat w v q):∃s A l c t B m d,v= .agg #[.bool s, .slice A l c, .bool t, .slice B m d]:=by
 obtain⟨s,A,l,c,t,B,m,d,hv,_⟩:=h;exact⟨s,A,l,c,t,B,m,d,hv⟩
theorem IsRat.parts{w:World}{s t:Bool}{A B:Option Addr}{l c m d:Nat}{q:Rat}(h:IsRat w (.agg #[.bool s, .slice A l c, .bool t, .slice B m d]) q):
  IsInt w (.agg #[.bool s, .slice A l c]) q.num /\ ∃y:Int,IsInt w (.agg #[.bool t, .slice B m d]) y /\ (y=q.den \/ (y=0 /\ q.den=1)):=by
 obtain⟨s',A',l',c',t',B',m',d',hv,h1,h2⟩:=h;simp only[Value.agg.injEq] at hv;obtain⟨⟨rfl⟩,⟨rfl,rfl,rfl⟩,⟨rfl⟩,⟨rfl,rfl,rfl⟩⟩:(s=s') /\ (A=A' /\ l=l' /\ c=c') /\ (t=t') /\ (B=B' /\ m=m' /\ d=d'):=by simpa using hv
 exact⟨h1,h2⟩
theorem IsRat.mk{w:World}{s t:Bool}{A B:Option Addr}{l c m d:Nat}{q:Rat}{x y:Int}(h1:IsInt w (.agg #[.bool s, .slice A l c]) x)(h2:IsInt w (.agg #[.bool t, .slice B m d]) y)(hx:x=q.num)(hy:y=q.den \/ (y=0 /\ q.den=1)):
  IsRat w (.agg #[.bool s, .slice A l c, .bool t, .slice B m d]) q:=⟨s,A,l,c,t,B,m,d,rfl,hx ▸ h1,y,h2,hy⟩
theorem IsInt.zero_(w:World):IsInt w (.agg #[.bool false, .slice none 0 0]) 0:=⟨none,0,by simp[digs_zero],by simp[digs_zero],by unfold maxLen;omega, .inl (by simp[digs_zero])⟩
theorem IsRat.zero_(w:World):IsRat w (.agg #[.bool false, .slice none 0 0, .bool false, .slice none 0 0]) 0:=IsRat.mk (IsInt.zero_ w) (IsInt.zero_ w) rfl (.inr ⟨rfl,rfl⟩)
open Lp (RL)
theorem res_store4{w w2:World}{rb:Nat}{e:TypeId}{x y z u:Value}{cs:List Value}{q:Rat}(r:Row w2 rb e cs)(he:e≠160)(hrb:w.heap.size <= rb)(hb2:Below w.heap.size w w2)(hi:IsRat w2 (.agg #[x,y,z,u]) q):
  IsRat ((((w2.setCell ⟨rb,0,none⟩ x).setCell ⟨rb,1,none⟩ y).setCell ⟨rb,2,none⟩ z).setCell ⟨rb,3,none⟩ u) (.agg #[x,y,z,u]) q /\
  Below w.heap.size w ((((w2.setCell ⟨rb,0,none⟩ x).setCell ⟨rb,1,none⟩ y).setCell ⟨rb,2,none⟩ z).setCell ⟨rb,3,none⟩ u):=
 ⟨hi.other (grownBy_set4 _ _ _ _ _ _ _ _ _ _) r he,(((hb2.setCell (p:=⟨rb,0,none⟩) hrb _).setCell (p:=⟨rb,1,none⟩) hrb _).setCell (p:=⟨rb,2,none⟩) hrb _).setCell (p:=⟨rb,3,none⟩) hrb _⟩
theorem res_store2{w w2:World}{rb:Nat}{e:TypeId}{x y:Value}{cs:List Value}{n:Int}(r:Row w2 rb e cs)(he:e≠160)(hrb:w.heap.size <= rb)(hb2:Below w.heap.size w w2)(hi:IsInt w2 (.agg #[x,y]) n):
  IsInt ((w2.setCell ⟨rb,0,none⟩ x).setCell ⟨rb,1,none⟩ y) (.agg #[x,y]) n /\ Below w.heap.size w ((w2.setCell ⟨rb,0,none⟩ x).setCell ⟨rb,1,none⟩ y):=
 ⟨hi.other (grownBy_set2 _ _ _ _ _ _) r he,(hb2.setCell (p:=⟨rb,0,none⟩) hrb _).setCell (p:=⟨rb,1,none⟩) hrb _⟩
def Lim(k:Nat)(a:Int):Prop:=a.natAbs<10^k
theorem Lim.mono{k m:Nat}{a:Int}(h:Lim k a)(hm:k <= m):Lim m a:=Nat.lt_of_lt_of_le h (Nat.pow_le_pow_right (by decide) hm)
theorem Lim.neg{k:Nat}{a:Int}(h:Lim k a):Lim k (-a):=by unfold Lim at*;rw[Int.natAbs_neg];exact h
theorem Lim.add{k:Nat}{a b:Int}(ha:Lim k a)(hb:Lim k b):Lim (k+1) (a+b):=by
 unfold Lim at*;rw[Nat.pow_succ];have:=Int.natAbs_add_le a b;omega
theorem Lim.mul{k m:Nat}{a b:Int}(ha:Lim k a)(hb:Lim m b):Lim (k+m) (a*b):=by
 unfold Lim at*;rw[Int.natAbs_mul,Nat.pow_add];exact Nat.mul_lt_mul'' ha hb
theorem Lim.digs{k:Nat}{a:Int}(h:Lim k a):(digs a.natAbs).length <= k:=
 digs_len_le (Nat.lt_of_lt_of_le h (Nat.pow_le_pow_left (by decide) k))
theorem Lim.l1{k:Nat}{a:Int}(h:Lim k a)(hk:k <= 8000000000000):(Go.Proofs.YtdefghfjhgmpfaaGreatDoor.digs a.natAbs).length<8796093022208:=by have:=h.digs;omega
theorem Lim.l2{k:Nat}{a:Int}(h:Lim k a)(hk:k <= 8000000000000):(Go.Proofs.YtdefghfjhgmpfaaGreatDoor.digs a.natAbs).length<8796093022200:=by have:=h.digs;omega
theorem Lp.RL.limn{k:Nat}{q:Rat}(h:RL k q):Lim k q.num:=h.1
theorem Lp.RL.limd{k:Nat}{q:Rat}(h:RL k q):Lim k (q.den:Int):=by unfold Lim;rw[Int.natAbs_natCast];exact h.2
theorem lim_one:Lim 1 1:=by unfold Lim;decide
theorem red_num(p d:Int)(hd:0<d):Int.fdiv p ((Nat.gcd p.natAbs d.natAbs:Nat):Int)=(Rat.divInt p d).num:=by
 rw[Rat.num_divInt,Int.sign_eq_one_of_pos hd,Int.one_mul];have e:d.gcd p=Nat.gcd p.natAbs d.natAbs:=by rw[Nat.gcd_comm];rfl
 rw[e,Int.fdiv_eq_ediv_of_nonneg _ (by omega)]
theorem red_den(p d:Int)(hd:0<d):Int.fdiv d ((Nat.gcd p.natAbs d.natAbs:Nat):Int)=((Rat.divInt p d).den:Int):=by
 rw[Rat.den_divInt,if_neg (by omega)];have e:d.gcd p=Nat.gcd p.natAbs d.natAbs:=by rw[Nat.gcd_comm];rfl
 rw[e,Int.fdiv_eq_ediv_of_nonneg _ (by omega)];have h2:d=((d.natAbs:Nat):Int):=by omega
 conv=>lhs;rw[h2]
 simp
theorem red_one(p d:Int)(hd:0<d)(h:Nat.gcd p.natAbs d.natAbs=1):p=(Rat.divInt p d).num /\ d=((Rat.divInt p d).den:Int):=by
 have h1:=red_num p d hd;have h2:=red_den p d hd;rw[h] at h1 h2;simp at h1 h2;exact⟨h1,h2⟩
theorem red_neg(p d:Int):Rat.divInt (-p) (-d)=Rat.divInt p d:=Rat.neg_divInt_neg p d
theorem gcd_pos'(p d:Int)(hd:0<d):0<Nat.gcd p.natAbs d.natAbs:=Nat.gcd_pos_of_pos_right _ (by omega)
theorem gcd_le'(p d:Int)(hd:0<d):Nat.gcd p.natAbs d.natAbs <= d.natAbs:=Nat.le_of_dvd (by omega) (Nat.gcd_dvd_right _ _)
theorem qadd(a b:Rat):Rat.divInt (a.num* (b.den:Int)+b.num* (a.den:Int)) ((a.den:Int)* (b.den:Int))=a+b:=by
 rw[Rat.add_def', <- Rat.divInt_ofNat];simp
theorem qmul(a b:Rat):Rat.divInt (a.num*b.num) ((a.den:Int)* (b.den:Int))=a*b:=by
 rw[Rat.mul_def', <- Rat.divInt_ofNat];simp
theorem qdiv(a b:Rat):Rat.divInt (a.num* (b.den:Int)) ((a.den:Int)*b.num)=a / b:=by
 conv=>rhs;rw[Rat.div_def, <- Rat.num_divInt_den a,Rat.inv_def,Rat.divInt_mul_divInt]
theorem qadd_whole{a b:Rat}(ha:a.den=1)(hb:b.den=1):(a+b).num=a.num+b.num /\ (a+b).den=1:=by
 have e1:a=((a.num:Int):Rat):=Rat.ext rfl ha;have e2:b=((b.num:Int):Rat):=Rat.ext rfl hb;have e:a+b=((a.num+b.num:Int):Rat):=by rw[Rat.intCast_add, <- e1, <- e2]
 rw[e];exact⟨rfl,rfl⟩
theorem qmul_whole{a b:Rat}(ha:a.den=1)(hb:b.den=1):(a*b).num=a.num*b.num /\ (a*b).den=1:=by
 have e1:a=((a.num:Int):Rat):=Rat.ext rfl ha;have e2:b=((b.num:Int):Rat):=Rat.ext rfl hb;have e:a*b=((a.num*b.num:Int):Rat):=by rw[Rat.intCast_mul, <- e1, <- e2]
 rw[e];exact⟨rfl,rfl⟩
def cmpQ(a b:Rat):Int:=if a<b then -1 else if a=b then 0 else 1
theorem cmpQ_cross(a b:Rat):(if a.num* (b.den:Int)<b.num* (a.den:Int) then(-1:Int) else if a.num* (b.den:Int)=b.num* (a.den:Int) then 0 else 1)=cmpQ a b:=by
 unfold cmpQ;simp only[Rat.lt_iff,Rat.eq_iff_mul_eq_mul]
theorem cmpQ_whole{a b:Rat}(ha:a.den=1)(hb:b.den=1):(if a.num<b.num then(-1:Int) else if a.num=b.num then 0 else 1)=cmpQ a b:=by
 rw[<- cmpQ_cross,ha,hb];simp
theorem Row.put4{w:World}{g:Nat}{e:TypeId}{p q r s x y z u:Value}(h:Row w g e [p,q,r,s]):Row ((((w.setCell ⟨g,0,none⟩ x).setCell ⟨g,1,none⟩ y).setCell ⟨g,2,none⟩ z).setCell ⟨g,3,none⟩ u) g e [x,y,z,u]:=
 (((h.set 0 x).set 1 y).set 2 z).set 3 u
theorem Row.other{w w':World}{g g':Nat}{e:TypeId}{cs:List Value}(h:Row w g e cs)(hg:w.grownBy w' (some g'))(hne:g≠g'):Row w' g e cs:=(hg.block g h.lt (by simp;exact hne)).trans h
theorem below_store2{B:Nat}{w w':World}(h:Below B w w'){g:Nat}(hg:B <= g)(x y:Value):Below B w ((w'.setCell ⟨g,0,none⟩ x).setCell ⟨g,1,none⟩ y):=(h.setCell (p:=⟨g,0,none⟩) hg _).setCell (p:=⟨g,1,none⟩) hg _
theorem below_store4{B:Nat}{w w':World}(h:Below B w w'){g:Nat}(hg:B <= g)(x y z u:Value):Below B w ((((w'.setCell ⟨g,0,none⟩ x).setCell ⟨g,1,none⟩ y).setCell ⟨g,2,none⟩ z).setCell ⟨g,3,none⟩ u):=((below_store2 h hg x y).setCell (p:=⟨g,2,none⟩) hg _).setCell (p:=⟨g,3,none⟩) hg _
section
variable {w:World} {n o:Nat} {a:Value}
theorem k4N(s:Nat)(h: w.cell? ⟨n,o,none⟩=some a)(hne:n≠s:=by omega):∀ (w'':World) (u0 u1 u2 u3:Value),Below w.heap.size w w'' -> ((((w''.setCell ⟨s,0,none⟩ u0).setCell ⟨s,1,none⟩ u1).setCell ⟨s,2,none⟩ u2).setCell ⟨s,3,none⟩ u3).cell? ⟨n,o,none⟩=some a:=fun _ _ _ _ _ hb=>(cfar4 _ s n o _ _ _ _ hne).trans (kN h _ hb)
theorem k4C(s:Nat){S:World -> Value -> Value -> Value -> Value -> Prop}(h: w.cell? ⟨n,o,none⟩=some a)(r:∀ (w'':World) (u0 u1 u2 u3:Value),Below w.heap.size w w'' -> S w'' u0 u1 u2 u3)(hne:n≠s:=by omega):∀ (w'':World) (u0 u1 u2 u3:Value),Below w.heap.size w w'' -> ((((w''.setCell ⟨s,0,none⟩ u0).setCell ⟨s,1,none⟩ u1).setCell ⟨s,2,none⟩ u2).setCell ⟨s,3,none⟩ u3).cell? ⟨n,o,none⟩=some a /\ S w'' u0 u1 u2 u3:=fun _ _ _ _ _ hb=>⟨k4N s h hne _ _ _ _ _ hb,r _ _ _ _ _ hb⟩
end
end Go.Proofs.YtdefghfjhgmpfaaGreatDoor
