/- Parts of this proof: Math Base Trim Signed Scale Dec. -/
import Derived.Test.YtdefghfjhgmpfaaGreatDoorProg
import Derived.WalkKit
import Derived.WalkLawsBesides
import Derived.WalkSpells
import Derived.Lib.Hide
import Derived.Handy
import Derived.BigQuiet
import Derived.Deep.QuietTactic
import Derived.Deep.RegionHeld3
import Derived.StillTailTactics
import Derived.Deep.RegionWith
import Derived.Deep.DeepCutAuto
import Derived.Deep.CutBlock
import Derived.Laws.OwnMore
import Derived.Lib.ItoaNum
import Derived.Lib.ItoaMem
import Derived.Lib.Repeat
import Derived.Lib.Join
namespace Go.Proofs.YtdefghfjhgmpfaaGreatDoor
open Tryz
section
def BB:Nat:=4294967296
theorem ik:BB=4294967296:=rfl
def dg(l:List Nat)(k:Nat):Nat:=l.getD k 0
theorem q9(k:Nat):dg [] k=0:=rfl
theorem nD(d:Nat)(l:List Nat):dg (d::l) 0=d:=rfl
theorem dg_succ(d:Nat)(l:List Nat)(k:Nat):dg (d::l) (k+1)=dg l k:=rfl
theorem jm{l:List Nat}{k:Nat}(h:l.length <= k):dg l k=0:=by
 unfold dg;rw[List.getD_eq_getElem?_getD,List.getElem?_eq_none h];rfl
theorem jG{l:List Nat}{k:Nat}(h:k<l.length):dg l k=l[k]:=by
 unfold dg;rw[List.getD_eq_getElem?_getD,List.getElem?_eq_getElem h];rfl
theorem nE(l:List Nat)(n k:Nat):dg (l.take n) k=if k<n then dg l k else 0:=by
 unfold dg;simp only[List.getD_eq_getElem?_getD,List.getElem?_take];split <;> rfl
theorem uu(l m:List Nat)(k:Nat):dg (l++m) k=if k<l.length then dg l k else dg m (k-l.length):=by
 unfold dg;simp only[List.getD_eq_getElem?_getD];split
 ·rw[List.getElem?_append_left (by assumption)]
 ·rw[List.getElem?_append_right (by omega)]
theorem iB(l:List Nat)(i x k:Nat):dg (l.set i x) k=if i=k /\ k<l.length then x else dg l k:=by
 unfold dg;simp only[List.getD_eq_getElem?_getD,List.getElem?_set];by_cases h:i=k
 ·subst h;by_cases t:i<l.length
  ·simp[t]
  ·simp[t]
 ·simp[h]
theorem nG(n x k:Nat):dg (List.replicate n x) k=if k<n then x else 0:=by
 unfold dg;simp only[List.getD_eq_getElem?_getD,List.getElem?_replicate];split <;> rfl
theorem oG{l m:List Nat}(E:l.length=m.length)(h:∀k,k<l.length -> dg l k=dg m k):l=m:=by
 apply List.ext_getElem E;intro i h1 t;have:=h i h1
 rwa [jG h1,jG t] at this
def Dig(l:List Nat):Prop:=∀k,dg l k<4294967296
theorem Dig.nil:Dig []:=fun k=>by rw[q9];omega
theorem Dig.take{l:List Nat}(h:Dig l)(n:Nat):Dig (l.take n):=fun k=>by rw[nE];split <;> first | exact h k | omega
theorem Dig.set{l:List Nat}(h:Dig l)(i x:Nat)(t:x<4294967296):Dig (l.set i x):=fun k=>by rw[iB];split <;> first | exact h k | exact t
theorem Dig.replicate(n:Nat):Dig (List.replicate n 0):=fun k=>by rw[nG];split <;> omega
theorem Dig.cons{d:Nat}{l:List Nat}(t:d<4294967296)(h:Dig l):Dig (d::l):=fun k=>by
 cases k with
 | zero=>exact t
 | succ k=>exact h k
theorem Dig.tail{d:Nat}{l:List Nat}(h:Dig (d::l)):Dig l:=fun k=>h (k+1)
theorem Dig.head{d:Nat}{l:List Nat}(h:Dig (d::l)):d<4294967296:=h 0
theorem Dig.append{l m:List Nat}(h:Dig l)(t:Dig m):Dig (l++m):=fun k=>by rw[uu];split;exact h k;exact t _
def val:List Nat -> Nat
 | []=>0
 | d::l=>d+BB*val l
theorem xe:val []=0:=rfl
theorem xg(d:Nat)(l:List Nat):val (d::l)=d+BB*val l:=rfl
theorem val_append(l m:List Nat):val (l++m)=val l+BB^l.length*val m:=by
 induction l with
 | nil=>simp[val]
 | cons d l h=>simp only[List.cons_append,val,h,List.length_cons,Nat.pow_succ];rw[Nat.mul_add, <- Nat.add_assoc];congr 1;rw[Nat.mul_comm (BB^l.length) BB,Nat.mul_assoc]
theorem uw(n:Nat):val (List.replicate n 0)=0:=by
 induction n with
 | zero=>rfl
 | succ n h=>simp[List.replicate_succ,val,h]
theorem jO{l:List Nat}(h:Dig l):val l<BB^l.length:=by
 induction l with
 | nil=>simp[val]
 | cons d l E=>
  have h1:=E h.tail;have F:=h.head;have t:BB*val l+BB <= BB*BB^l.length:=by rw[<- Nat.mul_succ];exact Nat.mul_le_mul_left _ h1
  simp only[val,List.length_cons,Nat.pow_succ,Nat.mul_comm (BB^l.length) BB];simp only[ik] at t ⊢;omega
theorem ib(l:List Nat)(k:Nat):val (l.take (k+1))=val (l.take k)+BB^k*dg l k:=by
 induction l generalizing k with
 | nil=>simp[val,q9]
 | cons d l h=>
  cases k with
  | zero=>simp[val,nD]
  | succ k=>simp only[List.take_succ_cons,val,h,dg_succ,Nat.pow_succ];rw[Nat.mul_add,Nat.mul_comm (BB^k) BB,Nat.mul_assoc];omega
theorem iF{l:List Nat}{k:Nat}(h:l.length <= k):val (l.take k)=val l:=by rw[List.take_of_length_le h]
theorem qa{l m:List Nat}(E:Dig l)(F:Dig m)(t:l.length=m.length)(h:val l=val m):l=m:=by
 induction l generalizing m with
 | nil=>cases m with
  | nil=>rfl
  | cons _ _=>simp at t
 | cons d l M=>cases m with
  | nil=>simp at t
  | cons e m=>
   have h1:=E.head;have O:=F.head;simp only[val,ik] at h;have G:d=e:=by omega
   have:val l=val m:=by omega
   rw[G,M E.tail F.tail (by simpa using t) this]
def Can(l:List Nat):Prop:=Dig l /\ (0<l.length -> dg l (l.length-1)≠0)
theorem lL{n:Nat}(h:0<n):n / BB<n:=Nat.div_lt_self h (by decide)
def ek(n:Nat):List Nat:=if _h:n=0 then [] else n%BB::ek (n / BB)
termination_by n
decreasing_by exact lL (by omega)
theorem gJ:ek 0= []:=by unfold ek;simp
theorem jP{n:Nat}(h:0<n):ek n=n%BB::ek (n / BB):=by rw[ek,dif_neg (by omega)]
theorem fu(n:Nat):val (ek n)=n:=by
 induction n using Nat.strongRecOn with
 | _ n t=>
  by_cases h:n=0
  ·subst h;rw[gJ];rfl
  ·rw[jP (by omega),val,t _ (lL (by omega))];exact Nat.mod_add_div n BB
theorem fF(n:Nat):Dig (ek n):=by
 induction n using Nat.strongRecOn with
 | _ n t=>
  by_cases h:n=0
  ·subst h;rw[gJ];exact Dig.nil
  ·rw[jP (by omega)];exact Dig.cons (Nat.mod_lt _ (by decide)) (t _ (lL (by omega)))
theorem jY(n:Nat):Can (ek n):=by
 refine⟨fF n,?_⟩
 induction n using Nat.strongRecOn with
 | _ n M=>
  by_cases h:n=0
  ·subst h;rw[gJ];intro h;simp at h
  ·rw[jP (by omega)];intro _;by_cases t:n / BB=0
   ·rw[t,gJ];simp only[List.length_cons,List.length_nil,Nat.zero_add,Nat.sub_self,nD];have:=Nat.mod_add_div n BB;rw[t] at this;simp only[Nat.mul_zero,Nat.add_zero] at this;omega
   ·have G:0<(ek (n / BB)).length:=by rw[jP (Nat.pos_of_ne_zero t)];simp
    have E:=M _ (lL (by omega)) G;obtain⟨m,F⟩:∃m,(ek (n / BB)).length=m+1:=⟨(ek (n / BB)).length-1,by omega⟩
    rw[F] at E;simp only[List.length_cons,F,Nat.add_sub_cancel,dg_succ] at E ⊢;exact E
theorem uy{d:Nat}{l:List Nat}(h:Can (d::l)):Can l:=by
 refine⟨h.1.tail,fun E=> ?_⟩;have:=h.2 (by simp);obtain⟨m,t⟩:∃m,l.length=m+1:=⟨l.length-1,by omega⟩
 simp only[List.length_cons,t,Nat.add_sub_cancel,dg_succ] at this ⊢;exact this
theorem oH{l:List Nat}(h:Can l)(t:0<l.length):BB^ (l.length-1) <= val l:=by
 induction l with
 | nil=>simp at t
 | cons d l E=>
  cases l with
  | nil=>
   have:=h.2 (by simp);simp only[List.length_cons,List.length_nil,Nat.zero_add,Nat.sub_self,nD] at this;simp[val];omega
  | cons e l=>
   have:=E (uy h) (by simp);simp only[List.length_cons,Nat.add_sub_cancel] at this ⊢;rw[val,Nat.pow_succ,Nat.mul_comm];have F:BB*BB^l.length <= BB*val (e::l):=Nat.mul_le_mul_left _ this;omega
theorem nH{l m:List Nat}(t:Can l)(E:Dig m)(h:val l <= val m):l.length <= m.length:=by
 rcases Nat.lt_or_ge m.length l.length with h1 | h1
 ·have F:=oH t (by omega);have G:=jO E;have M:BB^m.length <= BB^ (l.length-1):=Nat.pow_le_pow_right (by decide) (by omega);omega
 ·exact h1
theorem uz{l m:List Nat}(t:Can l)(E:Can m)(h:val l=val m):l=m:=
 qa t.1 E.1 (Nat.le_antisymm (nH t E.1 (by omega)) (nH E t.1 (by omega))) h
theorem uA{l:List Nat}(h:Can l):l=ek (val l):=uz h (jY _) (by rw[fu])
theorem jQ{n k:Nat}(h:n<BB^k):(ek n).length <= k:=by
 rcases Nat.lt_or_ge k (ek n).length with h1 | h1
 ·have t:=oH (jY n) (by omega);rw[fu] at t;have E:BB^k <= BB^ ((ek n).length-1):=Nat.pow_le_pow_right (by decide) (by omega);omega
 ·exact h1
theorem mI(n:Nat):n<BB^ (ek n).length:=by have:=jO (fF n);rwa [fu] at this
theorem iO{n m:Nat}(h:n <= m):(ek n).length <= (ek m).length:=jQ (Nat.lt_of_le_of_lt h (mI m))
theorem kK{n:Nat}:0<(ek n).length↔0<n:=by
 constructor
 ·intro h
  rcases Nat.eq_zero_or_pos n with h0 | h0
  ·subst h0;rw[gJ] at h;simp at h
  ·exact h0
 ·intro h;rw[jP h];simp
theorem oI{n:Nat}:(ek n).length=0↔n=0:=by
 have:= @kK n;omega
theorem uB{l:List Nat}{k:Nat}(F:Dig l)(G:k <= l.length)(T:∀j,k <= j -> j<l.length -> dg l j=0)(O:0<k -> dg l (k-1)≠0):l.take k=ek (val l):=by
 have M:(l.take k).length=k:=by rw[List.length_take];omega
 have E:Can (l.take k):=by
  refine⟨F.take k,fun h=> ?_⟩;rw[M] at h ⊢;rw[nE,if_pos (by omega)];exact O h
 have R:val (l.take k)=val l:=by
  have h1:∀i,k <= i -> val (l.take i)=val (l.take k):=by
   intro i X
   induction i with
   | zero=>
    have:k=0:=by omega
    subst this;rfl
   | succ i U=>
    by_cases h:k <= i
    ·rw[ib,U h];by_cases t:i<l.length
     ·rw[T i h t];simp
     ·rw[jm (by omega)];simp
    ·have:k=i+1:=by omega
     subst this;rfl
  have:=h1 l.length G
  rwa [List.take_of_length_le (Nat.le_refl _),eq_comm] at this
 rw[<- R];exact uA E
theorem qc{l:List Nat}(h:Dig l):(ek (val l)).length <= l.length /\ l.take (ek (val l)).length=ek (val l):=by
 have h1:(ek (val l)).length <= l.length:=jQ (jO h);refine⟨h1,?_⟩;have E:=fu (val l)
 have t:val l=val (l.take (ek (val l)).length)+BB^ (ek (val l)).length*val (l.drop (ek (val l)).length):=by
  have:=val_append (l.take (ek (val l)).length) (l.drop (ek (val l)).length);rw[List.take_append_drop,List.length_take,Nat.min_eq_left h1] at this;exact this
 have G:=mI (val l)
 have F:val (l.drop (ek (val l)).length)=0:=by
  rcases Nat.eq_zero_or_pos (val (l.drop (ek (val l)).length)) with h0 | h0
  ·exact h0
  ·have:=Nat.mul_le_mul_left (BB^ (ek (val l)).length) h0;omega
 rw[F,Nat.mul_zero,Nat.add_zero] at t;exact qa (h.take _) (fF _) (by rw[List.length_take];omega) (by rw[E];exact t.symm)
theorem kM(l:List Nat)(k x:Nat)(h:k<l.length):val ((l.set k x).take (k+1))=val (l.take k)+BB^k*x:=by
 rw[ib,iB,if_pos ⟨rfl,h⟩];congr 2;apply List.ext_getElem?;intro j;rw[List.getElem?_take,List.getElem?_take,List.getElem?_set];split
 ·rw[if_neg (by omega)]
 ·rfl
theorem jZ(P s:Nat):P* (s%4294967296)+P*BB* (s / 4294967296)=P*s:=by
 rw[Nat.mul_assoc, <- Nat.mul_add,ik,Nat.mod_add_div]
theorem uC{lo t E:List Nat}{k c s:Nat}(F:k<lo.length)(h:val (lo.take k)+BB^k*c=val (t.take k)+val (E.take k))(G:s=c+dg t k+dg E k):
  val ((lo.set k (s%4294967296)).take (k+1))+BB^ (k+1)* (s / 4294967296)=val (t.take (k+1))+val (E.take (k+1)):=by
 rw[kM _ _ _ F,ib,ib,Nat.pow_succ];have:=jZ (BB^k) s;have e:BB^k*s=BB^k*c+BB^k*dg t k+BB^k*dg E k:=by rw[G,Nat.mul_add,Nat.mul_add]
 omega
theorem uD{lo t lb:List Nat}{k c c' x:Nat}(E:k<lo.length)(h:val (t.take k)+BB^k*c=val (lo.take k)+val (lb.take k))(F:dg t k+4294967296*c'=x+c+dg lb k):
  val (t.take (k+1))+BB^ (k+1)*c'=val ((lo.set k x).take (k+1))+val (lb.take (k+1)):=by
 rw[kM _ _ _ E,ib,ib,Nat.pow_succ];have e:BB^k* (dg t k+4294967296*c')=BB^k* (x+c+dg lb k):=by rw[F]
 rw[Nat.mul_add,Nat.mul_add,Nat.mul_add, <- Nat.mul_assoc] at e;simp only[<- ik] at e;omega
theorem uE{lo t lb:List Nat}{c:Nat}(E:Dig lo)(G:val lb <= val t)(F:c <= 1)(h:val t+BB^lo.length*c=val lo+val lb):val lo=val t-val lb:=by
 have h1:=jO E
 rcases(show c=0 \/ c=1 by omega) with rfl | rfl <;> omega
theorem xh{lo l:List Nat}{k c b p s:Nat}(t:k<lo.length)(h:val (lo.take k)+BB^k*c=b*val (l.take k)+p)(E:s=c+dg l k*b):
  val ((lo.set k (s%4294967296)).take (k+1))+BB^ (k+1)* (s / 4294967296)=b*val (l.take (k+1))+p:=by
 rw[kM _ _ _ t,ib,Nat.pow_succ];have:=jZ (BB^k) s;have e:BB^k*s=BB^k*c+b* (BB^k*dg l k):=by rw[E,Nat.mul_add,Nat.mul_comm (dg l k) b,Nat.mul_left_comm]
 rw[Nat.mul_add];omega
theorem kP(l:List Nat)(k:Nat)(h:k<l.length):val (l.drop k)=dg l k+BB*val (l.drop (k+1)):=by
 rw[List.drop_eq_getElem_cons h,val,jG h]
theorem oJ(l:List Nat)(k x:Nat)(h:k<l.length):val ((l.set k x).drop k)=x+BB*val (l.drop (k+1)):=by
 rw[kP _ _ (by rw[List.length_set];exact h),iB,if_pos ⟨rfl,h⟩];congr 3;rw[List.drop_set];simp
theorem Dn{lo l:List Nat}{k r b:Nat}(t:k<l.length)(E:k<lo.length)(h:val (l.drop (k+1))=b*val (lo.drop (k+1))+r):
  val (l.drop k)=b*val ((lo.set k ((r*4294967296+dg l k) / b)).drop k)+ (r*4294967296+dg l k)%b:=by
 rw[kP _ _ t,oJ _ _ _ E,h];have:=Nat.div_add_mod (r*4294967296+dg l k) b;simp only[<- ik] at this ⊢;rw[Nat.mul_add,Nat.mul_add,Nat.mul_left_comm b BB];rw[Nat.mul_comm r BB] at this ⊢;omega
theorem Dp{r b d:Nat}(h:r<b)(t:d<4294967296):(r*4294967296+d) / b<4294967296:=by
 refine Nat.div_lt_of_lt_mul ?_;have:(r+1)*4294967296 <= b*4294967296:=Nat.mul_le_mul_right _ h;omega
def fM(a b:Nat):Int:=if a<b then -1 else if a=b then 0 else 1
theorem qd{l m:List Nat}(t:Dig l)(E:Can m)(h:l.length<m.length):val l<val m:=by
 rcases Nat.lt_or_ge (val l) (val m) with h1 | h1
 ·exact h1
 ·have:=nH E t h1;omega
theorem uF{l m:List Nat}(t:l.length=m.length)(h:∀j,j<l.length -> dg l j=dg m j):val l=val m:=by rw[oG t h]
theorem qg{l m:List Nat}{k:Nat}(M:Dig l)(T:l.length=m.length)(R:k<l.length)(h:∀j,k<j -> j<l.length -> dg l j=dg m j)(Y:dg l k<dg m k):val l<val m:=by
 have G:l.drop (k+1)=m.drop (k+1):=by
  apply oG
  ·rw[List.length_drop,List.length_drop,T]
  ·intro j O;rw[List.length_drop] at O;have:=h (k+1+j) (by omega) (by omega);unfold dg at this ⊢
   simpa [List.getD_eq_getElem?_getD,List.getElem?_drop] using this
 have U:val l=val (l.take k)+BB^k*val (l.drop k):=by
  have:=val_append (l.take k) (l.drop k)
  rwa [List.take_append_drop,List.length_take,Nat.min_eq_left (by omega)] at this
 have X:val m=val (m.take k)+BB^k*val (m.drop k):=by
  have:=val_append (m.take k) (m.drop k)
  rwa [List.take_append_drop,List.length_take,Nat.min_eq_left (by omega)] at this
 have t:val (l.drop k)+1 <= val (m.drop k):=by
  rw[kP l _ R,kP m _ (by omega),G];omega
 have E:=jO (M.take k);rw[List.length_take,Nat.min_eq_left (by omega)] at E;have F:BB^k* (val (l.drop k)+1) <= BB^k*val (m.drop k):=Nat.mul_le_mul_left _ t;rw[Nat.mul_add] at F;omega
theorem xk{y d:Nat}(E:y<32):d*2^y%4294967296%2^y=0 /\ d*2^y%4294967296+2^y <= 4294967296:=by
 have e:(4294967296:Nat)=2^ (32-y)*2^y:=by rw[<- Nat.pow_add,show 32-y+y=32 by omega]
 have h1:d*2^y%4294967296=d%2^ (32-y)*2^y:=by rw[e,Nat.mul_mod_mul_right]
 rw[h1];refine⟨Nat.mul_mod_left _ _,?_⟩;have t:d%2^ (32-y)<2^ (32-y):=Nat.mod_lt _ (Nat.two_pow_pos _);have h:(d%2^ (32-y)+1)*2^y <= 2^ (32-y)*2^y:=Nat.mul_le_mul_right _ t;rw[<- e,Nat.add_mul,Nat.one_mul] at h;exact h
theorem Dq{lo l:List Nat}{k y s:Nat}(E:k+1<lo.length)(F:s=dg l k*2^y)(h:val (lo.take k)+BB^k*dg lo k=2^y*val (l.take k)):
  val (((lo.set k (dg lo k+s%4294967296)).set (k+1) (s / 4294967296)).take (k+1))+BB^ (k+1)*dg ((lo.set k (dg lo k+s%4294967296)).set (k+1) (s / 4294967296)) (k+1)=2^y*val (l.take (k+1)):=by
 rw[iB,if_pos ⟨rfl,by rw[List.length_set];exact E⟩]
 have t:((lo.set k (dg lo k+s%4294967296)).set (k+1) (s / 4294967296)).take (k+1)=(lo.set k (dg lo k+s%4294967296)).take (k+1):=by
  rw[List.take_set,List.set_eq_of_length_le];rw[List.length_take];omega
 rw[t,kM _ _ _ (by omega),ib,Nat.mul_add,Nat.mul_add,Nat.pow_succ];have:=jZ (BB^k) s;have G:BB^k*s=2^y* (BB^k*dg l k):=by rw[F,Nat.mul_comm (dg l k),Nat.mul_left_comm]
 omega
theorem oK(l:List Nat)(i x:Nat)(h:i<l.length):val (l.set i x)+BB^i*dg l i=val l+BB^i*x:=by
 have t:val (l.set i x)=val (l.take i)+BB^i*val ((l.set i x).drop i):=by
  have:=val_append ((l.set i x).take i) ((l.set i x).drop i);rw[List.take_append_drop,List.length_take,List.length_set,Nat.min_eq_left (by omega)] at this;rw[this,List.take_set,List.set_eq_of_length_le];rw[List.length_take];omega
 have E:val l=val (l.take i)+BB^i*val (l.drop i):=by
  have:=val_append (l.take i) (l.drop i)
  rwa [List.take_append_drop,List.length_take,Nat.min_eq_left (by omega)] at this
 rw[t,E,oJ _ _ _ h,kP _ _ h,Nat.mul_add,Nat.mul_add];omega
theorem uG{lo lb:List Nat}{i j c x s V:Nat}(t:i+j<lo.length)(h:val lo+BB^ (i+j)*c=V+BB^i* (x*val (lb.take j)))(E:s=c+ (x*dg lb j+dg lo (i+j))):
  val (lo.set (i+j) (s%4294967296))+BB^ (i+ (j+1))* (s / 4294967296)=V+BB^i* (x*val (lb.take (j+1))):=by
 have h1:=oK lo (i+j) (s%4294967296) t;have F:=jZ (BB^ (i+j)) s
 have e:BB^ (i+j)*s=BB^ (i+j)*c+ (BB^i* (x* (BB^j*dg lb j))+BB^ (i+j)*dg lo (i+j)):=by
  rw[E,Nat.mul_add,Nat.mul_add,Nat.pow_add];congr 2;rw[Nat.mul_assoc,Nat.mul_left_comm (BB^j) x]
 rw[ib,Nat.mul_add,Nat.mul_add, <- Nat.add_assoc i j 1,Nat.pow_succ];omega
theorem xn{lo lb t:List Nat}{i c V:Nat}(F:i+lb.length<lo.length)(G:dg lo (i+lb.length)=0)(h:val lo+BB^ (i+lb.length)*c=V+BB^i* (dg t i*val (lb.take lb.length)))(E:V=val (t.take i)*val lb):
  val (lo.set (i+lb.length) c)=val (t.take (i+1))*val lb:=by
 have h1:=oK lo (i+lb.length) c F;rw[G,Nat.mul_zero,Nat.add_zero] at h1;rw[h1,h,E,iF (Nat.le_refl _),ib,Nat.add_mul,Nat.mul_assoc]
theorem Dr{Q R a b:Nat}(h:Q*R=4294967296)(E:0<Q):b*4294967296 / Q%4294967296=R* (b%Q) /\ a / Q+R* (b%Q)=a / Q+b*4294967296 / Q%4294967296:=by
 have h1:b*4294967296 / Q=b*R:=by rw[<- h,Nat.mul_left_comm,Nat.mul_div_cancel_left _ E]
 have t:b*R%4294967296=R* (b%Q):=by rw[<- h,Nat.mul_mod_mul_right,Nat.mul_comm]
 rw[h1,t];exact⟨rfl,rfl⟩
theorem xq{Q R a b:Nat}(h:Q*R=4294967296)(F:0<Q)(G:a<4294967296):a / Q<R /\ a / Q+R* (b%Q)<4294967296:=by
 have h1:a / Q<R:=Nat.div_lt_of_lt_mul (by rw[h];exact G);have t:b%Q<Q:=Nat.mod_lt _ F;have E:R* (b%Q+1) <= R*Q:=Nat.mul_le_mul_left _ t;rw[Nat.mul_comm R Q,h,Nat.mul_add] at E;exact⟨h1,by omega⟩
theorem xu{lo l:List Nat}{k Q R b0:Nat}(G:k<lo.length)(F:Q*R=4294967296)(h:Q*val (lo.take k)+b0=val (l.take k)+BB^k* (dg l k%Q)):
  Q*val ((lo.set k (dg l k / Q+R* (dg l (k+1)%Q))).take (k+1))+b0=val (l.take (k+1))+BB^ (k+1)* (dg l (k+1)%Q):=by
 rw[kM _ _ _ G,ib,Nat.pow_succ,Nat.mul_add]
 have t:Q* (BB^k* (dg l k / Q+R* (dg l (k+1)%Q)))=BB^k* (Q* (dg l k / Q))+BB^k* (BB* (dg l (k+1)%Q)):=by
  rw[Nat.mul_left_comm,Nat.mul_add,Nat.mul_add, <- Nat.mul_assoc Q R,F, <- ik]
 have E:BB^k*dg l k=BB^k* (Q* (dg l k / Q))+BB^k* (dg l k%Q):=by rw[<- Nat.mul_add,Nat.div_add_mod]
 rw[t,E,Nat.mul_assoc];omega
theorem Dt{lo l:List Nat}{Q:Nat}(E:lo.length=l.length)(t:0<Q)(h:Q*val (lo.take l.length)+dg l 0%Q=val (l.take l.length)+BB^l.length* (dg l l.length%Q)):val lo=val l / Q:=by
 rw[iF (by omega),iF (Nat.le_refl _),jm (Nat.le_refl _),Nat.zero_mod,Nat.mul_zero,Nat.add_zero] at h;rw[<- h,Nat.mul_add_div t,Nat.div_eq_of_lt (Nat.mod_lt _ t),Nat.add_zero]
end
section
open Go.RowKit
def xw:Value -> Nat
 | .slice _ n _=>n
 | _=>0
theorem Du(A:Option Addr)(n c:Nat):xw (.slice A n c)=n:=rfl
def BT(w:World)(b:Nat)(v:Value):Prop:=∃cs e fr,w.heap[b]? =some (.cells cs e fr) /\ ∀z,v= .int .u32 z -> e=160
theorem BT.mJ{w w':World}{b:Nat}{v:Value}(h:BT w b v)(e:w'.heap[b]? =w.heap[b]?):BT w' b v:=by
 obtain⟨cs,t,E,h1,F⟩:=h;exact⟨cs,t,E,e.trans h1,F⟩
def Cells(w:World)(A:Option Addr)(n:Nat)(f:Nat -> Value):Prop:=
 n=0 \/ ∃b off,A=some ⟨b,off,none⟩ /\ (∀j,j<n -> w.cell? ⟨b,off+j,none⟩=some (f j)) /\ BT w b (f 0)
theorem Cells.at_{w:World}{A:Option Addr}{n:Nat}{f:Nat -> Value}(h:Cells w A n f)(G:0<n):
  ∃b t,A=some ⟨b,t,none⟩ /\ b<w.heap.size /\ ∀j,j<n -> w.cell? ⟨b,t+j,none⟩=some (f j):=by
 rcases h with h | ⟨b,t,F,E,_⟩
 ·omega
 ·exact⟨b,t,F,World.block_lt_of_cell? w _ (E 0 G),E⟩
theorem Cells.below{w w':World}{A:Option Addr}{n:Nat}{f:Nat -> Value}(h:Cells w A n f)(t:Below w.heap.size w w'):Cells w' A n f:=by
 rcases h with h | ⟨b,O,M,E,G⟩
 ·exact .inl h
 ·refine .inr ⟨b,O,M,fun j F=>(t.cell (World.block_lt_of_cell? w _ (E j F))).trans (E j F),G.mJ (t.block b ?_)⟩;obtain⟨_,_,_,h1,_⟩:=G;exact(Array.getElem?_eq_some_iff.1 h1).1
theorem Cells.take{w:World}{A:Option Addr}{n m:Nat}{f:Nat -> Value}(h:Cells w A n f)(O:m <= n):Cells w A m f:=by
 rcases h with h | ⟨b,G,t,E,F⟩
 ·exact .inl (by omega)
 ·exact .inr ⟨b,G,t,fun j M=>E j (by omega),F⟩
theorem Cells.congr{w:World}{A:Option Addr}{n:Nat}{f g:Nat -> Value}(h:Cells w A n f)(t:∀j,j<n -> f j=g j):Cells w A n g:=by
 rcases h with h | ⟨b,O,F,G,M⟩
 ·exact .inl h
 ·rcases Nat.eq_zero_or_pos n with h0 | h0
  ·exact .inl h0
  ·exact .inr ⟨b,O,F,fun j E=>(G j E).trans (by rw[t j E]),by rw[<- t 0 h0];exact M⟩
def U32(w:World)(A:Option Addr)(l:List Nat):Prop:=Cells w A l.length (fun j=> .int .u32 (dg l j:Nat))
theorem U32.trimmed{w:World}{A:Option Addr}{l:List Nat}(h:U32 w A l)(E:Dig l):U32 w A (ek (val l)):=by
 obtain⟨h1,t⟩:=qc E;refine(Cells.take h h1).congr fun j F=> ?_
 rw[<- t,nE,if_pos F]
theorem U32.below{w w':World}{A:Option Addr}{l:List Nat}(h:U32 w A l)(t:Below w.heap.size w w'):U32 w' A l:=Cells.below h t
def oL(w:World)(v:Value)(l:List Nat):Prop:=∃A c,v= .slice A l.length c /\ l.length <= c /\ c <= maxLen /\ U32 w A l /\ Dig l
theorem oL.below{w w':World}{v:Value}{l:List Nat}(h:oL w v l)(t:Below w.heap.size w w'):oL w' v l:=by
 obtain⟨A,c,O,G,E,M,F⟩:=h;exact⟨A,c,O,G,E,Cells.below M t,F⟩
def Row(w:World)(g:Nat)(e:TypeId)(cs:List Value):Prop:=w.heap[g]? =some (.cells cs.toArray e (0,0))
section
variable {w w':World} {g:Nat} {e:TypeId} {cs:List Value}
theorem Row.lt(h:Row w g e cs):g<w.heap.size:=(Array.getElem?_eq_some_iff.1 h).1
theorem Row.cell(h:Row w g e cs)(j:Nat): w.cell? ⟨g,j,none⟩=cs[j]? :=by
 rw[cell_of_row w g j _ _ (0,0) h];simp
theorem Row.free(h:Row w g e cs)(j:Nat): w.frozen? ⟨g,j,none⟩=false:=frozen_of_row w g j _ _ h
theorem Row.set(h:Row w g e cs)(j:Nat)(v:Value):Row (w.setCell ⟨g,j,none⟩ v) g e (cs.set j v):=by
 unfold Row;rw[heap_setCell_same w g j _ _ _ h];simp
theorem Row.at_(h:Row w g e cs)(j:Nat){v:Value}(t:cs[j]? =some v): w.cell? ⟨g,j,none⟩=some v:=by rw[h.cell,t]
theorem Row.below(h:Row w g e cs){B:Nat}(t:Below B w w')(E:g<B):Row w' g e cs:=(t.block g E).trans h
theorem Row.made{base n:Nat}{z:Value}(h:w.ownsRow base e 1 (.slice (some ⟨g,0,none⟩) n n) n (madeCells #[z] n).toList):Row w g e (List.replicate n z):=by
 rcases h.2 with ⟨t,_⟩ | ⟨g',cap,E,t,_,G,_,_,M,O⟩
 ·simp at t
 ·simp only[Value.slice.injEq,Option.some.injEq,Addr.mk.injEq,and_true,true_and] at t;obtain⟨rfl,rfl⟩:=t;unfold Row;rw[G]
  have F:E.toList=List.replicate n z:=by
   rw[<- toList_madeCells_one z n, <- O,List.take_of_length_le];rw[Array.length_toList,M];omega
  rw[<- F]
end
theorem eP(w:World)(o:Obj):(w.alloc o).heap[w.heap.size]? =some o:=heap_alloc_new w o
theorem nI(w:World)(o t:Obj)(k:Nat)(h:w.heap[k]? =some t):(w.alloc o).heap[k]? =some t:=by
 rw[Below.heap_alloc w o k (Array.getElem?_eq_some_iff.1 h).1];exact h
theorem size_alloc(w:World)(o:Obj):(w.alloc o).heap.size=w.heap.size+1:=by simp
theorem iV(w:World)(h:Obj):(w.alloc h).heap[w.heap.size]? =some h /\ (w.alloc h).heap.size=w.heap.size+1 /\ Below w.heap.size w (w.alloc h):=
 ⟨eP _ _,size_alloc _ _,(Below.refl _ _).alloc (Nat.le_refl _) _⟩
theorem rA(w:World)(h t:Obj):((w.alloc h).alloc t).heap[w.heap.size]? =some h /\ ((w.alloc h).alloc t).heap[w.heap.size+1]? =some t /\ ((w.alloc h).alloc t).heap.size=w.heap.size+2 /\ Below w.heap.size w ((w.alloc h).alloc t):=
 ⟨nI _ _ _ _ (eP _ _),by rw[<- size_alloc w h];exact eP _ _,by rw[size_alloc,size_alloc],by go_grown⟩
theorem kQ(w:World)(h t E:Obj):(((w.alloc h).alloc t).alloc E).heap[w.heap.size]? =some h /\ (((w.alloc h).alloc t).alloc E).heap[w.heap.size+1]? =some t /\ (((w.alloc h).alloc t).alloc E).heap[w.heap.size+2]? =some E /\
  (((w.alloc h).alloc t).alloc E).heap.size=w.heap.size+3 /\ Below w.heap.size w (((w.alloc h).alloc t).alloc E):=
 ⟨nI _ _ _ _ (nI _ _ _ _ (eP _ _)),nI _ _ _ _ (by rw[<- size_alloc w h];exact eP _ _),by rw[show w.heap.size+2=((w.alloc h).alloc t).heap.size by rw[size_alloc,size_alloc]];exact eP _ _,
  by rw[size_alloc,size_alloc,size_alloc],by go_grown⟩
theorem lM{P:Program}(w:World){ops:Array Oper}{rest:List Oper}{o:Oper}{a:Act}{Q:Exit -> Act -> World -> Prop}
  (Y:o.guard=none) (l c:Operand) (t:TypeId) (a0:o.op=Op.makeSlice t l c)
  (e:TypeId) (i:TypeInfo) (z:Value) (h1:P.underlying t=some (.slice e)) (G: P.info? e=some i) (M:i.zero=some z) (O:i.size=1) (hz:z.cells= #[z])
  (L C:Int) (n:Nat) (hl:a.eval l= .int .i64 L) (X:a.eval c= .int .i64 C) (U:L=(n:Int)) (R:C=(n:Int)) (b2:i.bytes*n <= 281474976710656)
  (F:n <= maxLen)
  (T:∀w',Row w' w.heap.size e (List.replicate n z) -> Below w.heap.size w w' -> w.heap.size<w'.heap.size -> wpList P ops Q rest (a.put o.dst (.slice (some ⟨w.heap.size,0,none⟩) n n)) w'):
  wpList P ops Q (o::rest) a w:=by
 refine wpList_make_full w Y l c t a0 w.heap.size e i z 1 h1 G M O .i64 .i64 L C n hl X U R b2 F (Nat.le_refl _) ?_;intro w' h Z;rw[hz,Nat.mul_one] at h;have E:=Row.made h;exact T w' E ((Below.refl _ _).grown Z (Nat.le_refl _) (by simp)) E.lt
def fI(w:World)(g:Nat)(l:List Nat):Prop:=Row w g 160 (l.map (fun d=>Value.int .u32 (d:Nat)))
section
variable {w w':World} {g:Nat} {l:List Nat}
theorem fI.lt(h:fI w g l):g<w.heap.size:=Row.lt h
theorem fI.cell(h:fI w g l){j:Nat}(t:j<l.length): w.cell? ⟨g,j,none⟩=some (.int .u32 (dg l j:Nat)):=by
 rw[Row.cell h,jG t];simp[t]
theorem fI.free(h:fI w g l)(j:Nat): w.frozen? ⟨g,j,none⟩=false:=Row.free h j
theorem fI.set(h:fI w g l)(j x:Nat){v:Value}(t:v= .int .u32 (x:Nat)):fI (w.setCell ⟨g,j,none⟩ v) g (l.set j x):=by
 subst t;have:=Row.set h j (.int .u32 (x:Nat));unfold fI
 rwa [List.map_set]
theorem fI.u32(h:fI w g l):U32 w (some ⟨g,0,none⟩) l:=by
 rcases Nat.eq_zero_or_pos l.length with h0 | h0
 ·exact .inl h0
 ·exact .inr ⟨g,0,rfl,fun j t=>by rw[Nat.zero_add];exact h.cell t,_,_,_,h,fun _ _=>rfl⟩
theorem fI.below(h:fI w g l){B:Nat}(t:Below B w w')(E:g<B):fI w' g l:=Row.below h t E
theorem fI.made{n:Nat}(h:Row w g 160 (List.replicate n (Value.int .u32 0))):fI w g (List.replicate n 0):=by
 unfold fI
 rwa [List.map_replicate]
end
theorem mK:(prog.info? 160).map (fun i=>(i.zero,i.size,i.bytes))=some (some (.int .u32 0),1,4):=by kernel_rfl
theorem fw{B:Nat}{w w':World}(t:Below B w w'):(∀b o,b<B -> w'.cell? ⟨b,o,none⟩= w.cell? ⟨b,o,none⟩) /\ (∀b o,b<B -> w'.frozen? ⟨b,o,none⟩= w.frozen? ⟨b,o,none⟩):=
 ⟨fun b o h=>t.cell (p:=⟨b,o,none⟩) h,fun b o h=>t.frozen (p:=⟨b,o,none⟩) h⟩
theorem xx(i a b:Nat)(E:a%2^i=0)(h:b<2^i):a ||| b=a+b:=by
 have t:a=2^i* (a / 2^i):=by
  have:=Nat.div_add_mod a (2^i);omega
 rw[t, <- Nat.two_pow_add_eq_or_of_lt h (a / 2^i)]
theorem Dv(i a b:Nat)(h:a%2^i=0)(t:b<2^i)(E:a+b<18446744073709551616):bits .or .u64 (a:Int) (b:Int)=((a+b:Nat):Int):=by
 rw[u64_or_nat a b (by omega) (by omega),xx i a b h t]
theorem xy(i a b:Nat)(h:a%2^i=0)(t:b<2^i)(E:a+b<4294967296):bits .or .u32 (a:Int) (b:Int)=((a+b:Nat):Int):=by
 rw[u32_or_nat a b (by omega) (by omega),xx i a b h t]
theorem xz(k:IntKind)(x y:Int):bits .or k x y=bits .or k y x:=by simp only[bits,BitVec.or_comm]
theorem uH(r d:Nat)(t:r<4294967296)(h:d<4294967296):bits .or .u64 ((r:Int)*4294967296) (d:Int)=((r*4294967296+d:Nat):Int):=by
 have:=Dv 32 (r*4294967296) d (by omega) (by omega) (by omega);rw[<- this];simp
theorem Cells.kept{w w':World}{A:Option Addr}{n g:Nat}{e:TypeId}{f:Nat -> Value}{cs:List Value}(h:Cells w A n f)(G:w.grownBy w' (some g))(U:Row w g e cs)(T:∀j,∀v ∈ cs,f j≠v):Cells w' A n f:=by
 rcases h with h | ⟨b,X,O,E,M⟩
 ·exact .inl h
 ·rcases Nat.eq_zero_or_pos n with h0 | h0
  ·exact .inl h0
  have t:b≠g:=by
   intro t;subst t;have F:=E 0 h0;rw[U.cell] at F;exact absurd rfl (T 0 _ (List.mem_of_getElem? F))
  refine .inr ⟨b,X,O,fun j R=>G.cell (E j R) (by simp;exact t),M.mJ (G.block b ?_ (by simp;exact t))⟩;obtain⟨_,_,_,h1,_⟩:=M;exact(Array.getElem?_eq_some_iff.1 h1).1
theorem Cells.grownBy'{w w':World}{b t n g:Nat}{f:Nat -> Value}(h:Cells w (some ⟨b,t,none⟩) n f)(F:w.grownBy w' (some g))(G:b≠g):Cells w' (some ⟨b,t,none⟩) n f:=by
 rcases h with h | ⟨b',T,E,O,M⟩
 ·exact .inl h
 ·simp only[Option.some.injEq,Addr.mk.injEq,and_true] at E;obtain⟨rfl,rfl⟩:=E;refine .inr ⟨b,t,rfl,fun j R=>F.cell (O j R) (by simp;exact G),M.mJ (F.block b ?_ (by simp;exact G))⟩;obtain⟨_,_,_,h1,_⟩:=M;exact(Array.getElem?_eq_some_iff.1 h1).1
theorem U32.kept{w w':World}{A:Option Addr}{l:List Nat}{g:Nat}{e:TypeId}{cs:List Value}(h:U32 w A l)(E:w.grownBy w' (some g))(G:Row w g e cs)(F:∀v ∈ cs,∀n:Int,v≠ .int .u32 n):U32 w' A l:=
 Cells.kept h E G (fun _ v M t=>F v M _ t.symm)
theorem grownBy_set(w:World)(g i:Nat)(v:Value):w.grownBy (w.setCell ⟨g,i,none⟩ v) (some g):=
 ⟨rfl,rfl,rfl,by simp,fun k _ h=>heap_setCell_other w ⟨g,i,none⟩ k v (fun e=>h (by simp[e]))⟩
theorem grownBy_trans{w w' w'':World}{r:Option Nat}(h:w.grownBy w' r)(t:w'.grownBy w'' r):w.grownBy w'' r:=
 ⟨t.os.trans h.os,t.tape.trans h.tape,t.output.trans h.output,Nat.le_trans h.size t.size,fun k E F=>(t.block k (Nat.lt_of_lt_of_le E h.size) F).trans (h.block k E F)⟩
theorem je(w:World)(g i j:Nat)(v u:Value):w.grownBy ((w.setCell ⟨g,i,none⟩ v).setCell ⟨g,j,none⟩ u) (some g):=grownBy_trans (grownBy_set _ _ _ _) (grownBy_set _ _ _ _)
theorem cell_far(w:World)(g i b o:Nat)(v:Value)(h:b≠g):(w.setCell ⟨g,i,none⟩ v).cell? ⟨b,o,none⟩= w.cell? ⟨b,o,none⟩:=
 World.cell?_setCell_other w ⟨g,i,none⟩ ⟨b,o,none⟩ v (fun e=>h (congrArg Addr.block e).symm)
theorem iP(w:World)(g i j b o:Nat)(v u:Value)(h:b≠g):((w.setCell ⟨g,i,none⟩ v).setCell ⟨g,j,none⟩ u).cell? ⟨b,o,none⟩= w.cell? ⟨b,o,none⟩:=
 (cell_far _ g j b o u h).trans (cell_far w g i b o v h)
def gy(w w':World):Prop:=∃n,w'=w.drewN n
theorem gy.refl(w:World):gy w w:=⟨0,rfl⟩
theorem gy.mk(w:World)(n:Nat):gy w (w.drewN n):=⟨n,rfl⟩
theorem below_drewN(B:Nat)(w:World)(n:Nat):Below B w (w.drewN n):=⟨rfl,rfl,rfl,Nat.le_refl _,fun _ _=>rfl⟩
theorem gy.step{w w':World}(h:gy w w')(n:Nat):gy w (w'.drewN n):=by
 obtain⟨m,rfl⟩:=h;exact⟨m+n,by simp[World.drewN];try omega⟩
theorem gy.below{w w':World}(h:gy w w')(B:Nat):Below B w w':=by obtain⟨n,rfl⟩:=h;exact below_drewN B w n
theorem lH{p:Prop}(h:p):Hid p:=Lib.hid h
theorem eX{α:Sort _}(x:α):∃y,y=x:=⟨x,rfl⟩
theorem bT{w w' w'':World}(H:Hid (Below w.heap.size w w'))(h:Below w'.heap.size w' w''):Hid (Below w.heap.size w w''):=lH (H.out.trans (h.mono H.out.size))
theorem rW{w w':World}{g:Nat}{e:TypeId}{cs:List Value}(R:Hid (Row w g e cs))(h:Below w.heap.size w w'):Hid (Row w' g e cs):=lH (R.out.below h R.out.lt)
theorem bN(w:World)(o:Obj):Below w.heap.size w (w.alloc o):=(iV w o).2.2
theorem bD{w w' w'':World}(h:Below w'.heap.size w' w'')(t:Below w.heap.size w w':=by first | exact Below.refl _ _ | exact(Below.refl _ _).drew | exact below_drewN _ _ _ | exact bN _ _):Below w.heap.size w w'':=t.trans (h.mono t.size)
theorem kA{w w':World}{S:World -> Prop}(K:∀w',Below w.heap.size w w' -> S w')(h:Below w.heap.size w w':=by first | exact(Below.refl _ _).drew.trans (bN _ _) | exact bN _ _ | exact(bN _ _).drew):S w':=K _ h
theorem hN(w:World)(cs:List Value)(t:TypeId):Hid (Row (w.alloc (.cells cs.toArray t)) w.heap.size t cs):=lH (eP _ _)
theorem eN1(w:World)(a:List Value)(t:TypeId):∃W,W=w.alloc (.cells a.toArray t) /\ Hid (Row W w.heap.size t a) /\ Hid (Below w.heap.size w W):=by
  obtain⟨r0,_,h⟩:=iV w (.cells a.toArray t)
  exact⟨_,rfl,lH r0,lH h⟩
theorem eN2(w:World)(a:List Value)(t:TypeId)(b:List Value)(u:TypeId):∃W,W=(w.alloc (.cells a.toArray t)).alloc (.cells b.toArray u) /\ Hid (Row W w.heap.size t a) /\ Hid (Row W (w.heap.size+1) u b) /\ Hid (Below w.heap.size w W):=by
  obtain⟨r0,E,_,h⟩:=rA w (.cells a.toArray t) (.cells b.toArray u)
  exact⟨_,rfl,lH r0,lH E,lH h⟩
theorem eN3(w:World)(a:List Value)(t:TypeId)(b:List Value)(u:TypeId)(c:List Value)(v:TypeId):∃W,W=((w.alloc (.cells a.toArray t)).alloc (.cells b.toArray u)).alloc (.cells c.toArray v) /\ Hid (Row W w.heap.size t a) /\ Hid (Row W (w.heap.size+1) u b) /\ Hid (Row W (w.heap.size+1+1) v c) /\ Hid (Below w.heap.size w W):=by
  obtain⟨r0,E,F,_,h⟩:=kQ w (.cells a.toArray t) (.cells b.toArray u) (.cells c.toArray v)
  exact⟨_,rfl,lH r0,lH E,lH F,lH h⟩
section
variable {w:World} {g:Nat} {e:TypeId} {a b c d x y z u:Value}
theorem aT2{l:List Value}(h:Row w g e (a::b::l)): w.cell? ⟨g,0,none⟩=some a /\ w.cell? ⟨g,1,none⟩=some b:=⟨h.at_ 0 rfl,h.at_ 1 rfl⟩
theorem aT3{l:List Value}(h:Row w g e (a::b::c::l)): w.cell? ⟨g,0,none⟩=some a /\ w.cell? ⟨g,1,none⟩=some b /\ w.cell? ⟨g,2,none⟩=some c:=⟨h.at_ 0 rfl,h.at_ 1 rfl,h.at_ 2 rfl⟩
theorem aT4{l:List Value}(h:Row w g e (a::b::c::d::l)): w.cell? ⟨g,0,none⟩=some a /\ w.cell? ⟨g,1,none⟩=some b /\ w.cell? ⟨g,2,none⟩=some c /\ w.cell? ⟨g,3,none⟩=some d:=⟨h.at_ 0 rfl,h.at_ 1 rfl,h.at_ 2 rfl,h.at_ 3 rfl⟩
theorem aT5{l:List Value}(h:Row w g e (a::b::c::d::x::l)): w.cell? ⟨g,0,none⟩=some a /\ w.cell? ⟨g,1,none⟩=some b /\ w.cell? ⟨g,2,none⟩=some c /\ w.cell? ⟨g,3,none⟩=some d /\ w.cell? ⟨g,4,none⟩=some x:=⟨h.at_ 0 rfl,h.at_ 1 rfl,h.at_ 2 rfl,h.at_ 3 rfl,h.at_ 4 rfl⟩
theorem aT8{l:List Value}(h:Row w g e (a::b::c::d::x::y::z::u::l)): w.cell? ⟨g,0,none⟩=some a /\ w.cell? ⟨g,1,none⟩=some b /\ w.cell? ⟨g,2,none⟩=some c /\ w.cell? ⟨g,3,none⟩=some d /\ w.cell? ⟨g,4,none⟩=some x /\ w.cell? ⟨g,5,none⟩=some y /\ w.cell? ⟨g,6,none⟩=some z /\ w.cell? ⟨g,7,none⟩=some u:=⟨h.at_ 0 rfl,h.at_ 1 rfl,h.at_ 2 rfl,h.at_ 3 rfl,h.at_ 4 rfl,h.at_ 5 rfl,h.at_ 6 rfl,h.at_ 7 rfl⟩
theorem aF2{l:List Value}(h:Row w g e (a::b::l)): w.cell? ⟨g,0,none⟩=some a /\ w.frozen? ⟨g,0,none⟩=false /\ w.cell? ⟨g,1,none⟩=some b /\ w.frozen? ⟨g,1,none⟩=false:=⟨h.at_ 0 rfl,h.free 0,h.at_ 1 rfl,h.free 1⟩
theorem aF3{l:List Value}(h:Row w g e (a::b::c::l)): w.cell? ⟨g,0,none⟩=some a /\ w.frozen? ⟨g,0,none⟩=false /\ w.cell? ⟨g,1,none⟩=some b /\ w.frozen? ⟨g,1,none⟩=false /\ w.cell? ⟨g,2,none⟩=some c /\ w.frozen? ⟨g,2,none⟩=false:=⟨h.at_ 0 rfl,h.free 0,h.at_ 1 rfl,h.free 1,h.at_ 2 rfl,h.free 2⟩
theorem aF4{l:List Value}(h:Row w g e (a::b::c::d::l)): w.cell? ⟨g,0,none⟩=some a /\ w.frozen? ⟨g,0,none⟩=false /\ w.cell? ⟨g,1,none⟩=some b /\ w.frozen? ⟨g,1,none⟩=false /\ w.cell? ⟨g,2,none⟩=some c /\ w.frozen? ⟨g,2,none⟩=false /\ w.cell? ⟨g,3,none⟩=some d /\ w.frozen? ⟨g,3,none⟩=false:=⟨h.at_ 0 rfl,h.free 0,h.at_ 1 rfl,h.free 1,h.at_ 2 rfl,h.free 2,h.at_ 3 rfl,h.free 3⟩
theorem aF5{l:List Value}(h:Row w g e (a::b::c::d::x::l)): w.cell? ⟨g,0,none⟩=some a /\ w.frozen? ⟨g,0,none⟩=false /\ w.cell? ⟨g,1,none⟩=some b /\ w.frozen? ⟨g,1,none⟩=false /\ w.cell? ⟨g,2,none⟩=some c /\ w.frozen? ⟨g,2,none⟩=false /\ w.cell? ⟨g,3,none⟩=some d /\ w.frozen? ⟨g,3,none⟩=false /\ w.cell? ⟨g,4,none⟩=some x /\ w.frozen? ⟨g,4,none⟩=false:=⟨h.at_ 0 rfl,h.free 0,h.at_ 1 rfl,h.free 1,h.at_ 2 rfl,h.free 2,h.at_ 3 rfl,h.free 3,h.at_ 4 rfl,h.free 4⟩
theorem aF8{l:List Value}(h:Row w g e (a::b::c::d::x::y::z::u::l)): w.cell? ⟨g,0,none⟩=some a /\ w.frozen? ⟨g,0,none⟩=false /\ w.cell? ⟨g,1,none⟩=some b /\ w.frozen? ⟨g,1,none⟩=false /\ w.cell? ⟨g,2,none⟩=some c /\ w.frozen? ⟨g,2,none⟩=false /\ w.cell? ⟨g,3,none⟩=some d /\ w.frozen? ⟨g,3,none⟩=false /\ w.cell? ⟨g,4,none⟩=some x /\ w.frozen? ⟨g,4,none⟩=false /\ w.cell? ⟨g,5,none⟩=some y /\ w.frozen? ⟨g,5,none⟩=false /\ w.cell? ⟨g,6,none⟩=some z /\ w.frozen? ⟨g,6,none⟩=false /\ w.cell? ⟨g,7,none⟩=some u /\ w.frozen? ⟨g,7,none⟩=false:=⟨h.at_ 0 rfl,h.free 0,h.at_ 1 rfl,h.free 1,h.at_ 2 rfl,h.free 2,h.at_ 3 rfl,h.free 3,h.at_ 4 rfl,h.free 4,h.at_ 5 rfl,h.free 5,h.at_ 6 rfl,h.free 6,h.at_ 7 rfl,h.free 7⟩
variable {n o:Nat} {S:World -> Prop}
theorem kN(h: w.cell? ⟨n,o,none⟩=some a):∀w',Below w.heap.size w w' -> w'.cell? ⟨n,o,none⟩=some a:=fun _ t=>(t.cell (World.block_lt_of_cell? w _ h)).trans h
theorem kC(h: w.cell? ⟨n,o,none⟩=some a)(r:∀w',Below w.heap.size w w' -> S w'):∀w',Below w.heap.size w w' -> w'.cell? ⟨n,o,none⟩=some a /\ S w':=fun _ t=>⟨kN h _ t,r _ t⟩
end
theorem aI(i:Nat){w:World}{g:Nat}{e:TypeId}{cs:List Value}{v:Value}(R:Hid (Row w g e cs))(h:cs[i]? =some v:=by rfl): w.cell? ⟨g,i,none⟩=some v:=R.out.at_ i h
theorem rG(w:World):Hid (Below w.heap.size w w):=lH (Below.refl _ _)
theorem mZ{p:Prop}(h:p:=by first | (simp[intOf];done) | (simp[intOf];omega)):p:=h
theorem _root_.Go.RowKit.Hid.o{p:Prop}(h:Hid p):p:=h
theorem oM{p:Prop}(h:p:=by omega):p:=h
theorem dC{p:Prop}(h:p:=by decide):p:=h
theorem kR{p:Prop}(h:p:=by kernel_rfl):p:=h
end
section
open Go.RowKit
theorem mM(A:Option Addr)(n c:Nat)(l:List Nat)(w:World)(hn:n=l.length)(hc:n <= c)(hm:c <= maxLen)(h:U32 w A l)(Z:Dig l):
  Calls prog 156 #[.slice A n c] w fun e w'=>e= .returned (.slice A (ek (val l)).length c) /\ (ek (val l)).length <= l.length /\ w=w':=by
 unfold maxLen at hm;subst hn;obtain⟨M,O⟩:∃M:Nat -> Prop,∀k,M k↔(k <= l.length /\ (∀j,k <= j -> j<l.length -> dg l j=0) /\ (0<k -> dg l (k-1)≠0)):=⟨_,fun _=>Iff.rfl⟩
 have a0:Calls prog 156 #[.slice A l.length c] w fun e w'=>(∃k,M k /\ e= .returned (.slice A k c)) /\ w=w':=by
  have R:=lH O;clear O;go_enter func156,ntmps156
  go_wp2
  go_loop [0] (fun v=>∃k,k <= l.length /\ v= .slice A k c /\ (∀j,k <= j -> j<l.length -> dg l j=0)) (fun v=>xw v)
  case atStart=>exact⟨l.length,Nat.le_refl _,rfl,fun j h1 E=>absurd h1 oM⟩
  case round=>
   obtain⟨k,F,rfl,U⟩:=hrel;have G:=lH U;clear U;by_cases h0:0<k
   ·obtain⟨b,a2,rfl,hb,T⟩:=Cells.at_ h oM;have a1:=T (k-1) oM;have H:=lH h;clear T h
    go_wp2
    ·have t:(((dg l (k-1):Nat):Int)==0)=true:=by assumption
     have X:dg l (k-1)=0:=by simpa using t
     go_round
     case rel=>
      refine⟨k-1,by omega,rfl,fun j h1 E=> ?_⟩;by_cases hj:j=k-1
      ·rw[hj];exact X
      ·exact G.o j oM E
     case measure=>simp only[Du];omega
    ·have t:(((dg l (k-1):Nat):Int)==0)=false:=by assumption
     go_ret
     exact⟨⟨k,(R.o k).2 ⟨F,G.o,fun _ h=>by rw[h] at t;simp at t⟩,rfl⟩,rfl⟩
   ·obtain rfl:k=0:=oM
    go_wp2
    go_ret
    exact⟨⟨0,(R.o 0).2 ⟨F,G.o,fun h=>absurd h oM⟩,rfl⟩,rfl⟩
 refine a0.mono ?_;rintro e w' ⟨⟨k,F,he⟩,hw⟩;obtain⟨h1,E,Y⟩:=(O k).1 F;have ht:=uB Z h1 E Y;have hl:(ek (val l)).length=k:=by rw[<- ht,List.length_take];omega
 exact⟨by rw[hl];exact he,by omega,hw⟩
end
section
open Go.RowKit
def iQ(w:World)(v:Value)(n:Nat):Prop:=
 ∃A c,v= .slice A (ek n).length c /\ (ek n).length <= c /\ c <= maxLen /\ U32 w A (ek n)
def eQ(w:World)(v:Value)(n:Int):Prop:=
 ∃A c,v= .agg #[.bool (decide (n<0)), .slice A (ek n.natAbs).length c] /\ (ek n.natAbs).length <= c /\ c <= maxLen /\ U32 w A (ek n.natAbs)
theorem iQ.below{w w':World}{v:Value}{n:Nat}(h:iQ w v n)(t:Below w.heap.size w w'):iQ w' v n:=by
 obtain⟨A,c,M,F,E,G⟩:=h;exact⟨A,c,M,F,E,Cells.below G t⟩
theorem eQ.below{w w':World}{v:Value}{n:Int}(h:eQ w v n)(t:Below w.heap.size w w'):eQ w' v n:=by
 obtain⟨A,c,M,F,E,G⟩:=h;exact⟨A,c,M,F,E,Cells.below G t⟩
theorem iQ.uI{w:World}{v:Value}{n:Nat}(h:iQ w v n):oL w v (ek n):=by
 obtain⟨A,c,G,E,t,F⟩:=h;exact⟨A,c,G,E,t,F,fF n⟩
theorem eQ.shape{w:World}{v:Value}{n:Int}(h:eQ w v n):∃s A l c,v= .agg #[.bool s, .slice A l c]:=by
 obtain⟨A,c,t,_⟩:=h;exact⟨_,_,_,_,t⟩
theorem rC{w W h:World}{rb:Nat}{x y p q:Value}{n:Int}(E:Below w.heap.size w W)(r:Row h rb 103 [p,q])(U:∀n:Int,p≠ .int .u32 n)(X:∀n:Int,q≠ .int .u32 n)(F:w.heap.size <= rb)(O:Below W.heap.size W h)(T:eQ h (.agg #[x,y]) n):
  eQ ((h.setCell ⟨rb,0,none⟩ x).setCell ⟨rb,1,none⟩ y) (.agg #[x,y]) n /\ Below w.heap.size w ((h.setCell ⟨rb,0,none⟩ x).setCell ⟨rb,1,none⟩ y):=by
 obtain⟨A,c,t,h1,G,M⟩:=T;refine⟨⟨A,c,t,h1,G,M.kept (je _ _ _ _ _ _) r ?_⟩,?_⟩
 ·intro v t n;simp only[List.mem_cons,List.not_mem_nil,or_false] at t
  rcases t with rfl | rfl
  ·exact U n
  ·exact X n
 ·have R:Below w.heap.size w h:=E.trans (O.mono E.size);exact(R.setCell (p:=⟨rb,0,none⟩) F _).setCell (p:=⟨rb,1,none⟩) F _
def sgn(neg:Bool)(n:Nat):Int:=if neg then -(n:Int) else n
theorem oN(neg:Bool)(n:Nat):(sgn neg n).natAbs=n:=by unfold sgn;split <;> omega
theorem Dw(neg:Bool)(n:Nat):decide (sgn neg n<0)=(neg && decide (0<n)):=by
 unfold sgn;cases neg <;> simp <;> omega
theorem Dx(x y:Int):sgn (decide (x<0) !=decide (y<0)) (x.natAbs*y.natAbs)=x*y:=by
 obtain⟨a,rfl | rfl⟩:=Int.eq_nat_or_neg x <;> obtain⟨b,rfl | rfl⟩:=Int.eq_nat_or_neg y <;>
  rcases Nat.eq_zero_or_pos a with h | h <;> rcases Nat.eq_zero_or_pos b with t | t <;> simp[sgn,h,t,Int.natAbs_neg,Int.mul_neg,Int.neg_mul] <;> omega
theorem lN(neg:Bool)(v:Value)(l:List Nat)(w:World)(h:oL w v l):
  Calls prog 140 #[.bool neg,v] w fun e w'=>∃v',e= .returned v' /\ eQ w' v' (sgn neg (val l)) /\ Below w.heap.size w w':=by
 obtain⟨A,c,rfl,R,G,E,M⟩:=h;have O:=lH E;have F:=U32.below E ((Below.refl _ w).alloc (Nat.le_refl _) (.cells #[.bool false, .slice none 0 0] 103));have H:=lH F;have t:=lH M;clear E F M
 have T:Calls prog 140 #[.bool neg, .slice A l.length c] w fun e w'=>e= .returned (.agg #[.bool (neg && decide (0<(ek (val l)).length)), .slice A (ek (val l)).length c]) /\
   w'=w.alloc (.cells #[.bool (neg && decide (0<(ek (val l)).length)), .slice A (ek (val l)).length c] 103):=by
  cases neg
  all_goals
   go_enter func140,ntmps140;go_wp2_with fail
   refine(mM A _ c l _ rfl R G H.o t.o).mono ?_;rintro e U ⟨rfl,h1,rfl⟩;go_wp2_with fail
   go_returns;exact⟨by simp,by simp⟩
 refine T.mono ?_;rintro e w' ⟨rfl,rfl⟩;refine⟨_,rfl,⟨A,c,?_,?_,G,?_⟩,by go_grown⟩
 ·rw[oN,Dw];simp only[kK]
 ·rw[oN];have:=(qc t.o).1;omega
 ·rw[oN];exact(O.o.trimmed t.o).below (by go_grown)
end
section
open Go.RowKit
theorem Dy(A:Option Addr)(ca h E:Nat)(l:List Nat)(w:World)(ha:U32 w A l)(a8:Dig l)(an:l.length<17592186044416)(a0:h<4294967296)(ac:E<4294967296):
  Calls prog 177 #[.slice A l.length ca, .int .u32 (h:Nat), .int .u32 (E:Nat)] w fun e w'=>∃v,e= .returned v /\ iQ w' v (h*val l+E) /\ Below w.heap.size w w':=by
 obtain⟨i0,aa,ae,af,ag⟩:=info_parts mK;have ak:((h:Nat):Int)<4294967296:=oM
 have ad:((E:Nat):Int)<4294967296:=oM
 have ai:=lH a0;clear a0 ac;go_enter func177,ntmps177
 go_wp2_with (at_make;refine lM _ rfl (.tmp 13) (.tmp 13) 101 rfl 160 i0 (.int .u32 0) underlying101 aa ae af rfl _ _ _ rfl rfl rfl rfl ?_ ?_ ?_)
 ·first | omega | (rw[ag];omega)
 ·unfold maxLen;omega
 intro w1 t a6 aq;have hr:=fI.made t;clear t;have HR:=lH hr;clear hr;go_wp2_with fail
 go_loopw [8,19] (fun cv X wr=>∃ (k c:Nat) (lo:List Nat),k <= l.length /\ cv= .int .u64 c /\ X= .int .i64 k /\ fI wr w.heap.size lo /\ lo.length=l.length+1 /\ Dig lo /\ ((c:Nat):Int)<4294967296 /\ Hid (val (lo.take k)+BB^k*c=h*val (l.take k)+E) /\ Below w.heap.size w wr)
  (fun _ X _=>l.length-(intOf X).toNat)
 case atStart=>exact⟨0,E,_,Nat.zero_le _,rfl,rfl,HR.o,List.length_replicate,Dig.replicate _,ad,by show _=_;simp[val],a6⟩
 case round=>
  obtain⟨k,c,lo,hk,rfl,rfl,t,R,a3,al,a4,G⟩:=hrel;have Y:=lH a3;clear a3;by_cases ab:k<l.length
  ·obtain⟨b,ah,rfl,a7,a1⟩:=Cells.at_ ha oM;have a2:=a1 k ab;have aj:((dg l k:Nat):Int)<4294967296:=by have:=a8 k;omega
   have T:((dg l k*h:Nat):Int) <= 18446744065119617025:=by
    have:=Nat.mul_le_mul (show dg l k <= 4294967295 by omega) (show h <= 4294967295 by omega);omega
   have ap:((dg l k:Nat):Int)* (h:Nat) <= 18446744065119617025:=by rw[<- Int.natCast_mul];exact T
   have ao:0 <= ((dg l k:Nat):Int)* (h:Nat):=by rw[<- Int.natCast_mul];omega
   have hg:=t.cell (j:=k) oM;have a9:=t.free k;have am:=((fw G).1 b (ah+k) a7).trans a2;have HM:=lH T;clear a1 a2 T;go_wp2_with fail
   go_roundw
   case rel=>
    refine⟨k+1,(c+dg l k*h) / 4294967296,lo.set k ((c+dg l k*h)%4294967296),by omega,by simp,by simp,t.set k _ (by simp),by rw[List.length_set];exact R,Y.o.set _ _ (Nat.mod_lt _ oM),?_,xh oM a4 rfl,G.setCell (Nat.le_refl _) _⟩;have:=HM.o;omega
   case measure=>simp[intOf];omega
  ·obtain rfl:k=l.length:=oM
   have a9:=t.free l.length;have hg:=t.cell (j:=l.length) oM;go_wp2_with fail
   have U:=t.set l.length c rfl;have O:(lo.set l.length c).length=l.length+1:=by rw[List.length_set];exact R
   have M:Dig (lo.set l.length c):=Y.o.set _ _ oM;have h1:=kM lo l.length c oM;rw[<- O,iF (Nat.le_refl _),a4.o,iF (Nat.le_refl _)] at h1;have Z:=G.setCell (p:=⟨w.heap.size,l.length,none⟩) (Nat.le_refl _) (Value.int .u32 (c:Nat));refine(mM _ _ _ _ _ O.symm (Nat.le_refl _) (show l.length+1 <= maxLen by unfold maxLen;omega) U.u32 M).mono ?_;rintro e w2 ⟨rfl,a5,rfl⟩;have F:=lH h1;have HT:=lH (U.u32.trimmed M);have HB:=lH Z;clear h1 U M O Z;go_wp2_with fail
   go_returns;refine⟨_,rfl,⟨_,l.length+1,by rw[<- F.o];rfl,?_,by unfold maxLen;omega,?_⟩,HB.o⟩
   ·rw[<- F.o];rw[List.length_set,R] at a5;exact a5
   ·rw[<- F.o];exact HT.o
end
section
open Go.Lib
theorem xA(q d:Nat)(t:0<q)(h:d<10):decDigits (q*10+d)=decDigits q++ [UInt8.ofNat (48+d)]:=by
 rw[decDigits,dif_neg (by omega),show(q*10+d) / 10=q by omega,show(q*10+d)%10=d by omega]
def jR:Nat -> Nat -> List UInt8
 | 0,_=>[]
 | k+1,r=>jR k (r / 10)++ [UInt8.ofNat (48+r%10)]
theorem xB(k r:Nat):(jR k r).length=k:=by
 induction k generalizing r with
 | zero=>rfl
 | succ k h=>simp[jR,h]
theorem Dz(k:Nat):∀ (q r:Nat),0<q -> r<10^k -> decDigits (q*10^k+r)=decDigits q++jR k r:=by
 induction k with
 | zero=>intro q r _ h;rw[Nat.pow_zero] at h;rw[show r=0 by omega];simp[jR]
 | succ k E=>
  intro q r t h;rw[Nat.pow_succ] at h
  have e:q*10^ (k+1)+r=(q*10^k+r / 10)*10+r%10:=by
   rw[Nat.pow_succ,Nat.add_mul,Nat.mul_assoc];omega
  have F:0<q*10^k:=Nat.mul_pos t (Nat.pow_pos (by decide));rw[e,xA _ _ (by omega) (Nat.mod_lt _ (by decide)),E q (r / 10) t (by omega),jR,List.append_assoc]
theorem DC(k:Nat)(b:UInt8):repeatL [b] k++ [b]=b::repeatL [b] k:=by
 induction k with
 | zero=>rfl
 | succ k h=>rw[repeatL,List.append_assoc,h];rfl
theorem DD(k:Nat):jR k 0=repeatL [48] k:=by
 induction k with
 | zero=>rfl
 | succ k h=>
  show jR k (0 / 10)++ [UInt8.ofNat (48+0%10)]=_;rw[Nat.zero_div,h];show repeatL [48] k++ [48]= [48]++repeatL [48] k;rw[DC];rfl
theorem nJ(k:Nat):∀r,r<10^ (k+1) -> (decDigits r).length <= k+1:=by
 induction k with
 | zero=>intro r t;rw[decDigits_one (by simpa using t)];simp
 | succ k E=>
  intro r t;by_cases h:r<10
  ·rw[decDigits_one h];simp
  ·rw[decDigits,dif_neg h,List.length_append];rw[Nat.pow_succ] at t;have:=E (r / 10) (by omega);simp;omega
theorem DF(k:Nat):∀r,r<10^ (k+1) -> repeatL [48] (k+1-(decDigits r).length)++decDigits r=jR (k+1) r:=by
 induction k with
 | zero=>intro r t;rw[decDigits_one (by simpa using t)];simp[jR,repeatL];congr 1;omega
 | succ k E=>
  intro r t;by_cases h:r<10
  ·rw[decDigits_one h,jR,show r / 10=0 by omega,DD,show r%10=r by omega];rfl
  ·rw[Nat.pow_succ] at t;have h1:=E (r / 10) (by omega);rw[jR, <- h1,decDigits,dif_neg h,List.length_append,List.append_assoc];have F:=nJ k (r / 10) (by omega);rw[show k+1+1-((decDigits (r / 10)).length+ [UInt8.ofNat (48+r%10)].length)=k+1-(decDigits (r / 10)).length by simp]
theorem DI(xs:List (List UInt8)):join xs []=xs.flatten:=by
 unfold join
 induction xs with
 | nil=>rfl
 | cons x xs h=>
  rcases xs with _ | ⟨y,t⟩
  ·simp[List.intercalate]
  ·rw[List.flatten_cons, <- h];simp[List.intercalate,List.intersperse]
def ahead(m:Nat):List UInt8:=if m=0 then [] else decDigits m
def jA(m:Nat):List UInt8:=if m / 1000000000=0 then decDigits (m%1000000000) else jR 9 (m%1000000000)
theorem xC{m:Nat}(E:0<m):ahead m=ahead (m / 1000000000)++jA m:=by
 unfold ahead jA;rw[if_neg (by omega)];have t:=Nat.div_add_mod m 1000000000;by_cases h:m / 1000000000=0
 ·rw[if_pos h,if_pos h];rw[h] at t;rw[List.nil_append];congr 1;omega
 ·rw[if_neg h,if_neg h];have:=Dz 9 (m / 1000000000) (m%1000000000) (by omega) (Nat.mod_lt _ (by decide));rw[<- this];congr 1;show m=m / 1000000000*1000000000+m%1000000000;omega
end
end Go.Proofs.YtdefghfjhgmpfaaGreatDoor
