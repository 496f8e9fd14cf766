/- Parts of this proof: Math Base Trim Signed Scale Dec. -/
import Derived.Test.YtokagbahdkfagaaGreatDoorProg
import Derived.WalkKit
import Derived.WalkLawsBesides
import Derived.WalkSpells
import Derived.Lib.Hide
import Derived.Handy
import Derived.BigQuiet
import Derived.Deep.QuietTactic
import Derived.Deep.RegionHeld3
import Derived.StillTailTactics
import Derived.Deep.RegionWith
import Derived.Deep.DeepCutAuto
import Derived.Deep.CutBlock
import Derived.Laws.OwnMore
import Derived.Lib.ItoaNum
import Derived.Lib.ItoaMem
import Derived.Lib.Repeat
import Derived.Lib.Join
namespace Go.Proofs.YtokagbahdkfagaaGreatDoor
open Tryz
section
def BB:Nat:=4294967296
theorem iy:BB=4294967296:=rfl
def dg(l:List Nat)(k:Nat):Nat:=l.getD k 0
theorem oI(k:Nat):dg [] k=0:=rfl
theorem mW(d:Nat)(l:List Nat):dg (d::l) 0=d:=rfl
theorem dg_succ(d:Nat)(l:List Nat)(k:Nat):dg (d::l) (k+1)=dg l k:=rfl
theorem mo{l:List Nat}{k:Nat}(h:l.length <= k):dg l k=0:=by
 unfold dg;rw[List.getD_eq_getElem?_getD,List.getElem?_eq_none h];rfl
theorem kU{l:List Nat}{k:Nat}(h:k<l.length):dg l k=l[k]:=by
 unfold dg;rw[List.getD_eq_getElem?_getD,List.getElem?_eq_getElem h];rfl
theorem mX(l:List Nat)(n k:Nat):dg (l.take n) k=if k<n then dg l k else 0:=by
 unfold dg;simp only[List.getD_eq_getElem?_getD,List.getElem?_take];split <;> rfl
theorem rY(l m:List Nat)(k:Nat):dg (l++m) k=if k<l.length then dg l k else dg m (k-l.length):=by
 unfold dg;simp only[List.getD_eq_getElem?_getD];split
 ·rw[List.getElem?_append_left (by assumption)]
 ·rw[List.getElem?_append_right (by omega)]
theorem iM(l:List Nat)(i x k:Nat):dg (l.set i x) k=if i=k /\ k<l.length then x else dg l k:=by
 unfold dg;simp only[List.getD_eq_getElem?_getD,List.getElem?_set];by_cases h:i=k
 ·subst h;by_cases r:i<l.length
  ·simp[r]
  ·simp[r]
 ·simp[h]
theorem nT(n x k:Nat):dg (List.replicate n x) k=if k<n then x else 0:=by
 unfold dg;simp only[List.getD_eq_getElem?_getD,List.getElem?_replicate];split <;> rfl
theorem oJ{l m:List Nat}(t:l.length=m.length)(h:∀k,k<l.length -> dg l k=dg m k):l=m:=by
 apply List.ext_getElem t;intro i h1 r;have:=h i h1
 rwa [kU h1,kU r] at this
def Dig(l:List Nat):Prop:=∀k,dg l k<4294967296
theorem Dig.nil:Dig []:=fun k=>by rw[oI];omega
theorem Dig.take{l:List Nat}(h:Dig l)(n:Nat):Dig (l.take n):=fun k=>by rw[mX];split <;> first | exact h k | omega
theorem Dig.set{l:List Nat}(h:Dig l)(i x:Nat)(r:x<4294967296):Dig (l.set i x):=fun k=>by rw[iM];split <;> first | exact h k | exact r
theorem Dig.replicate(n:Nat):Dig (List.replicate n 0):=fun k=>by rw[nT];split <;> omega
theorem Dig.cons{d:Nat}{l:List Nat}(r:d<4294967296)(h:Dig l):Dig (d::l):=fun k=>by
 cases k with
 | zero=>exact r
 | succ k=>exact h k
theorem Dig.tail{d:Nat}{l:List Nat}(h:Dig (d::l)):Dig l:=fun k=>h (k+1)
theorem Dig.head{d:Nat}{l:List Nat}(h:Dig (d::l)):d<4294967296:=h 0
theorem Dig.append{l m:List Nat}(h:Dig l)(r:Dig m):Dig (l++m):=fun k=>by rw[rY];split;exact h k;exact r _
def val:List Nat -> Nat
 | []=>0
 | d::l=>d+BB*val l
theorem vw:val []=0:=rfl
theorem vB(d:Nat)(l:List Nat):val (d::l)=d+BB*val l:=rfl
theorem val_append(l m:List Nat):val (l++m)=val l+BB^l.length*val m:=by
 induction l with
 | nil=>simp[val]
 | cons d l h=>simp only[List.cons_append,val,h,List.length_cons,Nat.pow_succ];rw[Nat.mul_add, <- Nat.add_assoc];congr 1;rw[Nat.mul_comm (BB^l.length) BB,Nat.mul_assoc]
theorem vC(n:Nat):val (List.replicate n 0)=0:=by
 induction n with
 | zero=>rfl
 | succ n h=>simp[List.replicate_succ,val,h]
theorem kD{l:List Nat}(h:Dig l):val l<BB^l.length:=by
 induction l with
 | nil=>simp[val]
 | cons d l t=>
  have h1:=t h.tail;have C:=h.head;have r:BB*val l+BB <= BB*BB^l.length:=by rw[<- Nat.mul_succ];exact Nat.mul_le_mul_left _ h1
  simp only[val,List.length_cons,Nat.pow_succ,Nat.mul_comm (BB^l.length) BB];simp only[iy] at r ⊢;omega
theorem iB(l:List Nat)(k:Nat):val (l.take (k+1))=val (l.take k)+BB^k*dg l k:=by
 induction l generalizing k with
 | nil=>simp[val,oI]
 | cons d l h=>
  cases k with
  | zero=>simp[val,mW]
  | succ k=>simp only[List.take_succ_cons,val,h,dg_succ,Nat.pow_succ];rw[Nat.mul_add,Nat.mul_comm (BB^k) BB,Nat.mul_assoc];omega
theorem jb{l:List Nat}{k:Nat}(h:l.length <= k):val (l.take k)=val l:=by rw[List.take_of_length_le h]
theorem oK{l m:List Nat}(t:Dig l)(C:Dig m)(r:l.length=m.length)(h:val l=val m):l=m:=by
 induction l generalizing m with
 | nil=>cases m with
  | nil=>rfl
  | cons _ _=>simp at r
 | cons d l G=>cases m with
  | nil=>simp at r
  | cons e m=>
   have h1:=t.head;have M:=C.head;simp only[val,iy] at h;have E:d=e:=by omega
   have:val l=val m:=by omega
   rw[E,G t.tail C.tail (by simpa using r) this]
def Can(l:List Nat):Prop:=Dig l /\ (0<l.length -> dg l (l.length-1)≠0)
theorem lK{n:Nat}(h:0<n):n / BB<n:=Nat.div_lt_self h (by decide)
def ek(n:Nat):List Nat:=if _h:n=0 then [] else n%BB::ek (n / BB)
termination_by n
decreasing_by exact lK (by omega)
theorem il:ek 0= []:=by unfold ek;simp
theorem jR{n:Nat}(h:0<n):ek n=n%BB::ek (n / BB):=by rw[ek,dif_neg (by omega)]
theorem fC(n:Nat):val (ek n)=n:=by
 induction n using Nat.strongRecOn with
 | _ n r=>
  by_cases h:n=0
  ·subst h;rw[il];rfl
  ·rw[jR (by omega),val,r _ (lK (by omega))];exact Nat.mod_add_div n BB
theorem fV(n:Nat):Dig (ek n):=by
 induction n using Nat.strongRecOn with
 | _ n r=>
  by_cases h:n=0
  ·subst h;rw[il];exact Dig.nil
  ·rw[jR (by omega)];exact Dig.cons (Nat.mod_lt _ (by decide)) (r _ (lK (by omega)))
theorem kV(n:Nat):Can (ek n):=by
 refine⟨fV n,?_⟩
 induction n using Nat.strongRecOn with
 | _ n G=>
  by_cases h:n=0
  ·subst h;rw[il];intro h;simp at h
  ·rw[jR (by omega)];intro _;by_cases r:n / BB=0
   ·rw[r,il];simp only[List.length_cons,List.length_nil,Nat.zero_add,Nat.sub_self,mW];have:=Nat.mod_add_div n BB;rw[r] at this;simp only[Nat.mul_zero,Nat.add_zero] at this;omega
   ·have E:0<(ek (n / BB)).length:=by rw[jR (Nat.pos_of_ne_zero r)];simp
    have t:=G _ (lK (by omega)) E;obtain⟨m,C⟩:∃m,(ek (n / BB)).length=m+1:=⟨(ek (n / BB)).length-1,by omega⟩
    rw[C] at t;simp only[List.length_cons,C,Nat.add_sub_cancel,dg_succ] at t ⊢;exact t
theorem rZ{d:Nat}{l:List Nat}(h:Can (d::l)):Can l:=by
 refine⟨h.1.tail,fun t=> ?_⟩;have:=h.2 (by simp);obtain⟨m,r⟩:∃m,l.length=m+1:=⟨l.length-1,by omega⟩
 simp only[List.length_cons,r,Nat.add_sub_cancel,dg_succ] at this ⊢;exact this
theorem nU{l:List Nat}(h:Can l)(r:0<l.length):BB^ (l.length-1) <= val l:=by
 induction l with
 | nil=>simp at r
 | cons d l t=>
  cases l with
  | nil=>
   have:=h.2 (by simp);simp only[List.length_cons,List.length_nil,Nat.zero_add,Nat.sub_self,mW] at this;simp[val];omega
  | cons e l=>
   have:=t (rZ h) (by simp);simp only[List.length_cons,Nat.add_sub_cancel] at this ⊢;rw[val,Nat.pow_succ,Nat.mul_comm];have C:BB*BB^l.length <= BB*val (e::l):=Nat.mul_le_mul_left _ this;omega
theorem mY{l m:List Nat}(r:Can l)(t:Dig m)(h:val l <= val m):l.length <= m.length:=by
 rcases Nat.lt_or_ge m.length l.length with h1 | h1
 ·have C:=nU r (by omega);have E:=kD t;have G:BB^m.length <= BB^ (l.length-1):=Nat.pow_le_pow_right (by decide) (by omega);omega
 ·exact h1
theorem sD{l m:List Nat}(r:Can l)(t:Can m)(h:val l=val m):l=m:=
 oK r.1 t.1 (Nat.le_antisymm (mY r t.1 (by omega)) (mY t r.1 (by omega))) h
theorem sF{l:List Nat}(h:Can l):l=ek (val l):=sD h (kV _) (by rw[fC])
theorem jS{n k:Nat}(h:n<BB^k):(ek n).length <= k:=by
 rcases Nat.lt_or_ge k (ek n).length with h1 | h1
 ·have r:=nU (kV n) (by omega);rw[fC] at r;have t:BB^k <= BB^ ((ek n).length-1):=Nat.pow_le_pow_right (by decide) (by omega);omega
 ·exact h1
theorem nk(n:Nat):n<BB^ (ek n).length:=by have:=kD (fV n);rwa [fC] at this
theorem jT{n m:Nat}(h:n <= m):(ek n).length <= (ek m).length:=jS (Nat.lt_of_le_of_lt h (nk m))
theorem kI{n:Nat}:0<(ek n).length↔0<n:=by
 constructor
 ·intro h
  rcases Nat.eq_zero_or_pos n with h0 | h0
  ·subst h0;rw[il] at h;simp at h
  ·exact h0
 ·intro h;rw[jR h];simp
theorem oL{n:Nat}:(ek n).length=0↔n=0:=by
 have:= @kI n;omega
theorem vD{l:List Nat}{k:Nat}(C:Dig l)(E:k <= l.length)(R:∀j,k <= j -> j<l.length -> dg l j=0)(M:0<k -> dg l (k-1)≠0):l.take k=ek (val l):=by
 have G:(l.take k).length=k:=by rw[List.length_take];omega
 have t:Can (l.take k):=by
  refine⟨C.take k,fun h=> ?_⟩;rw[G] at h ⊢;rw[mX,if_pos (by omega)];exact M h
 have O:val (l.take k)=val l:=by
  have h1:∀i,k <= i -> val (l.take i)=val (l.take k):=by
   intro i U
   induction i with
   | zero=>
    have:k=0:=by omega
    subst this;rfl
   | succ i T=>
    by_cases h:k <= i
    ·rw[iB,T h];by_cases r:i<l.length
     ·rw[R i h r];simp
     ·rw[mo (by omega)];simp
    ·have:k=i+1:=by omega
     subst this;rfl
  have:=h1 l.length E
  rwa [List.take_of_length_le (Nat.le_refl _),eq_comm] at this
 rw[<- O];exact sF t
theorem qw{l:List Nat}(h:Dig l):(ek (val l)).length <= l.length /\ l.take (ek (val l)).length=ek (val l):=by
 have h1:(ek (val l)).length <= l.length:=jS (kD h);refine⟨h1,?_⟩;have t:=fC (val l)
 have r:val l=val (l.take (ek (val l)).length)+BB^ (ek (val l)).length*val (l.drop (ek (val l)).length):=by
  have:=val_append (l.take (ek (val l)).length) (l.drop (ek (val l)).length);rw[List.take_append_drop,List.length_take,Nat.min_eq_left h1] at this;exact this
 have E:=nk (val l)
 have C:val (l.drop (ek (val l)).length)=0:=by
  rcases Nat.eq_zero_or_pos (val (l.drop (ek (val l)).length)) with h0 | h0
  ·exact h0
  ·have:=Nat.mul_le_mul_left (BB^ (ek (val l)).length) h0;omega
 rw[C,Nat.mul_zero,Nat.add_zero] at r;exact oK (h.take _) (fV _) (by rw[List.length_take];omega) (by rw[t];exact r.symm)
theorem kJ(l:List Nat)(k x:Nat)(h:k<l.length):val ((l.set k x).take (k+1))=val (l.take k)+BB^k*x:=by
 rw[iB,iM,if_pos ⟨rfl,h⟩];congr 2;apply List.ext_getElem?;intro j;rw[List.getElem?_take,List.getElem?_take,List.getElem?_set];split
 ·rw[if_neg (by omega)]
 ·rfl
theorem kK(P s:Nat):P* (s%4294967296)+P*BB* (s / 4294967296)=P*s:=by
 rw[Nat.mul_assoc, <- Nat.mul_add,iy,Nat.mod_add_div]
theorem sG{lo r t:List Nat}{k c s:Nat}(C:k<lo.length)(h:val (lo.take k)+BB^k*c=val (r.take k)+val (t.take k))(E:s=c+dg r k+dg t k):
  val ((lo.set k (s%4294967296)).take (k+1))+BB^ (k+1)* (s / 4294967296)=val (r.take (k+1))+val (t.take (k+1)):=by
 rw[kJ _ _ _ C,iB,iB,Nat.pow_succ];have:=kK (BB^k) s;have e:BB^k*s=BB^k*c+BB^k*dg r k+BB^k*dg t k:=by rw[E,Nat.mul_add,Nat.mul_add]
 omega
theorem sH{lo r lb:List Nat}{k c c' x:Nat}(t:k<lo.length)(h:val (r.take k)+BB^k*c=val (lo.take k)+val (lb.take k))(C:dg r k+4294967296*c'=x+c+dg lb k):
  val (r.take (k+1))+BB^ (k+1)*c'=val ((lo.set k x).take (k+1))+val (lb.take (k+1)):=by
 rw[kJ _ _ _ t,iB,iB,Nat.pow_succ];have e:BB^k* (dg r k+4294967296*c')=BB^k* (x+c+dg lb k):=by rw[C]
 rw[Nat.mul_add,Nat.mul_add,Nat.mul_add, <- Nat.mul_assoc] at e;simp only[<- iy] at e;omega
theorem vE{lo r lb:List Nat}{c:Nat}(t:Dig lo)(E:val lb <= val r)(C:c <= 1)(h:val r+BB^lo.length*c=val lo+val lb):val lo=val r-val lb:=by
 have h1:=kD t
 rcases(show c=0 \/ c=1 by omega) with rfl | rfl <;> omega
theorem vF{lo l:List Nat}{k c b p s:Nat}(r:k<lo.length)(h:val (lo.take k)+BB^k*c=b*val (l.take k)+p)(t:s=c+dg l k*b):
  val ((lo.set k (s%4294967296)).take (k+1))+BB^ (k+1)* (s / 4294967296)=b*val (l.take (k+1))+p:=by
 rw[kJ _ _ _ r,iB,Nat.pow_succ];have:=kK (BB^k) s;have e:BB^k*s=BB^k*c+b* (BB^k*dg l k):=by rw[t,Nat.mul_add,Nat.mul_comm (dg l k) b,Nat.mul_left_comm]
 rw[Nat.mul_add];omega
theorem kW(l:List Nat)(k:Nat)(h:k<l.length):val (l.drop k)=dg l k+BB*val (l.drop (k+1)):=by
 rw[List.drop_eq_getElem_cons h,val,kU h]
theorem oN(l:List Nat)(k x:Nat)(h:k<l.length):val ((l.set k x).drop k)=x+BB*val (l.drop (k+1)):=by
 rw[kW _ _ (by rw[List.length_set];exact h),iM,if_pos ⟨rfl,h⟩];congr 3;rw[List.drop_set];simp
theorem BZ{lo l:List Nat}{k r b:Nat}(t:k<l.length)(C:k<lo.length)(h:val (l.drop (k+1))=b*val (lo.drop (k+1))+r):
  val (l.drop k)=b*val ((lo.set k ((r*4294967296+dg l k) / b)).drop k)+ (r*4294967296+dg l k)%b:=by
 rw[kW _ _ t,oN _ _ _ C,h];have:=Nat.div_add_mod (r*4294967296+dg l k) b;simp only[<- iy] at this ⊢;rw[Nat.mul_add,Nat.mul_add,Nat.mul_left_comm b BB];rw[Nat.mul_comm r BB] at this ⊢;omega
theorem C8{r b d:Nat}(h:r<b)(t:d<4294967296):(r*4294967296+d) / b<4294967296:=by
 refine Nat.div_lt_of_lt_mul ?_;have:(r+1)*4294967296 <= b*4294967296:=Nat.mul_le_mul_right _ h;omega
def iE(a b:Nat):Int:=if a<b then -1 else if a=b then 0 else 1
theorem sI{l m:List Nat}(r:Dig l)(t:Can m)(h:l.length<m.length):val l<val m:=by
 rcases Nat.lt_or_ge (val l) (val m) with h1 | h1
 ·exact h1
 ·have:=mY t r h1;omega
theorem vG{l m:List Nat}(r:l.length=m.length)(h:∀j,j<l.length -> dg l j=dg m j):val l=val m:=by rw[oJ r h]
theorem sJ{l m:List Nat}{k:Nat}(G:Dig l)(R:l.length=m.length)(O:k<l.length)(h:∀j,k<j -> j<l.length -> dg l j=dg m j)(V:dg l k<dg m k):val l<val m:=by
 have E:l.drop (k+1)=m.drop (k+1):=by
  apply oJ
  ·rw[List.length_drop,List.length_drop,R]
  ·intro j M;rw[List.length_drop] at M;have:=h (k+1+j) (by omega) (by omega);unfold dg at this ⊢
   simpa [List.getD_eq_getElem?_getD,List.getElem?_drop] using this
 have T:val l=val (l.take k)+BB^k*val (l.drop k):=by
  have:=val_append (l.take k) (l.drop k)
  rwa [List.take_append_drop,List.length_take,Nat.min_eq_left (by omega)] at this
 have U:val m=val (m.take k)+BB^k*val (m.drop k):=by
  have:=val_append (m.take k) (m.drop k)
  rwa [List.take_append_drop,List.length_take,Nat.min_eq_left (by omega)] at this
 have r:val (l.drop k)+1 <= val (m.drop k):=by
  rw[kW l _ O,kW m _ (by omega),E];omega
 have t:=kD (G.take k);rw[List.length_take,Nat.min_eq_left (by omega)] at t;have C:BB^k* (val (l.drop k)+1) <= BB^k*val (m.drop k):=Nat.mul_le_mul_left _ r;rw[Nat.mul_add] at C;omega
theorem vH{y d:Nat}(t:y<32):d*2^y%4294967296%2^y=0 /\ d*2^y%4294967296+2^y <= 4294967296:=by
 have e:(4294967296:Nat)=2^ (32-y)*2^y:=by rw[<- Nat.pow_add,show 32-y+y=32 by omega]
 have h1:d*2^y%4294967296=d%2^ (32-y)*2^y:=by rw[e,Nat.mul_mod_mul_right]
 rw[h1];refine⟨Nat.mul_mod_left _ _,?_⟩;have r:d%2^ (32-y)<2^ (32-y):=Nat.mod_lt _ (Nat.two_pow_pos _);have h:(d%2^ (32-y)+1)*2^y <= 2^ (32-y)*2^y:=Nat.mul_le_mul_right _ r;rw[<- e,Nat.add_mul,Nat.one_mul] at h;exact h
theorem C9{lo l:List Nat}{k y s:Nat}(t:k+1<lo.length)(C:s=dg l k*2^y)(h:val (lo.take k)+BB^k*dg lo k=2^y*val (l.take k)):
  val (((lo.set k (dg lo k+s%4294967296)).set (k+1) (s / 4294967296)).take (k+1))+BB^ (k+1)*dg ((lo.set k (dg lo k+s%4294967296)).set (k+1) (s / 4294967296)) (k+1)=2^y*val (l.take (k+1)):=by
 rw[iM,if_pos ⟨rfl,by rw[List.length_set];exact t⟩]
 have r:((lo.set k (dg lo k+s%4294967296)).set (k+1) (s / 4294967296)).take (k+1)=(lo.set k (dg lo k+s%4294967296)).take (k+1):=by
  rw[List.take_set,List.set_eq_of_length_le];rw[List.length_take];omega
 rw[r,kJ _ _ _ (by omega),iB,Nat.mul_add,Nat.mul_add,Nat.pow_succ];have:=kK (BB^k) s;have E:BB^k*s=2^y* (BB^k*dg l k):=by rw[C,Nat.mul_comm (dg l k),Nat.mul_left_comm]
 omega
theorem oO(l:List Nat)(i x:Nat)(h:i<l.length):val (l.set i x)+BB^i*dg l i=val l+BB^i*x:=by
 have r:val (l.set i x)=val (l.take i)+BB^i*val ((l.set i x).drop i):=by
  have:=val_append ((l.set i x).take i) ((l.set i x).drop i);rw[List.take_append_drop,List.length_take,List.length_set,Nat.min_eq_left (by omega)] at this;rw[this,List.take_set,List.set_eq_of_length_le];rw[List.length_take];omega
 have t:val l=val (l.take i)+BB^i*val (l.drop i):=by
  have:=val_append (l.take i) (l.drop i)
  rwa [List.take_append_drop,List.length_take,Nat.min_eq_left (by omega)] at this
 rw[r,t,oN _ _ _ h,kW _ _ h,Nat.mul_add,Nat.mul_add];omega
theorem vI{lo lb:List Nat}{i j c x s V:Nat}(r:i+j<lo.length)(h:val lo+BB^ (i+j)*c=V+BB^i* (x*val (lb.take j)))(t:s=c+ (x*dg lb j+dg lo (i+j))):
  val (lo.set (i+j) (s%4294967296))+BB^ (i+ (j+1))* (s / 4294967296)=V+BB^i* (x*val (lb.take (j+1))):=by
 have h1:=oO lo (i+j) (s%4294967296) r;have C:=kK (BB^ (i+j)) s
 have e:BB^ (i+j)*s=BB^ (i+j)*c+ (BB^i* (x* (BB^j*dg lb j))+BB^ (i+j)*dg lo (i+j)):=by
  rw[t,Nat.mul_add,Nat.mul_add,Nat.pow_add];congr 2;rw[Nat.mul_assoc,Nat.mul_left_comm (BB^j) x]
 rw[iB,Nat.mul_add,Nat.mul_add, <- Nat.add_assoc i j 1,Nat.pow_succ];omega
theorem vJ{lo lb r:List Nat}{i c V:Nat}(C:i+lb.length<lo.length)(E:dg lo (i+lb.length)=0)(h:val lo+BB^ (i+lb.length)*c=V+BB^i* (dg r i*val (lb.take lb.length)))(t:V=val (r.take i)*val lb):
  val (lo.set (i+lb.length) c)=val (r.take (i+1))*val lb:=by
 have h1:=oO lo (i+lb.length) c C;rw[E,Nat.mul_zero,Nat.add_zero] at h1;rw[h1,h,t,jb (Nat.le_refl _),iB,Nat.add_mul,Nat.mul_assoc]
theorem Ca{Q R a b:Nat}(h:Q*R=4294967296)(t:0<Q):b*4294967296 / Q%4294967296=R* (b%Q) /\ a / Q+R* (b%Q)=a / Q+b*4294967296 / Q%4294967296:=by
 have h1:b*4294967296 / Q=b*R:=by rw[<- h,Nat.mul_left_comm,Nat.mul_div_cancel_left _ t]
 have r:b*R%4294967296=R* (b%Q):=by rw[<- h,Nat.mul_mod_mul_right,Nat.mul_comm]
 rw[h1,r];exact⟨rfl,rfl⟩
theorem vK{Q R a b:Nat}(h:Q*R=4294967296)(C:0<Q)(E:a<4294967296):a / Q<R /\ a / Q+R* (b%Q)<4294967296:=by
 have h1:a / Q<R:=Nat.div_lt_of_lt_mul (by rw[h];exact E);have r:b%Q<Q:=Nat.mod_lt _ C;have t:R* (b%Q+1) <= R*Q:=Nat.mul_le_mul_left _ r;rw[Nat.mul_comm R Q,h,Nat.mul_add] at t;exact⟨h1,by omega⟩
theorem vL{lo l:List Nat}{k Q R b0:Nat}(E:k<lo.length)(C:Q*R=4294967296)(h:Q*val (lo.take k)+b0=val (l.take k)+BB^k* (dg l k%Q)):
  Q*val ((lo.set k (dg l k / Q+R* (dg l (k+1)%Q))).take (k+1))+b0=val (l.take (k+1))+BB^ (k+1)* (dg l (k+1)%Q):=by
 rw[kJ _ _ _ E,iB,Nat.pow_succ,Nat.mul_add]
 have r:Q* (BB^k* (dg l k / Q+R* (dg l (k+1)%Q)))=BB^k* (Q* (dg l k / Q))+BB^k* (BB* (dg l (k+1)%Q)):=by
  rw[Nat.mul_left_comm,Nat.mul_add,Nat.mul_add, <- Nat.mul_assoc Q R,C, <- iy]
 have t:BB^k*dg l k=BB^k* (Q* (dg l k / Q))+BB^k* (dg l k%Q):=by rw[<- Nat.mul_add,Nat.div_add_mod]
 rw[r,t,Nat.mul_assoc];omega
theorem Cb{lo l:List Nat}{Q:Nat}(t:lo.length=l.length)(r:0<Q)(h:Q*val (lo.take l.length)+dg l 0%Q=val (l.take l.length)+BB^l.length* (dg l l.length%Q)):val lo=val l / Q:=by
 rw[jb (by omega),jb (Nat.le_refl _),mo (Nat.le_refl _),Nat.zero_mod,Nat.mul_zero,Nat.add_zero] at h;rw[<- h,Nat.mul_add_div r,Nat.div_eq_of_lt (Nat.mod_lt _ r),Nat.add_zero]
end
section
open Go.RowKit
def vM:Value -> Nat
 | .slice _ n _=>n
 | _=>0
theorem Cc(A:Option Addr)(n c:Nat):vM (.slice A n c)=n:=rfl
def BT(w:World)(b:Nat)(v:Value):Prop:=∃cs e fr,w.heap[b]? =some (.cells cs e fr) /\ ∀z,v= .int .u32 z -> e=169
theorem BT.mD{w w':World}{b:Nat}{v:Value}(h:BT w b v)(e:w'.heap[b]? =w.heap[b]?):BT w' b v:=by
 obtain⟨cs,t,r,h1,C⟩:=h;exact⟨cs,t,r,e.trans h1,C⟩
def Cells(w:World)(A:Option Addr)(n:Nat)(f:Nat -> Value):Prop:=
 n=0 \/ ∃b off,A=some ⟨b,off,none⟩ /\ (∀j,j<n -> w.cell? ⟨b,off+j,none⟩=some (f j)) /\ BT w b (f 0)
theorem Cells.at_{w:World}{A:Option Addr}{n:Nat}{f:Nat -> Value}(h:Cells w A n f)(E:0<n):
  ∃b r,A=some ⟨b,r,none⟩ /\ b<w.heap.size /\ ∀j,j<n -> w.cell? ⟨b,r+j,none⟩=some (f j):=by
 rcases h with h | ⟨b,r,C,t,_⟩
 ·omega
 ·exact⟨b,r,C,World.block_lt_of_cell? w _ (t 0 E),t⟩
theorem Cells.below{w w':World}{A:Option Addr}{n:Nat}{f:Nat -> Value}(h:Cells w A n f)(r:Below w.heap.size w w'):Cells w' A n f:=by
 rcases h with h | ⟨b,M,G,t,E⟩
 ·exact .inl h
 ·refine .inr ⟨b,M,G,fun j C=>(r.cell (World.block_lt_of_cell? w _ (t j C))).trans (t j C),E.mD (r.block b ?_)⟩;obtain⟨_,_,_,h1,_⟩:=E;exact(Array.getElem?_eq_some_iff.1 h1).1
theorem Cells.take{w:World}{A:Option Addr}{n m:Nat}{f:Nat -> Value}(h:Cells w A n f)(M:m <= n):Cells w A m f:=by
 rcases h with h | ⟨b,E,r,t,C⟩
 ·exact .inl (by omega)
 ·exact .inr ⟨b,E,r,fun j G=>t j (by omega),C⟩
theorem Cells.congr{w:World}{A:Option Addr}{n:Nat}{f g:Nat -> Value}(h:Cells w A n f)(r:∀j,j<n -> f j=g j):Cells w A n g:=by
 rcases h with h | ⟨b,M,C,E,G⟩
 ·exact .inl h
 ·rcases Nat.eq_zero_or_pos n with h0 | h0
  ·exact .inl h0
  ·exact .inr ⟨b,M,C,fun j t=>(E j t).trans (by rw[r j t]),by rw[<- r 0 h0];exact G⟩
def U32(w:World)(A:Option Addr)(l:List Nat):Prop:=Cells w A l.length (fun j=> .int .u32 (dg l j:Nat))
theorem U32.trimmed{w:World}{A:Option Addr}{l:List Nat}(h:U32 w A l)(t:Dig l):U32 w A (ek (val l)):=by
 obtain⟨h1,r⟩:=qw t;refine(Cells.take h h1).congr fun j C=> ?_
 rw[<- r,mX,if_pos C]
theorem U32.below{w w':World}{A:Option Addr}{l:List Nat}(h:U32 w A l)(r:Below w.heap.size w w'):U32 w' A l:=Cells.below h r
def nV(w:World)(v:Value)(l:List Nat):Prop:=∃A c,v= .slice A l.length c /\ l.length <= c /\ c <= maxLen /\ U32 w A l /\ Dig l
theorem nV.below{w w':World}{v:Value}{l:List Nat}(h:nV w v l)(r:Below w.heap.size w w'):nV w' v l:=by
 obtain⟨A,c,M,E,t,G,C⟩:=h;exact⟨A,c,M,E,t,Cells.below G r,C⟩
def Row(w:World)(g:Nat)(e:TypeId)(cs:List Value):Prop:=w.heap[g]? =some (.cells cs.toArray e (0,0))
section
variable {w w':World} {g:Nat} {e:TypeId} {cs:List Value}
theorem Row.lt(h:Row w g e cs):g<w.heap.size:=(Array.getElem?_eq_some_iff.1 h).1
theorem Row.cell(h:Row w g e cs)(j:Nat): w.cell? ⟨g,j,none⟩=cs[j]? :=by
 rw[cell_of_row w g j _ _ (0,0) h];simp
theorem Row.free(h:Row w g e cs)(j:Nat): w.frozen? ⟨g,j,none⟩=false:=frozen_of_row w g j _ _ h
theorem Row.set(h:Row w g e cs)(j:Nat)(v:Value):Row (w.setCell ⟨g,j,none⟩ v) g e (cs.set j v):=by
 unfold Row;rw[heap_setCell_same w g j _ _ _ h];simp
theorem Row.at_(h:Row w g e cs)(j:Nat){v:Value}(r:cs[j]? =some v): w.cell? ⟨g,j,none⟩=some v:=by rw[h.cell,r]
theorem Row.below(h:Row w g e cs){B:Nat}(r:Below B w w')(t:g<B):Row w' g e cs:=(r.block g t).trans h
theorem Row.made{base n:Nat}{z:Value}(h:w.ownsRow base e 1 (.slice (some ⟨g,0,none⟩) n n) n (madeCells #[z] n).toList):Row w g e (List.replicate n z):=by
 rcases h.2 with ⟨r,_⟩ | ⟨g',cap,t,r,_,E,_,_,G,M⟩
 ·simp at r
 ·simp only[Value.slice.injEq,Option.some.injEq,Addr.mk.injEq,and_true,true_and] at r;obtain⟨rfl,rfl⟩:=r;unfold Row;rw[E]
  have C:t.toList=List.replicate n z:=by
   rw[<- toList_madeCells_one z n, <- M,List.take_of_length_le];rw[Array.length_toList,G];omega
  rw[<- C]
end
theorem eO(w:World)(o:Obj):(w.alloc o).heap[w.heap.size]? =some o:=heap_alloc_new w o
theorem nu(w:World)(o r:Obj)(k:Nat)(h:w.heap[k]? =some r):(w.alloc o).heap[k]? =some r:=by
 rw[Below.heap_alloc w o k (Array.getElem?_eq_some_iff.1 h).1];exact h
theorem size_alloc(w:World)(o:Obj):(w.alloc o).heap.size=w.heap.size+1:=by simp
theorem jy(w:World)(h:Obj):(w.alloc h).heap[w.heap.size]? =some h /\ (w.alloc h).heap.size=w.heap.size+1 /\ Below w.heap.size w (w.alloc h):=
 ⟨eO _ _,size_alloc _ _,(Below.refl _ _).alloc (Nat.le_refl _) _⟩
theorem qx(w:World)(h r:Obj):((w.alloc h).alloc r).heap[w.heap.size]? =some h /\ ((w.alloc h).alloc r).heap[w.heap.size+1]? =some r /\ ((w.alloc h).alloc r).heap.size=w.heap.size+2 /\ Below w.heap.size w ((w.alloc h).alloc r):=
 ⟨nu _ _ _ _ (eO _ _),by rw[<- size_alloc w h];exact eO _ _,by rw[size_alloc,size_alloc],by go_grown⟩
theorem kX(w:World)(h r t:Obj):(((w.alloc h).alloc r).alloc t).heap[w.heap.size]? =some h /\ (((w.alloc h).alloc r).alloc t).heap[w.heap.size+1]? =some r /\ (((w.alloc h).alloc r).alloc t).heap[w.heap.size+2]? =some t /\
  (((w.alloc h).alloc r).alloc t).heap.size=w.heap.size+3 /\ Below w.heap.size w (((w.alloc h).alloc r).alloc t):=
 ⟨nu _ _ _ _ (nu _ _ _ _ (eO _ _)),nu _ _ _ _ (by rw[<- size_alloc w h];exact eO _ _),by rw[show w.heap.size+2=((w.alloc h).alloc r).heap.size by rw[size_alloc,size_alloc]];exact eO _ _,
  by rw[size_alloc,size_alloc,size_alloc],by go_grown⟩
theorem nz{P:Program}(w:World){ops:Array Oper}{rest:List Oper}{o:Oper}{a:Act}{Q:Exit -> Act -> World -> Prop}
  (W:o.guard=none) (l c:Operand) (t:TypeId) (Z:o.op=Op.makeSlice t l c)
  (e:TypeId) (i:TypeInfo) (z:Value) (h1:P.underlying t=some (.slice e)) (G: P.info? e=some i) (M:i.zero=some z) (O:i.size=1) (hz:z.cells= #[z])
  (L C:Int) (n:Nat) (Y:a.eval l= .int .i64 L) (V:a.eval c= .int .i64 C) (U:L=(n:Int)) (R:C=(n:Int)) (b2:i.bytes*n <= 281474976710656)
  (E:n <= maxLen)
  (T:∀w',Row w' w.heap.size e (List.replicate n z) -> Below w.heap.size w w' -> w.heap.size<w'.heap.size -> wpList P ops Q rest (a.put o.dst (.slice (some ⟨w.heap.size,0,none⟩) n n)) w'):
  wpList P ops Q (o::rest) a w:=by
 refine wpList_make_full w W l c t Z w.heap.size e i z 1 h1 G M O .i64 .i64 L C n Y V U R b2 E (Nat.le_refl _) ?_;intro w' h X;rw[hz,Nat.mul_one] at h;have r:=Row.made h;exact T w' r ((Below.refl _ _).grown X (Nat.le_refl _) (by simp)) r.lt
def fA(w:World)(g:Nat)(l:List Nat):Prop:=Row w g 169 (l.map (fun d=>Value.int .u32 (d:Nat)))
section
variable {w w':World} {g:Nat} {l:List Nat}
theorem fA.lt(h:fA w g l):g<w.heap.size:=Row.lt h
theorem fA.cell(h:fA w g l){j:Nat}(r:j<l.length): w.cell? ⟨g,j,none⟩=some (.int .u32 (dg l j:Nat)):=by
 rw[Row.cell h,kU r];simp[r]
theorem fA.free(h:fA w g l)(j:Nat): w.frozen? ⟨g,j,none⟩=false:=Row.free h j
theorem fA.set(h:fA w g l)(j x:Nat){v:Value}(r:v= .int .u32 (x:Nat)):fA (w.setCell ⟨g,j,none⟩ v) g (l.set j x):=by
 subst r;have:=Row.set h j (.int .u32 (x:Nat));unfold fA
 rwa [List.map_set]
theorem fA.u32(h:fA w g l):U32 w (some ⟨g,0,none⟩) l:=by
 rcases Nat.eq_zero_or_pos l.length with h0 | h0
 ·exact .inl h0
 ·exact .inr ⟨g,0,rfl,fun j r=>by rw[Nat.zero_add];exact h.cell r,_,_,_,h,fun _ _=>rfl⟩
theorem fA.below(h:fA w g l){B:Nat}(r:Below B w w')(t:g<B):fA w' g l:=Row.below h r t
theorem fA.made{n:Nat}(h:Row w g 169 (List.replicate n (Value.int .u32 0))):fA w g (List.replicate n 0):=by
 unfold fA
 rwa [List.map_replicate]
end
theorem mE:(prog.info? 169).map (fun i=>(i.zero,i.size,i.bytes))=some (some (.int .u32 0),1,4):=by kernel_rfl
theorem fu{B:Nat}{w w':World}(r:Below B w w'):(∀b o,b<B -> w'.cell? ⟨b,o,none⟩= w.cell? ⟨b,o,none⟩) /\ (∀b o,b<B -> w'.frozen? ⟨b,o,none⟩= w.frozen? ⟨b,o,none⟩):=
 ⟨fun b o h=>r.cell (p:=⟨b,o,none⟩) h,fun b o h=>r.frozen (p:=⟨b,o,none⟩) h⟩
theorem vN(i a b:Nat)(t:a%2^i=0)(h:b<2^i):a ||| b=a+b:=by
 have r:a=2^i* (a / 2^i):=by
  have:=Nat.div_add_mod a (2^i);omega
 rw[r, <- Nat.two_pow_add_eq_or_of_lt h (a / 2^i)]
theorem Ce(i a b:Nat)(h:a%2^i=0)(r:b<2^i)(t:a+b<18446744073709551616):bits .or .u64 (a:Int) (b:Int)=((a+b:Nat):Int):=by
 rw[u64_or_nat a b (by omega) (by omega),vN i a b h r]
theorem vO(i a b:Nat)(h:a%2^i=0)(r:b<2^i)(t:a+b<4294967296):bits .or .u32 (a:Int) (b:Int)=((a+b:Nat):Int):=by
 rw[u32_or_nat a b (by omega) (by omega),vN i a b h r]
theorem vP(k:IntKind)(x y:Int):bits .or k x y=bits .or k y x:=by simp only[bits,BitVec.or_comm]
theorem sK(r d:Nat)(t:r<4294967296)(h:d<4294967296):bits .or .u64 ((r:Int)*4294967296) (d:Int)=((r*4294967296+d:Nat):Int):=by
 have:=Ce 32 (r*4294967296) d (by omega) (by omega) (by omega);rw[<- this];simp
theorem Cells.kept{w w':World}{A:Option Addr}{n g:Nat}{e:TypeId}{f:Nat -> Value}{cs:List Value}(h:Cells w A n f)(E:w.grownBy w' (some g))(T:Row w g e cs)(R:∀j,∀v ∈ cs,f j≠v):Cells w' A n f:=by
 rcases h with h | ⟨b,U,M,t,G⟩
 ·exact .inl h
 ·rcases Nat.eq_zero_or_pos n with h0 | h0
  ·exact .inl h0
  have r:b≠g:=by
   intro r;subst r;have C:=t 0 h0;rw[T.cell] at C;exact absurd rfl (R 0 _ (List.mem_of_getElem? C))
  refine .inr ⟨b,U,M,fun j O=>E.cell (t j O) (by simp;exact r),G.mD (E.block b ?_ (by simp;exact r))⟩;obtain⟨_,_,_,h1,_⟩:=G;exact(Array.getElem?_eq_some_iff.1 h1).1
theorem Cells.grownBy'{w w':World}{b r n g:Nat}{f:Nat -> Value}(h:Cells w (some ⟨b,r,none⟩) n f)(C:w.grownBy w' (some g))(E:b≠g):Cells w' (some ⟨b,r,none⟩) n f:=by
 rcases h with h | ⟨b',R,t,M,G⟩
 ·exact .inl h
 ·simp only[Option.some.injEq,Addr.mk.injEq,and_true] at t;obtain⟨rfl,rfl⟩:=t;refine .inr ⟨b,r,rfl,fun j O=>C.cell (M j O) (by simp;exact E),G.mD (C.block b ?_ (by simp;exact E))⟩;obtain⟨_,_,_,h1,_⟩:=G;exact(Array.getElem?_eq_some_iff.1 h1).1
theorem U32.kept{w w':World}{A:Option Addr}{l:List Nat}{g:Nat}{e:TypeId}{cs:List Value}(h:U32 w A l)(t:w.grownBy w' (some g))(E:Row w g e cs)(C:∀v ∈ cs,∀n:Int,v≠ .int .u32 n):U32 w' A l:=
 Cells.kept h t E (fun _ v G r=>C v G _ r.symm)
theorem grownBy_set(w:World)(g i:Nat)(v:Value):w.grownBy (w.setCell ⟨g,i,none⟩ v) (some g):=
 ⟨rfl,rfl,rfl,by simp,fun k _ h=>heap_setCell_other w ⟨g,i,none⟩ k v (fun e=>h (by simp[e]))⟩
theorem grownBy_trans{w w' w'':World}{r:Option Nat}(h:w.grownBy w' r)(t:w'.grownBy w'' r):w.grownBy w'' r:=
 ⟨t.os.trans h.os,t.tape.trans h.tape,t.output.trans h.output,Nat.le_trans h.size t.size,fun k C E=>(t.block k (Nat.lt_of_lt_of_le C h.size) E).trans (h.block k C E)⟩
theorem iP(w:World)(g i j:Nat)(v u:Value):w.grownBy ((w.setCell ⟨g,i,none⟩ v).setCell ⟨g,j,none⟩ u) (some g):=grownBy_trans (grownBy_set _ _ _ _) (grownBy_set _ _ _ _)
theorem cell_far(w:World)(g i b o:Nat)(v:Value)(h:b≠g):(w.setCell ⟨g,i,none⟩ v).cell? ⟨b,o,none⟩= w.cell? ⟨b,o,none⟩:=
 World.cell?_setCell_other w ⟨g,i,none⟩ ⟨b,o,none⟩ v (fun e=>h (congrArg Addr.block e).symm)
theorem iG(w:World)(g i j b o:Nat)(v u:Value)(h:b≠g):((w.setCell ⟨g,i,none⟩ v).setCell ⟨g,j,none⟩ u).cell? ⟨b,o,none⟩= w.cell? ⟨b,o,none⟩:=
 (cell_far _ g j b o u h).trans (cell_far w g i b o v h)
def ib(w w':World):Prop:=∃n,w'=w.drewN n
theorem ib.refl(w:World):ib w w:=⟨0,rfl⟩
theorem ib.mk(w:World)(n:Nat):ib w (w.drewN n):=⟨n,rfl⟩
theorem below_drewN(B:Nat)(w:World)(n:Nat):Below B w (w.drewN n):=⟨rfl,rfl,rfl,Nat.le_refl _,fun _ _=>rfl⟩
theorem ib.step{w w':World}(h:ib w w')(n:Nat):ib w (w'.drewN n):=by
 obtain⟨m,rfl⟩:=h;exact⟨m+n,by simp[World.drewN];try omega⟩
theorem ib.below{w w':World}(h:ib w w')(B:Nat):Below B w w':=by obtain⟨n,rfl⟩:=h;exact below_drewN B w n
theorem lH{p:Prop}(h:p):Hid p:=Lib.hid h
theorem eX{α:Sort _}(x:α):∃y,y=x:=⟨x,rfl⟩
theorem bT{w w' w'':World}(H:Hid (Below w.heap.size w w'))(h:Below w'.heap.size w' w''):Hid (Below w.heap.size w w''):=lH (H.out.trans (h.mono H.out.size))
theorem rW{w w':World}{g:Nat}{e:TypeId}{cs:List Value}(R:Hid (Row w g e cs))(h:Below w.heap.size w w'):Hid (Row w' g e cs):=lH (R.out.below h R.out.lt)
theorem bN(w:World)(o:Obj):Below w.heap.size w (w.alloc o):=(jy w o).2.2
theorem bD{w w' w'':World}(h:Below w'.heap.size w' w'')(r:Below w.heap.size w w':=by first | exact Below.refl _ _ | exact(Below.refl _ _).drew | exact below_drewN _ _ _ | exact bN _ _):Below w.heap.size w w'':=r.trans (h.mono r.size)
theorem kA{w w':World}{S:World -> Prop}(K:∀w',Below w.heap.size w w' -> S w')(h:Below w.heap.size w w':=by first | exact(Below.refl _ _).drew.trans (bN _ _) | exact bN _ _ | exact(bN _ _).drew):S w':=K _ h
theorem hN(w:World)(cs:List Value)(t:TypeId):Hid (Row (w.alloc (.cells cs.toArray t)) w.heap.size t cs):=lH (eO _ _)
theorem eN1(w:World)(a:List Value)(t:TypeId):∃W,W=w.alloc (.cells a.toArray t) /\ Hid (Row W w.heap.size t a) /\ Hid (Below w.heap.size w W):=by
  obtain⟨r,_,h⟩:=jy w (.cells a.toArray t)
  exact⟨_,rfl,lH r,lH h⟩
theorem eN2(w:World)(a:List Value)(t:TypeId)(b:List Value)(u:TypeId):∃W,W=(w.alloc (.cells a.toArray t)).alloc (.cells b.toArray u) /\ Hid (Row W w.heap.size t a) /\ Hid (Row W (w.heap.size+1) u b) /\ Hid (Below w.heap.size w W):=by
  obtain⟨r,C,_,h⟩:=qx w (.cells a.toArray t) (.cells b.toArray u)
  exact⟨_,rfl,lH r,lH C,lH h⟩
theorem eN3(w:World)(a:List Value)(t:TypeId)(b:List Value)(u:TypeId)(c:List Value)(v:TypeId):∃W,W=((w.alloc (.cells a.toArray t)).alloc (.cells b.toArray u)).alloc (.cells c.toArray v) /\ Hid (Row W w.heap.size t a) /\ Hid (Row W (w.heap.size+1) u b) /\ Hid (Row W (w.heap.size+1+1) v c) /\ Hid (Below w.heap.size w W):=by
  obtain⟨r,C,E,_,h⟩:=kX w (.cells a.toArray t) (.cells b.toArray u) (.cells c.toArray v)
  exact⟨_,rfl,lH r,lH C,lH E,lH h⟩
section
variable {w:World} {g:Nat} {e:TypeId} {a b c d x y z u:Value}
theorem aT2{l:List Value}(h:Row w g e (a::b::l)): w.cell? ⟨g,0,none⟩=some a /\ w.cell? ⟨g,1,none⟩=some b:=⟨h.at_ 0 rfl,h.at_ 1 rfl⟩
theorem aT3{l:List Value}(h:Row w g e (a::b::c::l)): w.cell? ⟨g,0,none⟩=some a /\ w.cell? ⟨g,1,none⟩=some b /\ w.cell? ⟨g,2,none⟩=some c:=⟨h.at_ 0 rfl,h.at_ 1 rfl,h.at_ 2 rfl⟩
theorem aT4{l:List Value}(h:Row w g e (a::b::c::d::l)): w.cell? ⟨g,0,none⟩=some a /\ w.cell? ⟨g,1,none⟩=some b /\ w.cell? ⟨g,2,none⟩=some c /\ w.cell? ⟨g,3,none⟩=some d:=⟨h.at_ 0 rfl,h.at_ 1 rfl,h.at_ 2 rfl,h.at_ 3 rfl⟩
theorem aT5{l:List Value}(h:Row w g e (a::b::c::d::x::l)): w.cell? ⟨g,0,none⟩=some a /\ w.cell? ⟨g,1,none⟩=some b /\ w.cell? ⟨g,2,none⟩=some c /\ w.cell? ⟨g,3,none⟩=some d /\ w.cell? ⟨g,4,none⟩=some x:=⟨h.at_ 0 rfl,h.at_ 1 rfl,h.at_ 2 rfl,h.at_ 3 rfl,h.at_ 4 rfl⟩
theorem aT8{l:List Value}(h:Row w g e (a::b::c::d::x::y::z::u::l)): w.cell? ⟨g,0,none⟩=some a /\ w.cell? ⟨g,1,none⟩=some b /\ w.cell? ⟨g,2,none⟩=some c /\ w.cell? ⟨g,3,none⟩=some d /\ w.cell? ⟨g,4,none⟩=some x /\ w.cell? ⟨g,5,none⟩=some y /\ w.cell? ⟨g,6,none⟩=some z /\ w.cell? ⟨g,7,none⟩=some u:=⟨h.at_ 0 rfl,h.at_ 1 rfl,h.at_ 2 rfl,h.at_ 3 rfl,h.at_ 4 rfl,h.at_ 5 rfl,h.at_ 6 rfl,h.at_ 7 rfl⟩
theorem aF2{l:List Value}(h:Row w g e (a::b::l)): w.cell? ⟨g,0,none⟩=some a /\ w.frozen? ⟨g,0,none⟩=false /\ w.cell? ⟨g,1,none⟩=some b /\ w.frozen? ⟨g,1,none⟩=false:=⟨h.at_ 0 rfl,h.free 0,h.at_ 1 rfl,h.free 1⟩
theorem aF3{l:List Value}(h:Row w g e (a::b::c::l)): w.cell? ⟨g,0,none⟩=some a /\ w.frozen? ⟨g,0,none⟩=false /\ w.cell? ⟨g,1,none⟩=some b /\ w.frozen? ⟨g,1,none⟩=false /\ w.cell? ⟨g,2,none⟩=some c /\ w.frozen? ⟨g,2,none⟩=false:=⟨h.at_ 0 rfl,h.free 0,h.at_ 1 rfl,h.free 1,h.at_ 2 rfl,h.free 2⟩
theorem aF4{l:List Value}(h:Row w g e (a::b::c::d::l)): w.cell? ⟨g,0,none⟩=some a /\ w.frozen? ⟨g,0,none⟩=false /\ w.cell? ⟨g,1,none⟩=some b /\ w.frozen? ⟨g,1,none⟩=false /\ w.cell? ⟨g,2,none⟩=some c /\ w.frozen? ⟨g,2,none⟩=false /\ w.cell? ⟨g,3,none⟩=some d /\ w.frozen? ⟨g,3,none⟩=false:=⟨h.at_ 0 rfl,h.free 0,h.at_ 1 rfl,h.free 1,h.at_ 2 rfl,h.free 2,h.at_ 3 rfl,h.free 3⟩
theorem aF5{l:List Value}(h:Row w g e (a::b::c::d::x::l)): w.cell? ⟨g,0,none⟩=some a /\ w.frozen? ⟨g,0,none⟩=false /\ w.cell? ⟨g,1,none⟩=some b /\ w.frozen? ⟨g,1,none⟩=false /\ w.cell? ⟨g,2,none⟩=some c /\ w.frozen? ⟨g,2,none⟩=false /\ w.cell? ⟨g,3,none⟩=some d /\ w.frozen? ⟨g,3,none⟩=false /\ w.cell? ⟨g,4,none⟩=some x /\ w.frozen? ⟨g,4,none⟩=false:=⟨h.at_ 0 rfl,h.free 0,h.at_ 1 rfl,h.free 1,h.at_ 2 rfl,h.free 2,h.at_ 3 rfl,h.free 3,h.at_ 4 rfl,h.free 4⟩
theorem aF8{l:List Value}(h:Row w g e (a::b::c::d::x::y::z::u::l)): w.cell? ⟨g,0,none⟩=some a /\ w.frozen? ⟨g,0,none⟩=false /\ w.cell? ⟨g,1,none⟩=some b /\ w.frozen? ⟨g,1,none⟩=false /\ w.cell? ⟨g,2,none⟩=some c /\ w.frozen? ⟨g,2,none⟩=false /\ w.cell? ⟨g,3,none⟩=some d /\ w.frozen? ⟨g,3,none⟩=false /\ w.cell? ⟨g,4,none⟩=some x /\ w.frozen? ⟨g,4,none⟩=false /\ w.cell? ⟨g,5,none⟩=some y /\ w.frozen? ⟨g,5,none⟩=false /\ w.cell? ⟨g,6,none⟩=some z /\ w.frozen? ⟨g,6,none⟩=false /\ w.cell? ⟨g,7,none⟩=some u /\ w.frozen? ⟨g,7,none⟩=false:=⟨h.at_ 0 rfl,h.free 0,h.at_ 1 rfl,h.free 1,h.at_ 2 rfl,h.free 2,h.at_ 3 rfl,h.free 3,h.at_ 4 rfl,h.free 4,h.at_ 5 rfl,h.free 5,h.at_ 6 rfl,h.free 6,h.at_ 7 rfl,h.free 7⟩
variable {n o:Nat} {S:World -> Prop}
theorem kN(h: w.cell? ⟨n,o,none⟩=some a):∀w',Below w.heap.size w w' -> w'.cell? ⟨n,o,none⟩=some a:=fun _ r=>(r.cell (World.block_lt_of_cell? w _ h)).trans h
theorem kC(h: w.cell? ⟨n,o,none⟩=some a)(r:∀w',Below w.heap.size w w' -> S w'):∀w',Below w.heap.size w w' -> w'.cell? ⟨n,o,none⟩=some a /\ S w':=fun _ t=>⟨kN h _ t,r _ t⟩
end
theorem aI(i:Nat){w:World}{g:Nat}{e:TypeId}{cs:List Value}{v:Value}(R:Hid (Row w g e cs))(h:cs[i]? =some v:=by rfl): w.cell? ⟨g,i,none⟩=some v:=R.out.at_ i h
theorem rG(w:World):Hid (Below w.heap.size w w):=lH (Below.refl _ _)
theorem mZ{p:Prop}(h:p:=by first | (simp[intOf];done) | (simp[intOf];omega)):p:=h
theorem _root_.Go.RowKit.Hid.o{p:Prop}(h:Hid p):p:=h
theorem oM{p:Prop}(h:p:=by omega):p:=h
theorem dC{p:Prop}(h:p:=by decide):p:=h
theorem kR{p:Prop}(h:p:=by kernel_rfl):p:=h
end
section
open Go.RowKit
theorem mF(A:Option Addr)(n c:Nat)(l:List Nat)(w:World)(hn:n=l.length)(hc:n <= c)(hm:c <= maxLen)(h:U32 w A l)(W:Dig l):
  Calls prog 127 #[.slice A n c] w fun e w'=>e= .returned (.slice A (ek (val l)).length c) /\ (ek (val l)).length <= l.length /\ w=w':=by
 unfold maxLen at hm;subst hn;obtain⟨G,M⟩:∃G:Nat -> Prop,∀k,G k↔(k <= l.length /\ (∀j,k <= j -> j<l.length -> dg l j=0) /\ (0<k -> dg l (k-1)≠0)):=⟨_,fun _=>Iff.rfl⟩
 have a0:Calls prog 127 #[.slice A l.length c] w fun e w'=>(∃k,G k /\ e= .returned (.slice A k c)) /\ w=w':=by
  have O:=lH M;clear M;go_enter func127,ntmps127
  go_wp2
  go_loop [0] (fun v=>∃k,k <= l.length /\ v= .slice A k c /\ (∀j,k <= j -> j<l.length -> dg l j=0)) (fun v=>vM v)
  case atStart=>exact⟨l.length,Nat.le_refl _,rfl,fun j h1 t=>absurd h1 oM⟩
  case round=>
   obtain⟨k,C,rfl,T⟩:=hrel;have E:=lH T;clear T;by_cases h0:0<k
   ·obtain⟨b,a2,rfl,hb,R⟩:=Cells.at_ h oM;have a1:=R (k-1) oM;have H:=lH h;clear R h
    go_wp2
    ·have r:(((dg l (k-1):Nat):Int)==0)=true:=by assumption
     have U:dg l (k-1)=0:=by simpa using r
     go_round
     case rel=>
      refine⟨k-1,by omega,rfl,fun j h1 t=> ?_⟩;by_cases Y:j=k-1
      ·rw[Y];exact U
      ·exact E.o j oM t
     case measure=>simp only[Cc];omega
    ·have r:(((dg l (k-1):Nat):Int)==0)=false:=by assumption
     go_ret
     exact⟨⟨k,(O.o k).2 ⟨C,E.o,fun _ h=>by rw[h] at r;simp at r⟩,rfl⟩,rfl⟩
   ·obtain rfl:k=0:=oM
    go_wp2
    go_ret
    exact⟨⟨0,(O.o 0).2 ⟨C,E.o,fun h=>absurd h oM⟩,rfl⟩,rfl⟩
 refine a0.mono ?_;rintro e w' ⟨⟨k,C,X⟩,hw⟩;obtain⟨h1,t,V⟩:=(M k).1 C;have ht:=vD W h1 t V;have Z:(ek (val l)).length=k:=by rw[<- ht,List.length_take];omega
 exact⟨by rw[Z];exact X,by omega,hw⟩
end
section
open Go.RowKit
def iH(w:World)(v:Value)(n:Nat):Prop:=
 ∃A c,v= .slice A (ek n).length c /\ (ek n).length <= c /\ c <= maxLen /\ U32 w A (ek n)
def eT(w:World)(v:Value)(n:Int):Prop:=
 ∃A c,v= .agg #[.bool (decide (n<0)), .slice A (ek n.natAbs).length c] /\ (ek n.natAbs).length <= c /\ c <= maxLen /\ U32 w A (ek n.natAbs)
theorem iH.below{w w':World}{v:Value}{n:Nat}(h:iH w v n)(r:Below w.heap.size w w'):iH w' v n:=by
 obtain⟨A,c,G,C,t,E⟩:=h;exact⟨A,c,G,C,t,Cells.below E r⟩
theorem eT.below{w w':World}{v:Value}{n:Int}(h:eT w v n)(r:Below w.heap.size w w'):eT w' v n:=by
 obtain⟨A,c,G,C,t,E⟩:=h;exact⟨A,c,G,C,t,Cells.below E r⟩
theorem iH.sM{w:World}{v:Value}{n:Nat}(h:iH w v n):nV w v (ek n):=by
 obtain⟨A,c,E,t,r,C⟩:=h;exact⟨A,c,E,t,r,C,fV n⟩
theorem eT.shape{w:World}{v:Value}{n:Int}(h:eT w v n):∃s A l c,v= .agg #[.bool s, .slice A l c]:=by
 obtain⟨A,c,r,_⟩:=h;exact⟨_,_,_,_,r⟩
theorem qy{w W h:World}{rb:Nat}{x y p q:Value}{n:Int}(C:Below w.heap.size w W)(r:Row h rb 38 [p,q])(U:∀n:Int,p≠ .int .u32 n)(V:∀n:Int,q≠ .int .u32 n)(E:w.heap.size <= rb)(O:Below W.heap.size W h)(T:eT h (.agg #[x,y]) n):
  eT ((h.setCell ⟨rb,0,none⟩ x).setCell ⟨rb,1,none⟩ y) (.agg #[x,y]) n /\ Below w.heap.size w ((h.setCell ⟨rb,0,none⟩ x).setCell ⟨rb,1,none⟩ y):=by
 obtain⟨A,c,t,h1,G,M⟩:=T;refine⟨⟨A,c,t,h1,G,M.kept (iP _ _ _ _ _ _) r ?_⟩,?_⟩
 ·intro v t n;simp only[List.mem_cons,List.not_mem_nil,or_false] at t
  rcases t with rfl | rfl
  ·exact U n
  ·exact V n
 ·have R:Below w.heap.size w h:=C.trans (O.mono C.size);exact(R.setCell (p:=⟨rb,0,none⟩) E _).setCell (p:=⟨rb,1,none⟩) E _
def sgn(neg:Bool)(n:Nat):Int:=if neg then -(n:Int) else n
theorem qz(neg:Bool)(n:Nat):(sgn neg n).natAbs=n:=by unfold sgn;split <;> omega
theorem Cf(neg:Bool)(n:Nat):decide (sgn neg n<0)=(neg && decide (0<n)):=by
 unfold sgn;cases neg <;> simp <;> omega
theorem Cg(x y:Int):sgn (decide (x<0) !=decide (y<0)) (x.natAbs*y.natAbs)=x*y:=by
 obtain⟨a,rfl | rfl⟩:=Int.eq_nat_or_neg x <;> obtain⟨b,rfl | rfl⟩:=Int.eq_nat_or_neg y <;>
  rcases Nat.eq_zero_or_pos a with h | h <;> rcases Nat.eq_zero_or_pos b with r | r <;> simp[sgn,h,r,Int.natAbs_neg,Int.mul_neg,Int.neg_mul] <;> omega
theorem lL(neg:Bool)(v:Value)(l:List Nat)(w:World)(h:nV w v l):
  Calls prog 106 #[.bool neg,v] w fun e w'=>∃v',e= .returned v' /\ eT w' v' (sgn neg (val l)) /\ Below w.heap.size w w':=by
 obtain⟨A,c,rfl,O,E,t,G⟩:=h;have M:=lH t;have C:=U32.below t ((Below.refl _ w).alloc (Nat.le_refl _) (.cells #[.bool false, .slice none 0 0] 38));have H:=lH C;have r:=lH G;clear t C G
 have R:Calls prog 106 #[.bool neg, .slice A l.length c] w fun e w'=>e= .returned (.agg #[.bool (neg && decide (0<(ek (val l)).length)), .slice A (ek (val l)).length c]) /\
   w'=w.alloc (.cells #[.bool (neg && decide (0<(ek (val l)).length)), .slice A (ek (val l)).length c] 38):=by
  cases neg
  all_goals
   go_enter func106,ntmps106;go_wp2_with fail
   refine(mF A _ c l _ rfl O E H.o r.o).mono ?_;rintro e T ⟨rfl,h1,rfl⟩;go_wp2_with fail
   go_returns;exact⟨by simp,by simp⟩
 refine R.mono ?_;rintro e w' ⟨rfl,rfl⟩;refine⟨_,rfl,⟨A,c,?_,?_,E,?_⟩,by go_grown⟩
 ·rw[qz,Cf];simp only[kI]
 ·rw[qz];have:=(qw r.o).1;omega
 ·rw[qz];exact(M.o.trimmed r.o).below (by go_grown)
end
section
open Go.RowKit
theorem Ch(A:Option Addr)(ca h t:Nat)(l:List Nat)(w:World)(ha:U32 w A l)(a5:Dig l)(ak:l.length<17592186044416)(X:h<4294967296)(a9:t<4294967296):
  Calls prog 151 #[.slice A l.length ca, .int .u32 (h:Nat), .int .u32 (t:Nat)] w fun e w'=>∃v,e= .returned v /\ iH w' v (h*val l+t) /\ Below w.heap.size w w':=by
 obtain⟨i0,a7,ab,ac,ad⟩:=info_parts mE;have ah:((h:Nat):Int)<4294967296:=oM
 have aa:((t:Nat):Int)<4294967296:=oM
 have af:=lH X;clear X a9;go_enter func151,ntmps151
 go_wp2_with (at_make;refine nz _ rfl (.tmp 13) (.tmp 13) 36 rfl 169 i0 (.int .u32 0) underlying36 a7 ab ac rfl _ _ _ rfl rfl rfl rfl ?_ ?_ ?_)
 ·first | omega | (rw[ad];omega)
 ·unfold maxLen;omega
 intro w1 r a3 an;have hr:=fA.made r;clear r;have HR:=lH hr;clear hr;go_wp2_with fail
 go_loopw [8,19] (fun cv U wr=>∃ (k c:Nat) (lo:List Nat),k <= l.length /\ cv= .int .u64 c /\ U= .int .i64 k /\ fA wr w.heap.size lo /\ lo.length=l.length+1 /\ Dig lo /\ ((c:Nat):Int)<4294967296 /\ Hid (val (lo.take k)+BB^k*c=h*val (l.take k)+t) /\ Below w.heap.size w wr)
  (fun _ U _=>l.length-(intOf U).toNat)
 case atStart=>exact⟨0,t,_,Nat.zero_le _,rfl,rfl,HR.o,List.length_replicate,Dig.replicate _,aa,by show _=_;simp[val],a3⟩
 case round=>
  obtain⟨k,c,lo,hk,rfl,rfl,r,O,a0,ai,a1,E⟩:=hrel;have V:=lH a0;clear a0;by_cases a8:k<l.length
  ·obtain⟨b,ae,rfl,a4,Y⟩:=Cells.at_ ha oM;have Z:=Y k a8;have ag:((dg l k:Nat):Int)<4294967296:=by have:=a5 k;omega
   have R:((dg l k*h:Nat):Int) <= 18446744065119617025:=by
    have:=Nat.mul_le_mul (show dg l k <= 4294967295 by omega) (show h <= 4294967295 by omega);omega
   have am:((dg l k:Nat):Int)* (h:Nat) <= 18446744065119617025:=by rw[<- Int.natCast_mul];exact R
   have al:0 <= ((dg l k:Nat):Int)* (h:Nat):=by rw[<- Int.natCast_mul];omega
   have hg:=r.cell (j:=k) oM;have a6:=r.free k;have aj:=((fu E).1 b (ae+k) a4).trans Z;have HM:=lH R;clear Y Z R;go_wp2_with fail
   go_roundw
   case rel=>
    refine⟨k+1,(c+dg l k*h) / 4294967296,lo.set k ((c+dg l k*h)%4294967296),by omega,by simp,by simp,r.set k _ (by simp),by rw[List.length_set];exact O,V.o.set _ _ (Nat.mod_lt _ oM),?_,vF oM a1 rfl,E.setCell (Nat.le_refl _) _⟩;have:=HM.o;omega
   case measure=>simp[intOf];omega
  ·obtain rfl:k=l.length:=oM
   have a6:=r.free l.length;have hg:=r.cell (j:=l.length) oM;go_wp2_with fail
   have T:=r.set l.length c rfl;have M:(lo.set l.length c).length=l.length+1:=by rw[List.length_set];exact O
   have G:Dig (lo.set l.length c):=V.o.set _ _ oM;have h1:=kJ lo l.length c oM;rw[<- M,jb (Nat.le_refl _),a1.o,jb (Nat.le_refl _)] at h1;have W:=E.setCell (p:=⟨w.heap.size,l.length,none⟩) (Nat.le_refl _) (Value.int .u32 (c:Nat));refine(mF _ _ _ _ _ M.symm (Nat.le_refl _) (show l.length+1 <= maxLen by unfold maxLen;omega) T.u32 G).mono ?_;rintro e w2 ⟨rfl,a2,rfl⟩;have C:=lH h1;have HT:=lH (T.u32.trimmed G);have HB:=lH W;clear h1 T G M W;go_wp2_with fail
   go_returns;refine⟨_,rfl,⟨_,l.length+1,by rw[<- C.o];rfl,?_,by unfold maxLen;omega,?_⟩,HB.o⟩
   ·rw[<- C.o];rw[List.length_set,O] at a2;exact a2
   ·rw[<- C.o];exact HT.o
end
section
open Go.Lib
theorem vQ(q d:Nat)(r:0<q)(h:d<10):decDigits (q*10+d)=decDigits q++ [UInt8.ofNat (48+d)]:=by
 rw[decDigits,dif_neg (by omega),show(q*10+d) / 10=q by omega,show(q*10+d)%10=d by omega]
def jI:Nat -> Nat -> List UInt8
 | 0,_=>[]
 | k+1,r=>jI k (r / 10)++ [UInt8.ofNat (48+r%10)]
theorem vR(k r:Nat):(jI k r).length=k:=by
 induction k generalizing r with
 | zero=>rfl
 | succ k h=>simp[jI,h]
theorem Ci(k:Nat):∀ (q r:Nat),0<q -> r<10^k -> decDigits (q*10^k+r)=decDigits q++jI k r:=by
 induction k with
 | zero=>intro q r _ h;rw[Nat.pow_zero] at h;rw[show r=0 by omega];simp[jI]
 | succ k C=>
  intro q r t h;rw[Nat.pow_succ] at h
  have e:q*10^ (k+1)+r=(q*10^k+r / 10)*10+r%10:=by
   rw[Nat.pow_succ,Nat.add_mul,Nat.mul_assoc];omega
  have E:0<q*10^k:=Nat.mul_pos t (Nat.pow_pos (by decide));rw[e,vQ _ _ (by omega) (Nat.mod_lt _ (by decide)),C q (r / 10) t (by omega),jI,List.append_assoc]
theorem Cj(k:Nat)(b:UInt8):repeatL [b] k++ [b]=b::repeatL [b] k:=by
 induction k with
 | zero=>rfl
 | succ k h=>rw[repeatL,List.append_assoc,h];rfl
theorem Ck(k:Nat):jI k 0=repeatL [48] k:=by
 induction k with
 | zero=>rfl
 | succ k h=>
  show jI k (0 / 10)++ [UInt8.ofNat (48+0%10)]=_;rw[Nat.zero_div,h];show repeatL [48] k++ [48]= [48]++repeatL [48] k;rw[Cj];rfl
theorem nW(k:Nat):∀r,r<10^ (k+1) -> (decDigits r).length <= k+1:=by
 induction k with
 | zero=>intro r t;rw[decDigits_one (by simpa using t)];simp
 | succ k C=>
  intro r t;by_cases h:r<10
  ·rw[decDigits_one h];simp
  ·rw[decDigits,dif_neg h,List.length_append];rw[Nat.pow_succ] at t;have:=C (r / 10) (by omega);simp;omega
theorem Cm(k:Nat):∀r,r<10^ (k+1) -> repeatL [48] (k+1-(decDigits r).length)++decDigits r=jI (k+1) r:=by
 induction k with
 | zero=>intro r t;rw[decDigits_one (by simpa using t)];simp[jI,repeatL];congr 1;omega
 | succ k C=>
  intro r t;by_cases h:r<10
  ·rw[decDigits_one h,jI,show r / 10=0 by omega,Ck,show r%10=r by omega];rfl
  ·rw[Nat.pow_succ] at t;have h1:=C (r / 10) (by omega);rw[jI, <- h1,decDigits,dif_neg h,List.length_append,List.append_assoc];have E:=nW k (r / 10) (by omega);rw[show k+1+1-((decDigits (r / 10)).length+ [UInt8.ofNat (48+r%10)].length)=k+1-(decDigits (r / 10)).length by simp]
theorem Cn(xs:List (List UInt8)):join xs []=xs.flatten:=by
 unfold join
 induction xs with
 | nil=>rfl
 | cons x xs h=>
  rcases xs with _ | ⟨y,r⟩
  ·simp[List.intercalate]
  ·rw[List.flatten_cons, <- h];simp[List.intercalate,List.intersperse]
def ahead(m:Nat):List UInt8:=if m=0 then [] else decDigits m
def jc(m:Nat):List UInt8:=if m / 1000000000=0 then decDigits (m%1000000000) else jI 9 (m%1000000000)
theorem vS{m:Nat}(t:0<m):ahead m=ahead (m / 1000000000)++jc m:=by
 unfold ahead jc;rw[if_neg (by omega)];have r:=Nat.div_add_mod m 1000000000;by_cases h:m / 1000000000=0
 ·rw[if_pos h,if_pos h];rw[h] at r;rw[List.nil_append];congr 1;omega
 ·rw[if_neg h,if_neg h];have:=Ci 9 (m / 1000000000) (m%1000000000) (by omega) (Nat.mod_lt _ (by decide));rw[<- this];congr 1;show m=m / 1000000000*1000000000+m%1000000000;omega
end
end Go.Proofs.YtokagbahdkfagaaGreatDoor
