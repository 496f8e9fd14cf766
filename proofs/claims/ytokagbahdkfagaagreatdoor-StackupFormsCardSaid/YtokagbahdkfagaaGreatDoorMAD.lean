/- Parts of this proof: MathT Txt Rune Parse Parsed QTxt. -/
import Derived.Test.YtokagbahdkfagaaGreatDoorMAC
import Derived.Lib.TrimUEq
import Derived.Lib.ParseIntB
import Derived.Shelf.GgClosure.StringsIndexFunc
import Derived.Test.YtokagbahdkfagaaGreatDoorMAA
import Derived.Deep.LoopGhost
namespace Go.Proofs.YtokagbahdkfagaaGreatDoor
open Tryz
namespace T
open Go.Proofs.YtokagbahdkfagaaGreatDoor (dg oI mW dg_succ mo kU mX rY iM nT oJ)
def BB:Nat:=10
theorem iy:BB=10:=rfl
def Dig(l:List Nat):Prop:=∀k,dg l k<10
theorem Dig.nil:Dig []:=fun k=>by rw[oI];omega
theorem Dig.take{l:List Nat}(h:Dig l)(n:Nat):Dig (l.take n):=fun k=>by rw[mX];split <;> first | exact h k | omega
theorem Dig.set{l:List Nat}(h:Dig l)(i x:Nat)(r:x<10):Dig (l.set i x):=fun k=>by rw[iM];split <;> first | exact h k | exact r
theorem Dig.replicate(n:Nat):Dig (List.replicate n 0):=fun k=>by rw[nT];split <;> omega
theorem Dig.cons{d:Nat}{l:List Nat}(r:d<10)(h:Dig l):Dig (d::l):=fun k=>by
 cases k with
 | zero=>exact r
 | succ k=>exact h k
theorem Dig.tail{d:Nat}{l:List Nat}(h:Dig (d::l)):Dig l:=fun k=>h (k+1)
theorem Dig.head{d:Nat}{l:List Nat}(h:Dig (d::l)):d<10:=h 0
theorem Dig.append{l m:List Nat}(h:Dig l)(r:Dig m):Dig (l++m):=fun k=>by rw[rY];split;exact h k;exact r _
def val:List Nat -> Nat
 | []=>0
 | d::l=>d+BB*val l
theorem vw:val []=0:=rfl
theorem vB(d:Nat)(l:List Nat):val (d::l)=d+BB*val l:=rfl
theorem val_append(l m:List Nat):val (l++m)=val l+BB^l.length*val m:=by
 induction l with
 | nil=>simp[val]
 | cons d l h=>simp only[List.cons_append,val,h,List.length_cons,Nat.pow_succ];rw[Nat.mul_add, <- Nat.add_assoc];congr 1;rw[Nat.mul_comm (BB^l.length) BB,Nat.mul_assoc]
theorem vC(n:Nat):val (List.replicate n 0)=0:=by
 induction n with
 | zero=>rfl
 | succ n h=>simp[List.replicate_succ,val,h]
theorem kD{l:List Nat}(h:Dig l):val l<BB^l.length:=by
 induction l with
 | nil=>simp[val]
 | cons d l t=>
  have h1:=t h.tail;have C:=h.head;have r:BB*val l+BB <= BB*BB^l.length:=by rw[<- Nat.mul_succ];exact Nat.mul_le_mul_left _ h1
  simp only[val,List.length_cons,Nat.pow_succ,Nat.mul_comm (BB^l.length) BB];simp only[iy] at r ⊢;omega
theorem iB(l:List Nat)(k:Nat):val (l.take (k+1))=val (l.take k)+BB^k*dg l k:=by
 induction l generalizing k with
 | nil=>simp[val,oI]
 | cons d l h=>
  cases k with
  | zero=>simp[val,mW]
  | succ k=>simp only[List.take_succ_cons,val,h,dg_succ,Nat.pow_succ];rw[Nat.mul_add,Nat.mul_comm (BB^k) BB,Nat.mul_assoc];omega
theorem jb{l:List Nat}{k:Nat}(h:l.length <= k):val (l.take k)=val l:=by rw[List.take_of_length_le h]
theorem oK{l m:List Nat}(t:Dig l)(C:Dig m)(r:l.length=m.length)(h:val l=val m):l=m:=by
 induction l generalizing m with
 | nil=>cases m with
  | nil=>rfl
  | cons _ _=>simp at r
 | cons d l G=>cases m with
  | nil=>simp at r
  | cons e m=>
   have h1:=t.head;have M:=C.head;simp only[val,iy] at h;have E:d=e:=by omega
   have:val l=val m:=by omega
   rw[E,G t.tail C.tail (by simpa using r) this]
def Can(l:List Nat):Prop:=Dig l /\ (0<l.length -> dg l (l.length-1)≠0)
theorem lK{n:Nat}(h:0<n):n / BB<n:=Nat.div_lt_self h (by decide)
def ek(n:Nat):List Nat:=if _h:n=0 then [] else n%BB::ek (n / BB)
termination_by n
decreasing_by exact lK (by omega)
theorem il:ek 0= []:=by unfold ek;simp
theorem jR{n:Nat}(h:0<n):ek n=n%BB::ek (n / BB):=by rw[ek,dif_neg (by omega)]
theorem fC(n:Nat):val (ek n)=n:=by
 induction n using Nat.strongRecOn with
 | _ n r=>
  by_cases h:n=0
  ·subst h;rw[il];rfl
  ·rw[jR (by omega),val,r _ (lK (by omega))];exact Nat.mod_add_div n BB
theorem fV(n:Nat):Dig (ek n):=by
 induction n using Nat.strongRecOn with
 | _ n r=>
  by_cases h:n=0
  ·subst h;rw[il];exact Dig.nil
  ·rw[jR (by omega)];exact Dig.cons (Nat.mod_lt _ (by decide)) (r _ (lK (by omega)))
theorem kV(n:Nat):Can (ek n):=by
 refine⟨fV n,?_⟩
 induction n using Nat.strongRecOn with
 | _ n G=>
  by_cases h:n=0
  ·subst h;rw[il];intro h;simp at h
  ·rw[jR (by omega)];intro _;by_cases r:n / BB=0
   ·rw[r,il];simp only[List.length_cons,List.length_nil,Nat.zero_add,Nat.sub_self,mW];have:=Nat.mod_add_div n BB;rw[r] at this;simp only[Nat.mul_zero,Nat.add_zero] at this;omega
   ·have E:0<(ek (n / BB)).length:=by rw[jR (Nat.pos_of_ne_zero r)];simp
    have t:=G _ (lK (by omega)) E;obtain⟨m,C⟩:∃m,(ek (n / BB)).length=m+1:=⟨(ek (n / BB)).length-1,by omega⟩
    rw[C] at t;simp only[List.length_cons,C,Nat.add_sub_cancel,dg_succ] at t ⊢;exact t
theorem rZ{d:Nat}{l:List Nat}(h:Can (d::l)):Can l:=by
 refine⟨h.1.tail,fun t=> ?_⟩;have:=h.2 (by simp);obtain⟨m,r⟩:∃m,l.length=m+1:=⟨l.length-1,by omega⟩
 simp only[List.length_cons,r,Nat.add_sub_cancel,dg_succ] at this ⊢;exact this
theorem nU{l:List Nat}(h:Can l)(r:0<l.length):BB^ (l.length-1) <= val l:=by
 induction l with
 | nil=>simp at r
 | cons d l t=>
  cases l with
  | nil=>
   have:=h.2 (by simp);simp only[List.length_cons,List.length_nil,Nat.zero_add,Nat.sub_self,mW] at this;simp[val];omega
  | cons e l=>
   have:=t (rZ h) (by simp);simp only[List.length_cons,Nat.add_sub_cancel] at this ⊢;rw[val,Nat.pow_succ,Nat.mul_comm];have C:BB*BB^l.length <= BB*val (e::l):=Nat.mul_le_mul_left _ this;omega
theorem mY{l m:List Nat}(r:Can l)(t:Dig m)(h:val l <= val m):l.length <= m.length:=by
 rcases Nat.lt_or_ge m.length l.length with h1 | h1
 ·have C:=nU r (by omega);have E:=kD t;have G:BB^m.length <= BB^ (l.length-1):=Nat.pow_le_pow_right (by decide) (by omega);omega
 ·exact h1
theorem sD{l m:List Nat}(r:Can l)(t:Can m)(h:val l=val m):l=m:=
 oK r.1 t.1 (Nat.le_antisymm (mY r t.1 (by omega)) (mY t r.1 (by omega))) h
theorem sF{l:List Nat}(h:Can l):l=ek (val l):=sD h (kV _) (by rw[fC])
theorem jS{n k:Nat}(h:n<BB^k):(ek n).length <= k:=by
 rcases Nat.lt_or_ge k (ek n).length with h1 | h1
 ·have r:=nU (kV n) (by omega);rw[fC] at r;have t:BB^k <= BB^ ((ek n).length-1):=Nat.pow_le_pow_right (by decide) (by omega);omega
 ·exact h1
theorem nk(n:Nat):n<BB^ (ek n).length:=by have:=kD (fV n);rwa [fC] at this
theorem jT{n m:Nat}(h:n <= m):(ek n).length <= (ek m).length:=jS (Nat.lt_of_le_of_lt h (nk m))
theorem kI{n:Nat}:0<(ek n).length↔0<n:=by
 constructor
 ·intro h
  rcases Nat.eq_zero_or_pos n with h0 | h0
  ·subst h0;rw[il] at h;simp at h
  ·exact h0
 ·intro h;rw[jR h];simp
theorem oL{n:Nat}:(ek n).length=0↔n=0:=by
 have:= @kI n;omega
theorem vD{l:List Nat}{k:Nat}(C:Dig l)(E:k <= l.length)(R:∀j,k <= j -> j<l.length -> dg l j=0)(M:0<k -> dg l (k-1)≠0):l.take k=ek (val l):=by
 have G:(l.take k).length=k:=by rw[List.length_take];omega
 have t:Can (l.take k):=by
  refine⟨C.take k,fun h=> ?_⟩;rw[G] at h ⊢;rw[mX,if_pos (by omega)];exact M h
 have O:val (l.take k)=val l:=by
  have h1:∀i,k <= i -> val (l.take i)=val (l.take k):=by
   intro i U
   induction i with
   | zero=>
    have:k=0:=by omega
    subst this;rfl
   | succ i T=>
    by_cases h:k <= i
    ·rw[iB,T h];by_cases r:i<l.length
     ·rw[R i h r];simp
     ·rw[mo (by omega)];simp
    ·have:k=i+1:=by omega
     subst this;rfl
  have:=h1 l.length E
  rwa [List.take_of_length_le (Nat.le_refl _),eq_comm] at this
 rw[<- O];exact sF t
theorem qw{l:List Nat}(h:Dig l):(ek (val l)).length <= l.length /\ l.take (ek (val l)).length=ek (val l):=by
 have h1:(ek (val l)).length <= l.length:=jS (kD h);refine⟨h1,?_⟩;have t:=fC (val l)
 have r:val l=val (l.take (ek (val l)).length)+BB^ (ek (val l)).length*val (l.drop (ek (val l)).length):=by
  have:=val_append (l.take (ek (val l)).length) (l.drop (ek (val l)).length);rw[List.take_append_drop,List.length_take,Nat.min_eq_left h1] at this;exact this
 have E:=nk (val l)
 have C:val (l.drop (ek (val l)).length)=0:=by
  rcases Nat.eq_zero_or_pos (val (l.drop (ek (val l)).length)) with h0 | h0
  ·exact h0
  ·have:=Nat.mul_le_mul_left (BB^ (ek (val l)).length) h0;omega
 rw[C,Nat.mul_zero,Nat.add_zero] at r;exact oK (h.take _) (fV _) (by rw[List.length_take];omega) (by rw[t];exact r.symm)
theorem kJ(l:List Nat)(k x:Nat)(h:k<l.length):val ((l.set k x).take (k+1))=val (l.take k)+BB^k*x:=by
 rw[iB,iM,if_pos ⟨rfl,h⟩];congr 2;apply List.ext_getElem?;intro j;rw[List.getElem?_take,List.getElem?_take,List.getElem?_set];split
 ·rw[if_neg (by omega)]
 ·rfl
theorem kK(P s:Nat):P* (s%10)+P*BB* (s / 10)=P*s:=by
 rw[Nat.mul_assoc, <- Nat.mul_add,iy,Nat.mod_add_div]
theorem sG{lo r t:List Nat}{k c s:Nat}(C:k<lo.length)(h:val (lo.take k)+BB^k*c=val (r.take k)+val (t.take k))(E:s=c+dg r k+dg t k):
  val ((lo.set k (s%10)).take (k+1))+BB^ (k+1)* (s / 10)=val (r.take (k+1))+val (t.take (k+1)):=by
 rw[kJ _ _ _ C,iB,iB,Nat.pow_succ];have:=kK (BB^k) s;have e:BB^k*s=BB^k*c+BB^k*dg r k+BB^k*dg t k:=by rw[E,Nat.mul_add,Nat.mul_add]
 omega
theorem sH{lo r lb:List Nat}{k c c' x:Nat}(t:k<lo.length)(h:val (r.take k)+BB^k*c=val (lo.take k)+val (lb.take k))(C:dg r k+10*c'=x+c+dg lb k):
  val (r.take (k+1))+BB^ (k+1)*c'=val ((lo.set k x).take (k+1))+val (lb.take (k+1)):=by
 rw[kJ _ _ _ t,iB,iB,Nat.pow_succ];have e:BB^k* (dg r k+10*c')=BB^k* (x+c+dg lb k):=by rw[C]
 rw[Nat.mul_add,Nat.mul_add,Nat.mul_add, <- Nat.mul_assoc] at e;simp only[<- iy] at e;omega
theorem vE{lo r lb:List Nat}{c:Nat}(t:Dig lo)(E:val lb <= val r)(C:c <= 1)(h:val r+BB^lo.length*c=val lo+val lb):val lo=val r-val lb:=by
 have h1:=kD t
 rcases(show c=0 \/ c=1 by omega) with rfl | rfl <;> omega
theorem vF{lo l:List Nat}{k c b p s:Nat}(r:k<lo.length)(h:val (lo.take k)+BB^k*c=b*val (l.take k)+p)(t:s=c+dg l k*b):
  val ((lo.set k (s%10)).take (k+1))+BB^ (k+1)* (s / 10)=b*val (l.take (k+1))+p:=by
 rw[kJ _ _ _ r,iB,Nat.pow_succ];have:=kK (BB^k) s;have e:BB^k*s=BB^k*c+b* (BB^k*dg l k):=by rw[t,Nat.mul_add,Nat.mul_comm (dg l k) b,Nat.mul_left_comm]
 rw[Nat.mul_add];omega
theorem kW(l:List Nat)(k:Nat)(h:k<l.length):val (l.drop k)=dg l k+BB*val (l.drop (k+1)):=by
 rw[List.drop_eq_getElem_cons h,val,kU h]
theorem oN(l:List Nat)(k x:Nat)(h:k<l.length):val ((l.set k x).drop k)=x+BB*val (l.drop (k+1)):=by
 rw[kW _ _ (by rw[List.length_set];exact h),iM,if_pos ⟨rfl,h⟩];congr 3;rw[List.drop_set];simp
def iE(a b:Nat):Int:=if a<b then -1 else if a=b then 0 else 1
theorem sI{l m:List Nat}(r:Dig l)(t:Can m)(h:l.length<m.length):val l<val m:=by
 rcases Nat.lt_or_ge (val l) (val m) with h1 | h1
 ·exact h1
 ·have:=mY t r h1;omega
theorem vG{l m:List Nat}(r:l.length=m.length)(h:∀j,j<l.length -> dg l j=dg m j):val l=val m:=by rw[oJ r h]
theorem sJ{l m:List Nat}{k:Nat}(G:Dig l)(R:l.length=m.length)(O:k<l.length)(h:∀j,k<j -> j<l.length -> dg l j=dg m j)(V:dg l k<dg m k):val l<val m:=by
 have E:l.drop (k+1)=m.drop (k+1):=by
  apply oJ
  ·rw[List.length_drop,List.length_drop,R]
  ·intro j M;rw[List.length_drop] at M;have:=h (k+1+j) (by omega) (by omega);unfold dg at this ⊢
   simpa [List.getD_eq_getElem?_getD,List.getElem?_drop] using this
 have T:val l=val (l.take k)+BB^k*val (l.drop k):=by
  have:=val_append (l.take k) (l.drop k)
  rwa [List.take_append_drop,List.length_take,Nat.min_eq_left (by omega)] at this
 have U:val m=val (m.take k)+BB^k*val (m.drop k):=by
  have:=val_append (m.take k) (m.drop k)
  rwa [List.take_append_drop,List.length_take,Nat.min_eq_left (by omega)] at this
 have r:val (l.drop k)+1 <= val (m.drop k):=by
  rw[kW l _ O,kW m _ (by omega),E];omega
 have t:=kD (G.take k);rw[List.length_take,Nat.min_eq_left (by omega)] at t;have C:BB^k* (val (l.drop k)+1) <= BB^k*val (m.drop k):=Nat.mul_le_mul_left _ r;rw[Nat.mul_add] at C;omega
theorem oO(l:List Nat)(i x:Nat)(h:i<l.length):val (l.set i x)+BB^i*dg l i=val l+BB^i*x:=by
 have r:val (l.set i x)=val (l.take i)+BB^i*val ((l.set i x).drop i):=by
  have:=val_append ((l.set i x).take i) ((l.set i x).drop i);rw[List.take_append_drop,List.length_take,List.length_set,Nat.min_eq_left (by omega)] at this;rw[this,List.take_set,List.set_eq_of_length_le];rw[List.length_take];omega
 have t:val l=val (l.take i)+BB^i*val (l.drop i):=by
  have:=val_append (l.take i) (l.drop i)
  rwa [List.take_append_drop,List.length_take,Nat.min_eq_left (by omega)] at this
 rw[r,t,oN _ _ _ h,kW _ _ h,Nat.mul_add,Nat.mul_add];omega
theorem vI{lo lb:List Nat}{i j c x s V:Nat}(r:i+j<lo.length)(h:val lo+BB^ (i+j)*c=V+BB^i* (x*val (lb.take j)))(t:s=c+ (x*dg lb j+dg lo (i+j))):
  val (lo.set (i+j) (s%10))+BB^ (i+ (j+1))* (s / 10)=V+BB^i* (x*val (lb.take (j+1))):=by
 have h1:=oO lo (i+j) (s%10) r;have C:=kK (BB^ (i+j)) s
 have e:BB^ (i+j)*s=BB^ (i+j)*c+ (BB^i* (x* (BB^j*dg lb j))+BB^ (i+j)*dg lo (i+j)):=by
  rw[t,Nat.mul_add,Nat.mul_add,Nat.pow_add];congr 2;rw[Nat.mul_assoc,Nat.mul_left_comm (BB^j) x]
 rw[iB,Nat.mul_add,Nat.mul_add, <- Nat.add_assoc i j 1,Nat.pow_succ];omega
theorem vJ{lo lb r:List Nat}{i c V:Nat}(C:i+lb.length<lo.length)(E:dg lo (i+lb.length)=0)(h:val lo+BB^ (i+lb.length)*c=V+BB^i* (dg r i*val (lb.take lb.length)))(t:V=val (r.take i)*val lb):
  val (lo.set (i+lb.length) c)=val (r.take (i+1))*val lb:=by
 have h1:=oO lo (i+lb.length) c C;rw[E,Nat.mul_zero,Nat.add_zero] at h1;rw[h1,h,t,jb (Nat.le_refl _),iB,Nat.add_mul,Nat.mul_assoc]
end T
section
open Go.Lib
def txt(a:Int):ByteArray:=⟨(itoa a).toArray⟩
theorem Co(a:Int):(txt a).data.toList=itoa a:=by simp[txt]
def chr(d:Nat):UInt8:=UInt8.ofNat (48+d)
theorem Cq{d:Nat}(h:d<10):(chr d).toNat=48+d:=by unfold chr;simp;omega
theorem nX:decDigits 0= [48]:=by rw[decDigits_one (by omega)];rfl
theorem Cr(n:Nat):0<n -> decDigits n=(T.ek n).reverse.map chr:=by
 induction n using Nat.strongRecOn with
 | _ n E=>
  intro h;rw[T.jR h];by_cases C:n<10
  ·rw[decDigits_one C];have r:n / T.BB=0:=by rw[T.iy];omega
   have t:n%T.BB=n:=by rw[T.iy];omega
   rw[r,t,T.il];rfl
  ·rw[decDigits,dif_neg C];have r:n / T.BB=n / 10:=by rw[T.iy]
   have t:n%T.BB=n%10:=by rw[T.iy]
   rw[r,t,E (n / 10) (by omega) (by omega)];simp[chr]
theorem sN(n:Nat):0<(decDigits n).length:=by
 rw[decDigits];split <;> simp
def gu(c:UInt8):Bool:=decide (48 <= c.toNat) && decide (c.toNat <= 57)
theorem lM{c:UInt8}:gu c=true↔48 <= c.toNat /\ c.toNat <= 57:=by unfold gu;simp
theorem Cs{d:Nat}(h:d<10):gu (chr d)=true:=by rw[lM,Cq h];omega
theorem nA(n:Nat):∀c ∈ decDigits n,gu c=true:=by
 rcases Nat.eq_zero_or_pos n with h | h
 ·subst h;rw[nX];intro c r;simp at r;subst r;rfl
 ·rw[Cr n h];intro c r;rw[List.mem_map] at r;obtain⟨d,t,rfl⟩:=r;rw[List.mem_reverse] at t;obtain⟨i,C,rfl⟩:=List.getElem_of_mem t;have:=T.fV n i;rw[kU C] at this;exact Cs this
def dv(l:List UInt8):Nat:=l.foldl (fun a c=>10*a+ (c.toNat-48)) 0
theorem vT(l:List UInt8)(c:UInt8):dv (l++ [c])=10*dv l+ (c.toNat-48):=by unfold dv;rw[List.foldl_append];rfl
theorem Ct(l:List UInt8):∀a,l.foldl (fun a c=>10*a+ (c.toNat-48)) a=10^l.length*a+dv l:=by
 induction l with
 | nil=>intro a;simp[dv]
 | cons c l h=>
  intro a;unfold dv;rw[List.foldl_cons,List.foldl_cons,h,h (10*0+ (c.toNat-48)),List.length_cons,Nat.pow_succ];rw[Nat.mul_add,Nat.mul_zero,Nat.zero_add, <- Nat.mul_assoc,Nat.add_assoc]
theorem sO(l m:List UInt8):dv (l++m)=10^m.length*dv l+dv m:=by
 unfold dv;rw[List.foldl_append,Ct];rfl
theorem oP{l:List UInt8}(h:∀c ∈ l,gu c=true):dv l<10^l.length:=by
 induction l with
 | nil=>simp[dv]
 | cons c l E=>
  have h1:=E (fun x C=>h x (List.mem_cons_of_mem _ C));have G:=lM.1 (h c (List.mem_cons_self ..));have r:=sO [c] l;have t:dv [c]=c.toNat-48:=by unfold dv;simp
  rw[List.singleton_append,t] at r;rw[r,List.length_cons,Nat.pow_succ];have M:10^l.length* (c.toNat-48) <= 10^l.length*9:=Nat.mul_le_mul_left _ (by omega);omega
theorem Cu{P:List UInt8 -> Prop}(h0:P [])(h1:∀l c,P l -> P (l++ [c]))(l:List UInt8):P l:=by
 have:∀m:List UInt8,P m.reverse:=by
  intro m
  induction m with
  | nil=>exact h0
  | cons c m h=>rw[List.reverse_cons];exact h1 _ _ h
 have:=this l.reverse
 rwa [List.reverse_reverse] at this
theorem jJ(n:Nat):dv (decDigits n)=n:=by
 induction n using Nat.strongRecOn with
 | _ n h=>
  rw[decDigits];split
  ·unfold dv;simp;omega
  ·rw[vT,h _ (by omega)];simp;omega
theorem sP(l:List UInt8):l≠ [] -> (∀c ∈ l,gu c=true) -> (l.head? =some 48 -> l.length <= 1) -> decDigits (dv l)=l:=by
 induction l using Cu with
 | h0=>intro h;exact absurd rfl h
 | h1 l c T=>
  intro _ E G;have U:=lM.1 (E c (by simp));rw[vT];by_cases r:l= []
  ·subst r;rw[show dv []=0 from rfl,decDigits_one (by omega)];simp only[List.nil_append,List.cons.injEq,and_true];apply UInt8.toNat_inj.1;simp;omega
  ·have V:0<l.length:=List.length_pos_iff.2 r;have M:(l++ [c]).head? = l.head? :=by rw[List.head?_append];cases l with | nil=>exact absurd rfl r | cons _ _=>rfl
   rw[M,List.length_append,List.length_singleton] at G;have C: l.head? ≠some 48:=fun h=>by have:=G h;omega
   have t:=T r (fun x R=>E x (by simp[R])) (fun h=>absurd h C)
   have O:0<dv l:=by
    rcases Nat.eq_zero_or_pos (dv l) with h0 | h0
    ·rw[h0,nX] at t;rw[<- t] at C;exact absurd rfl C
    ·exact h0
   rw[show 10*dv l+ (c.toNat-48)=dv l*10+ (c.toNat-48) by omega,vQ _ _ O (by omega),t];congr 1;simp only[List.cons.injEq,and_true];apply UInt8.toNat_inj.1;simp;omega
def body(l:List UInt8):List UInt8:=if l.head? =some 45 then l.tail else l
def chk(l:List UInt8):Nat:=
 if body l= [] then 14 else if(body l).all gu=false then 14 else if(body l).head? =some 48 /\ (1<(body l).length \/ l.head? =some 45) then 3 else 0
theorem nY{l:List UInt8}(h:chk l=0):∃a:Int,l=itoa a /\ body l=decDigits a.natAbs /\ (l.head? =some 45↔a<0):=by
 unfold chk at h;split at h
 ·omega
 rename_i h1;split at h
 ·omega
 rename_i M;split at h
 ·omega
 rename_i G
 have O:∀c ∈ body l,gu c=true:=by
  have:(body l).all gu=true:=by simpa using M
  exact List.all_eq_true.1 this
 have t:=sP (body l) h1 O (fun R=>by
  rcases Nat.lt_or_ge 1 (body l).length with C | C
  ·exact absurd ⟨R, .inl C⟩ G
  ·exact C)
 by_cases r: l.head? =some 45
 ·have E:l=45::body l:=by
   unfold body;rw[if_pos r];cases l with
   | nil=>simp at r
   | cons c l=>simp at r;rw[r];rfl
  have T:0<dv (body l):=by
   rcases Nat.eq_zero_or_pos (dv (body l)) with h0 | h0
   ·rw[h0,nX] at t;exact absurd ⟨by rw[<- t];rfl, .inr r⟩ G
   ·exact h0
  refine⟨-(dv (body l):Int),?_,?_,?_⟩
  ·unfold itoa;rw[if_pos (by omega)];have:(-(dv (body l):Int)).natAbs=dv (body l):=by omega
   rw[this,t];exact E
  ·have:(-(dv (body l):Int)).natAbs=dv (body l):=by omega
   rw[this,t]
  ·exact⟨fun _=>by omega,fun _=>r⟩
 ·have E:l=body l:=by unfold body;rw[if_neg r]
  refine⟨(dv (body l):Int),?_,?_,?_⟩
  ·unfold itoa;rw[if_neg (by omega),Int.toNat_natCast,t];exact E
  ·rw[Int.natAbs_natCast,t]
  ·exact⟨fun h=>absurd h r,fun h=>by omega⟩
theorem itoa_neg{a:Int}(h:a<0):itoa a=45::decDigits a.natAbs:=by unfold itoa;rw[if_pos h]
theorem jK{a:Int}(h:¬a<0):itoa a=decDigits a.natAbs:=by unfold itoa;rw[if_neg h,show a.toNat=a.natAbs by omega]
theorem sQ{a b:Int}(h:itoa a=itoa b):a=b:=by
 have C:∀n m:Nat,decDigits n=decDigits m -> n=m:=fun n m h=>by rw[<- jJ n,h,jJ]
 have no:∀n m:Nat,decDigits n≠45::decDigits m:=fun n m h=>by
  have:=nA n 45 (by rw[h];simp);simp[gu] at this
 by_cases r:a<0 <;> by_cases t:b<0
 ·rw[itoa_neg r,itoa_neg t] at h;have:=C _ _ (List.cons.inj h).2;omega
 ·rw[itoa_neg r,jK t] at h;exact absurd h.symm (no _ _)
 ·rw[jK r,itoa_neg t] at h;exact absurd h (no _ _)
 ·rw[jK r,jK t] at h;have:=C _ _ h;omega
theorem Cv:itoa 0= [48]:=by rw[jK (by omega)];exact nX
end
section
open Go.Lib
def kY(r:Nat):Bool:= !(decide (48 <= r) && decide (r <= 57))
theorem vU(n b0 r b2 t:Nat)(h:128 <= b0):128 <= (decodeN n b0 r b2 t).1:=by
 unfold decodeN
 repeat' split
 all_goals (simp only;omega)
theorem Cw(s:ByteArray):∀ (f pos:Nat),s.size <= pos+f -> (decide (0 <= idxFuncFrom kY true s f pos)= !((s.data.toList.drop pos).all gu)):=by
 have t:s.data.toList.length=s.size:=by rw[Array.length_toList];rfl
 intro f
 induction f with
 | zero=>
  intro pos h;rw[List.drop_eq_nil_of_le (by rw[t];omega)];rfl
 | succ f T=>
  intro pos h;unfold idxFuncFrom;by_cases r:pos<s.size
  ·rw[if_pos r,List.drop_eq_getElem_cons (by rw[t];exact r),List.all_cons]
   have O:s.data.toList.getD pos 0=s.data.toList[pos]'(by rw[t];exact r):=by
    rw[List.getD_eq_getElem?_getD,List.getElem?_eq_getElem (by rw[t];exact r)];rfl
   have C:=decode_N s pos;rw[O] at C;generalize s.data.toList[pos]'(by rw[t];exact r)=c at C ⊢;by_cases E:gu c=true
   ·have U:=lM.1 E;rw[decodeN_ascii _ _ _ _ _ (by omega)] at C;rw[C,if_neg (by unfold kY;simp;omega),E,Bool.true_and];exact T (pos+1) (by omega)
   ·have G:gu c=false:=by simpa using E
    have R:kY (Utf8.decode s pos).1=true:=by
     rw[C];by_cases M:c.toNat<128
     ·rw[decodeN_ascii _ _ _ _ _ M];unfold kY;unfold gu at G;rw[G];rfl
     ·have:=vU (s.data.toList.length-pos) c.toNat (s.data.toList.getD (pos+1) 0).toNat (s.data.toList.getD (pos+2) 0).toNat (s.data.toList.getD (pos+3) 0).toNat (by omega)
      revert this
      generalize (decodeN (s.data.toList.length-pos) c.toNat (s.data.toList.getD (pos+1) 0).toNat (s.data.toList.getD (pos+2) 0).toNat (s.data.toList.getD (pos+3) 0).toNat).1=q;intro this;unfold kY;simp;omega
    rw[if_pos R,G];simp
  ·rw[if_neg r,List.drop_eq_nil_of_le (by rw[t];omega)];rfl
theorem Cx(s:ByteArray):decide (0 <= idxFunc kY true s)= !(s.data.toList.all gu):=by
 have:=Cw s s.size 0 (by omega);rw[List.drop_zero] at this;exact this
theorem Cy(l:List UInt8):trimPrefix l [45]=body l /\ hasPrefix l [45]=decide (l.head? =some 45):=by
 unfold trimPrefix hasPrefix body;cases l with
 | nil=>simp
 | cons c l=>
  by_cases h:c=45
  ·subst h;simp[List.isPrefixOf]
  ·have r:¬(45:UInt8)=c:=fun e=>h e.symm
   simp[List.isPrefixOf,h,r]
theorem Cz(M:Nat):∀ (l:List UInt8) (h:Nat),(∀c ∈ l,gu c=true) -> 10^l.length*h+dv l <= M -> M<1844674407370955162 -> parseUintM M h l= .ok (10^l.length*h+dv l):=by
 intro l
 induction l with
 | nil=>intro h _ _ _;simp[parseUintM,dv]
 | cons c l T=>
  intro h r t E;have G:=lM.1 (r c (List.mem_cons_self ..));have h1:=sO [c] l;have C:dv [c]=c.toNat-48:=by unfold dv;simp
  rw[List.singleton_append,C] at h1;have O:1 <= 10^l.length:=Nat.one_le_pow _ _ (by decide)
  have e:10^ (c::l).length*h+dv (c::l)=10^l.length* (h*10+ (c.toNat-48))+dv l:=by
   rw[h1,List.length_cons,Nat.pow_succ,Nat.mul_add,Nat.mul_comm h 10, <- Nat.mul_assoc,Nat.add_assoc]
  rw[e] at t ⊢;have U:h*10+ (c.toNat-48) <= 10^l.length* (h*10+ (c.toNat-48)):=Nat.le_mul_of_pos_left _ O;unfold parseUintM;rw[if_pos G,if_neg (by omega),if_neg (by omega)];exact T _ (fun x R=>r x (List.mem_cons_of_mem _ R)) t E
theorem CB{l:List UInt8}(h0:l≠ [])(r:l.length <= 9)(h:∀c ∈ l,gu c=true):parseUintB 32 l= .ok (dv l):=by
 unfold parseUintB;rw[if_neg h0];have h1:=oP h;have t:10^l.length <= 10^9:=Nat.pow_le_pow_right (by decide) r;have:=Cz (2^32-1) l 0 h (by omega) (by decide);rw[Nat.mul_zero,Nat.zero_add] at this;exact this
end
section
open Go.RowKit
theorem CE(w:World):PredAtRunes prog 149 #[] kY w:=fun W r t _=>by
 unfold FnGives;by_cases h1:48 <= r <;> by_cases h:r <= 57
 all_goals
  have C:(48:Int) <= (r:Int)↔48 <= r:=oM
  have E:(r:Int) <= 57↔r <= 57:=oM
  go_enter func149,ntmps149
  go_wp2
  all_goals first | (exfalso;omega) | (go_ret;exact⟨by first | (simp[kY,h1,h];done) | (simp[kY,h1,h];omega),0,rfl⟩)
theorem sS(s:ByteArray)(b:Bool)(r:s.data.toList.all gu= !b)(w:World):
  Calls prog 112 #[.string s, .func (.func 149) #[] #[]] w fun e w'=>e= .returned (.bool b) /\ Below w.heap.size w w':=by
 have h:=Tryz.strings_ContainsFunc_runes 149 #[] (enters_of func149 kR rfl) kY s w (CE w);rw[Cx,r,Bool.not_not] at h;exact h
theorem CF(w:World):eT w (.agg #[.bool false, .slice none 0 0]) 0:=
 ⟨none,0,by simp[il],by simp[il],by unfold maxLen;omega, .inl (by simp[il])⟩
theorem vV(s:ByteArray)(w:World):
  Calls prog 148 #[.string s, .string ⟨#[45]⟩] w fun e w'=>e= .returned (.tuple #[.string ⟨(body s.data.toList).toArray⟩, .bool (decide (s.data.toList.head? =some 45))]) /\ w=w':=by
 refine(Tryz.strings_CutPrefix s ⟨#[45]⟩ w).mono ?_;rintro e w' ⟨rfl,rfl⟩;have:=Cy s.data.toList;exact⟨by rw[show(⟨#[45]⟩:ByteArray).data.toList= [45] from rfl,this.1,this.2],rfl⟩
theorem mG{D:ByteArray}(h:D.data.toList≠ []):¬D.toList= [] /\ D.toList.isEmpty=false:=by
 have:¬D.toList= []:=fun e=>by
  rw[toList_nil_iff_emptyBytes] at e;subst e;exact h rfl
 exact⟨this,by simpa using this⟩
theorem CG(s:ByteArray)(r:Bool)(w:World)(t:((s.size:Nat):Int) <= 65536)(hcut:∀w,Calls prog 148 #[.string s, .string ⟨#[45]⟩] w fun e w'=>e= .returned (.tuple #[.string ⟨#[]⟩, .bool r]) /\ w=w'):
  Calls prog 123 #[.string s] w fun e w'=>e= .returned (.tuple #[.agg #[.bool false, .slice none 0 0], .int .i64 14]) /\ Below w.heap.size w w':=by
 have h:=lH hcut;clear hcut;go_enter func123,ntmps123;go_wp2_with fail
 refine(h.o _).mono ?_;rintro e w' ⟨rfl,rfl⟩;go_wp2_with fail
 go_returns;exact⟨by simp,by go_grown⟩
theorem CJ(s D:ByteArray)(ng:Bool)(w:World)(hs:((s.size:Nat):Int) <= 65536)(hcut:∀w,Calls prog 148 #[.string s, .string ⟨#[45]⟩] w fun e w'=>e= .returned (.tuple #[.string D, .bool ng]) /\ w=w')
  (R:D.data.toList≠ []) (T:D.data.toList.all gu=false):
  Calls prog 123 #[.string s] w fun e w'=>e= .returned (.tuple #[.agg #[.bool false, .slice none 0 0], .int .i64 14]) /\ Below w.heap.size w w':=by
 have V:=lH hcut;obtain⟨a1,a2⟩:=mG R;have X:=lH T;obtain⟨h,E,C⟩:=jy w (.cells #[.bool false, .slice none 0 0] 38);obtain⟨W,t⟩:=eX (w.alloc (.cells #[.bool false, .slice none 0 0] 38));rw[<- t] at h E C;have h:Row W w.heap.size 38 [.bool false, .slice none 0 0]:=h;have O:=lH h;have M:=lH C;have a0:=lH E;clear hcut R T h C E;go_enter func123,ntmps123;go_wp2_with fail
 rw[<- t];clear t;refine(V.o _).mono ?_;rintro e w' ⟨rfl,rfl⟩;go_wp2_with fail
 refine(sS D true X.o _).mono ?_;rintro e w2 ⟨rfl,G⟩;have r:=O.o.below G O.o.lt;have Y:=r.at_ 0 rfl;have Z:=r.at_ 1 rfl;have k3:=r.free 0;have k4:=r.free 1;have U:=lH (M.o.trans (G.mono M.o.size));clear r G;go_wp2_with fail
 refine bodyPost_ret (v:= .tuple #[.agg #[.bool false, .slice none 0 0], .int .i64 14]) (by simp[results,results123,go_sem,Y,Z]) rfl ?_;exact⟨rfl,(U.o.setCell (p:=⟨w.heap.size,0,none⟩) (Nat.le_refl _) _).setCell (p:=⟨w.heap.size,1,none⟩) (Nat.le_refl _) _⟩
theorem CK(s D:ByteArray)(V:Bool)(w:World)(hs:((s.size:Nat):Int) <= 65536)(hcut:∀w,Calls prog 148 #[.string s, .string ⟨#[45]⟩] w fun e w'=>e= .returned (.tuple #[.string D, .bool V]) /\ w=w')
  (T:D.data.toList≠ []) (U:D.data.toList.all gu=true) (h0:0<D.size) (a2:D[0].toNat=48) (M:(1:Int)<((D.size:Nat):Int) \/ (((D.size:Nat):Int) <= 1 /\ V=true)):
  Calls prog 123 #[.string s] w fun e w'=>e= .returned (.tuple #[.agg #[.bool false, .slice none 0 0], .int .i64 3]) /\ Below w.heap.size w w':=by
 have Y:=lH hcut;obtain⟨a3,a4⟩:=mG T;have Z:=lH U;obtain⟨h,E,C⟩:=jy w (.cells #[.bool false, .slice none 0 0] 38);obtain⟨W,t⟩:=eX (w.alloc (.cells #[.bool false, .slice none 0 0] 38));rw[<- t] at h E C;have h:Row W w.heap.size 38 [.bool false, .slice none 0 0]:=h;have R:=lH h;have O:=lH C;have a0:=lH E;have a1:(0:Int)<((D.size:Nat):Int):=oM
 clear hcut T U h C E
 rcases M with M | ⟨M,rfl⟩
 all_goals
  go_enter func123,ntmps123;go_wp2_with fail
  rw[<- t];clear t;refine(Y.o _).mono ?_;rintro e w' ⟨rfl,rfl⟩;go_wp2_with fail
  refine(sS D false Z.o _).mono ?_;rintro e w2 ⟨rfl,G⟩;have r:=R.o.below G R.o.lt;have k1:=r.at_ 0 rfl;have k2:=r.at_ 1 rfl;have k3:=r.free 0;have k4:=r.free 1;have X:=lH (O.o.trans (G.mono O.o.size));clear r G;go_wp2_with fail
  refine bodyPost_ret (v:= .tuple #[.agg #[.bool false, .slice none 0 0], .int .i64 3]) (by simp[results,results123,go_sem,k1,k2]) rfl ?_;exact⟨rfl,(X.o.setCell (p:=⟨w.heap.size,0,none⟩) (Nat.le_refl _) _).setCell (p:=⟨w.heap.size,1,none⟩) (Nat.le_refl _) _⟩
theorem vW(R:ByteArray)(a b:Nat):(R.extract a b).data.toList=(R.data.toList.take b).drop a:=by
 rw[ByteArray.data_extract];simp[Array.toList_extract,List.drop_take]
set_option maxHeartbeats 1600000 in
theorem CL(s D:ByteArray)(ng:Bool)(w:World)(hs:((s.size:Nat):Int) <= 65536)(hcut:∀w,Calls prog 148 #[.string s, .string ⟨#[45]⟩] w fun e w'=>e= .returned (.tuple #[.string D, .bool ng]) /\ w=w')
  (hD:D.data.toList≠ []) (h:D.data.toList.all gu=true) (h0:0<D.size) (aU:((D.size:Nat):Int) <= 65536) (hf:((D[0].toNat:Int)==48)=false \/ (D[0].toNat=48 /\ ((D.size:Nat):Int) <= 1 /\ ng=false)):
  Calls prog 123 #[.string s] w fun e w'=>∃v,e= .returned (.tuple #[v, .int .i64 0]) /\ eT w' v (sgn ng (dv D.data.toList)) /\ Below w.heap.size w w':=by
 have HC:=lH hcut;obtain⟨aL,aM⟩:=mG hD;have HD:=lH h;obtain⟨E,a0,Z⟩:=jy w (.cells #[.bool false, .slice none 0 0] 38);obtain⟨W,Y⟩:=eX (w.alloc (.cells #[.bool false, .slice none 0 0] 38));rw[<- Y] at E a0 Z;have E:Row W w.heap.size 38 [.bool false, .slice none 0 0]:=E;have R1:=lH E;have af:=lH Z;have aT:=lH a0;have aK:(0:Int)<((D.size:Nat):Int):=oM
 have a4:∀c ∈ D.data.toList,gu c=true:=List.all_eq_true.1 h
 have a5:D.data.toList.length=D.size:=by rw[Array.length_toList];rfl
 have a3:(ek (dv D.data.toList)).length <= 65536:=by
  refine Nat.le_trans (jS (k:=D.size) ?_) oM;refine Nat.lt_of_lt_of_le (oP a4) ?_;rw[a5];exact Nat.pow_le_pow_left dC _
 obtain⟨N,hN⟩:=eX (dv D.data.toList);rw[<- hN] at a3 ⊢;have aB:=lH a4;have HN:=lH hN;have aA:=lH a3;have aP:=lH a5;clear hcut hD h E Z a0 a4 hN a3 a5
 rcases hf with hf | ⟨aN,aO,rfl⟩
 all_goals
  go_enter func123,ntmps123;go_wp2_with fail
  rw[<- Y];clear Y;refine(HC.o _).mono ?_;rintro e w' ⟨rfl,rfl⟩;go_wp2_with fail
  refine(sS D false HD.o _).mono ?_;rintro e w2 ⟨rfl,a1⟩;have R2:=lH (R1.o.below a1 R1.o.lt);have ax:=lH (af.o.trans (a1.mono af.o.size));clear a1;go_wp2_with fail
  first
   | clear hf
   | clear aN aO
  clear aK aL aM hs
  go_loopg [4,6] D.size (fun g aJ mv wr=>∃ (R:ByteArray) (n:Nat),aJ= .string R /\ Hid (g=R.size) /\ Hid (iH wr mv n) /\ Hid (∀c ∈ R.data.toList,gu c=true) /\ Hid (N=10^R.size*n+dv R.data.toList) /\ ((R.size:Nat):Int) <= 65536 /\ Hid (Row wr w.heap.size 38 [.bool false, .slice none 0 0]) /\ Hid (Below w.heap.size w wr))
  case atStart=>exact⟨D,0,rfl,lH rfl,lH ⟨none,0,by simp[il],by simp[il],by unfold maxLen;omega, .inl (by simp[il])⟩,aB,lH (by rw[HN.o];simp),by assumption,R2,ax⟩
  case round=>
   obtain⟨R,n,rfl,hg,aq,aj,X,aV,U,a2⟩:=hrel;by_cases hz:(0:Int)<((R.size:Nat):Int)
   ·obtain⟨q,hq⟩:∃q:Nat,(((R.size:Nat):Int)-1)%9=(q:Nat):=⟨(R.size-1)%9,by omega⟩
    have b2:((q:Nat):Int) <= 8:=oM
    have b3:((q:Nat):Int)+1 <= ((R.size:Nat):Int):=oM
    have aR:=lH (show True from trivial);go_wp2_with fail
    go_loop [8,48] (fun aH iv=>∃k p:Nat,((k:Nat):Int) <= (q:Nat)+1 /\ iv= .int .i64 k /\ aH= .int .u32 (p:Nat) /\ Hid (p=10^k)) (fun _ iv=>q+1-(intOf iv).toNat)
    case atStart=>exact⟨0,1,by omega,rfl,rfl,lH rfl⟩
    case round=>
     obtain⟨k,p,hk,rfl,rfl,T⟩:=hrel;by_cases aY:((k:Nat):Int)<((q:Nat):Int)+1
     ·have b1:p <= 100000000:=by
       rw[T.o];exact Nat.le_trans (Nat.pow_le_pow_right dC (show k <= 8 by omega)) dC
      have a9:((p:Nat):Int)*10 <= 4294967295:=oM
      go_wp2_with fail
      go_round
      case rel=>exact⟨k+1,p*10,by omega,by go_num,by go_num,lH (by rw[T.o,Nat.pow_succ])⟩
      case measure=>simp[intOf];omega
     ·have an:k=q+1:=oM
      have a8:p=10^ (q+1):=by rw[T.o,an]
      have a9:p <= 1000000000:=by
       rw[a8];exact Nat.le_trans (Nat.pow_le_pow_right dC (show q+1 <= 9 by omega)) dC
      have HP:=lH a8;clear a8 T;subst an;go_wp2_with fail
      have M:=vW R 0 (q+1);rw[List.drop_zero] at M;have aa:R.data.toList.length=R.size:=by rw[Array.length_toList];rfl
      have ac:∀c ∈ R.data.toList.take (q+1),gu c=true:=fun c G=>aj.o c (List.mem_of_mem_take G)
      have t:(R.data.toList.take (q+1)).length=q+1:=by rw[List.length_take,aa];omega
      obtain⟨d,h⟩:=eX (dv (R.data.toList.take (q+1)));have am:d<10^ (q+1):=by have:=oP ac;rw[t] at this;rw[h];exact this
      rw[<- HP.o] at am;have au:=Tryz.strconv_ParseUint_10_at32_ok (R.extract 0 (q+1)) (by rw[ByteArray.size_extract];omega) d (by rw[M,h];exact CB (by intro e;rw[e] at t;simp at t) (by rw[t];omega) ac) wr;have aX:((d:Nat):Int)<4294967296:=oM
      have az:=lH h;have aQ:=lH M;have ae:=lH aa;have aS:=lH t;clear h M aa ac t am;refine au.mono ?_;clear au;rintro e w3 ⟨rfl,aw⟩
      have r:Below wr.heap.size wr w3:=by
       rcases aw with rfl | rfl
       ·exact Below.refl _ _
       ·exact Lib.bytesWorld_below _ _ _
      have V:=lH r;clear aw r;obtain⟨A',c',hv,aZ,b0,ap⟩:=aq.o;subst hv
      have ar:n <= N:=by
       rw[X.o];exact Nat.le_trans (Nat.le_mul_of_pos_left _ (Nat.pow_pos dC)) (Nat.le_add_right _ _)
      have ao:(ek n).length<17592186044416:=by have:=jT ar;have:=aA.o;omega
      have aE:=lH ap;have aD:=lH ao;have aG:=lH a9;clear ap ar ao a9;go_wp2_with fail
      refine(Ch A' c' p d (ek n) w3 (by exact U32.below aE.o V.o) (fV n) aD.o (by have:=aG.o;omega) oM).mono ?_;rintro e w4 ⟨v4,rfl,a7,ak⟩;rw[fC] at a7;have aC:=lH a7;have ay:=lH ak;clear a7 ak;go_wp2_with fail
      have a6:=vW R (q+1) R.size;rw[List.take_of_length_le (by rw[ae.o];exact Nat.le_refl _)] at a6;have ab:(R.extract (q+1) R.size).size=R.size-(q+1):=by rw[ByteArray.size_extract];omega
      have al:Below wr.heap.size wr w4:=V.o.trans (ay.o.mono V.o.size)
      go_roundg ((R.extract (q+1) R.size).size)
      case measure=>rw[hg.o,ab];omega
      case rel=>
       refine⟨_,p*n+d,rfl,lH rfl,aC,lH ?_,lH ?_,?_,lH (U.o.below al U.o.lt),lH (a2.o.trans (al.mono a2.o.size))⟩
       ·intro c G;rw[a6] at G;exact aj.o c (List.mem_of_mem_drop G)
       ·rw[X.o,ab,a6,az.o,HP.o];have h1:=sO (R.data.toList.take (q+1)) (R.data.toList.drop (q+1));rw[List.take_append_drop,List.length_drop,ae.o] at h1;rw[h1,Nat.mul_add, <- Nat.mul_assoc, <- Nat.pow_add,show R.size-(q+1)+ (q+1)=R.size by omega,Nat.add_assoc]
       ·rw[ab];omega
   ·have ah:R.data.toList= []:=by
     apply List.eq_nil_of_length_eq_zero;rw[Array.length_toList];show R.size=0;omega
    have ai:R.size=0:=oM
    have ag:N=n:=by
     have:=X.o;rw[ah,ai] at this;rw[this,Nat.pow_zero,Nat.one_mul];rfl
    have aW:decide (0<R.size)=false:=decide_eq_false oM;have aF:=lH ag;clear ah ai ag;go_wp2_with fail
    refine(lL _ _ (ek n) _ aq.o.sM).mono ?_;rintro e w3 ⟨v3,rfl,O,r⟩;rw[fC] at O;obtain⟨s3,A3,l3,c3,rfl⟩:=O.shape;have C:=U.o.below r U.o.lt;have k1:=C.at_ 0 rfl;have k2:=C.at_ 1 rfl;have k3:=C.free 0;have k4:=C.free 1;have av:=qy a2.o C (by simp) (by simp) (Nat.le_refl _) r O;have ad:=lH av;clear C O r av;go_wp2_with fail
    refine bodyPost_ret (v:= .tuple #[.agg #[.bool s3, .slice A3 l3 c3], .int .i64 0]) (by simp[results,results123,go_sem,k1,k2]) rfl ?_;rw[aF.o];exact⟨_,rfl,ad.o.1,ad.o.2⟩
end
section
open Go.RowKit
theorem sU(s:ByteArray)(w:World)(Z:s.size <= 65536)(r:chk s.data.toList≠0):
  Calls prog 123 #[.string s] w fun e w'=>∃v,e= .returned (.tuple #[v, .int .i64 (chk s.data.toList:Nat)]) /\ eT w' v 0 /\ Below w.heap.size w w':=by
 obtain⟨l,X⟩:=eX (s.data.toList);have hcut:=vV s;rw[<- X] at r hcut ⊢;have O:((s.size:Nat):Int) <= 65536:=oM
 have E:∀ (k:Nat),Calls prog 123 #[.string s] w (fun e w'=>e= .returned (.tuple #[.agg #[.bool false, .slice none 0 0], .int .i64 (k:Nat)]) /\ Below w.heap.size w w') -> chk l=k ->
   Calls prog 123 #[.string s] w fun e w'=>∃v,e= .returned (.tuple #[v, .int .i64 (chk l:Nat)]) /\ eT w' v 0 /\ Below w.heap.size w w':=by
  intro k h W;refine h.mono ?_;rintro e w' ⟨rfl,V⟩;exact⟨_,by rw[W],CF _,V⟩
 have C:(⟨(body l).toArray⟩:ByteArray).data.toList=body l:=by simp
 unfold chk at r;split at r
 ·rename_i h1;rw[h1] at hcut;exact E 14 (CG s _ w O hcut) (by unfold chk;rw[if_pos h1])
 rename_i h1;split at r
 ·rename_i t;exact E 14 (CJ s ⟨(body l).toArray⟩ _ w O hcut (by rw[C];exact h1) (by rw[C];exact t)) (by unfold chk;rw[if_neg h1,if_pos t])
 rename_i t;split at r
 ·rename_i G
  have h0:0<(⟨(body l).toArray⟩:ByteArray).size:=by
   show 0<(body l).toArray.size;rw[List.size_toArray];exact List.length_pos_iff.2 h1
  have Y:(⟨(body l).toArray⟩:ByteArray).size=(body l).length:=by
   show(body l).toArray.size=_;rw[List.size_toArray]
  refine E 3 (CK s ⟨(body l).toArray⟩ _ w O hcut (by rw[C];exact h1) (by rw[C];simpa using t) h0 ?_ ?_) (by unfold chk;rw[if_neg h1,if_neg t,if_pos G])
  ·have M:=G.1;have T:0<(body l).length:=oM
   have e:(⟨(body l).toArray⟩:ByteArray)[0]=(body l)[0]:=by
    show(body l).toArray[0]'_=_;simp
   rw[e];rw[List.head?_eq_getElem?,List.getElem?_eq_getElem T] at M;simp only[Option.some.injEq] at M;rw[M];rfl
  ·rw[Y]
   rcases Nat.lt_or_ge 1 (body l).length with U | U
   ·left;omega
   ·right
    refine⟨by omega,?_⟩
    rcases G.2 with R | R
    ·omega
    ·exact decide_eq_true R
 ·exact absurd rfl r
theorem sV(s:ByteArray)(a:Int)(w:World)(hs:s.size <= 65536)(ha:s=txt a)(t:chk s.data.toList=0):
  Calls prog 123 #[.string s] w fun e w'=>∃v,e= .returned (.tuple #[v, .int .i64 0]) /\ eT w' v a /\ Below w.heap.size w w':=by
 obtain⟨l,R⟩:=eX (s.data.toList);have hcut:=vV s;have a0:l.length=s.size:=by rw[R,Array.length_toList];rfl
 rw[<- R] at t hcut;obtain⟨a',h1,G,U⟩:=nY t
 obtain rfl:a'=a:=by
  apply sQ;rw[<- h1,R,ha,Co]
 have O:(⟨(body l).toArray⟩:ByteArray).data.toList=body l:=by simp
 have r:body l≠ []:=by
  intro e;have:=sN a'.natAbs;rw[<- G,e] at this;simp at this
 have V:(body l).all gu=true:=by
  rw[G];exact List.all_eq_true.2 (nA _)
 have h0:0<(⟨(body l).toArray⟩:ByteArray).size:=by
  show 0<(body l).toArray.size;rw[List.size_toArray];exact List.length_pos_iff.2 r
 have X:(⟨(body l).toArray⟩:ByteArray).size=(body l).length:=by
  show(body l).toArray.size=_;rw[List.size_toArray]
 have a1:(body l).length <= s.size:=by
  rw[<- a0];unfold body;split
  ·rw[List.length_tail];omega
  ·exact Nat.le_refl _
 have e:(⟨(body l).toArray⟩:ByteArray)[0]=(body l)[0]'(List.length_pos_iff.2 r):=by
  show(body l).toArray[0]'_=_;simp
 have hg:=CL s ⟨(body l).toArray⟩ _ w oM hcut (by rw[O];exact r) (by rw[O];exact V) h0 (by rw[X];omega) (by
  rw[e];have Y:(body l).head? =some ((body l)[0]'(List.length_pos_iff.2 r)):=by rw[List.head?_eq_getElem?,List.getElem?_eq_getElem]
  by_cases M:(body l)[0]'(List.length_pos_iff.2 r)=48
  ·right
   unfold chk at t;rw[if_neg r,if_neg (by rw[V];simp)] at t
   have C:¬((body l).head? =some 48 /\ (1<(body l).length \/ l.head? =some 45)):=by
    intro Z;rw[if_pos Z] at t;omega
   rw[Y,M] at C;refine⟨by rw[M];rfl,?_,?_⟩
   ·rw[X]
    rcases Nat.lt_or_ge 1 (body l).length with E | E
    ·exact absurd ⟨rfl, .inl E⟩ C
    ·omega
   ·exact decide_eq_false (fun E=>C ⟨rfl, .inr E⟩)
  ·left
   rw[beq_eq_false_iff_ne];intro C;apply M;apply UInt8.toNat_inj.1;show _=48
   omega)
 refine hg.mono ?_;rintro e w' ⟨v,rfl,T,hb⟩;refine⟨v,rfl,?_,hb⟩;rw[O,G,jJ] at T
 have:sgn (decide (l.head? =some 45)) a'.natAbs=a':=by
  by_cases W:a'<0
  ·rw[decide_eq_true (U.2 W)];unfold sgn;simp;omega
  ·rw[decide_eq_false (fun h=>W (U.1 h))];unfold sgn;simp;omega
 rw[this] at T;exact T
end
section
open Go.Lib
def fM(l:List UInt8):List UInt8:=l.takeWhile (· !=47)
def fO(l:List UInt8):List UInt8:=l.dropWhile (· !=47)
def fZ(l:List UInt8):List UInt8:=(fO l).tail
theorem qA(l:List UInt8):fM l++fO l=l:=List.takeWhile_append_dropWhile
theorem CO(l:List UInt8):fO l= [] \/ ∃m,fO l=47::m:=by
 unfold fO
 induction l with
 | nil=>exact .inl rfl
 | cons c l r=>
  rw[List.dropWhile_cons];split
  ·exact r
  ·rename_i h;refine .inr ⟨l,?_⟩;have:c=47:=by simpa using h
   rw[this]
theorem sW{l:List UInt8}(h:fO l≠ []):l=fM l++47::fZ l:=by
 rcases CO l with r | ⟨m,r⟩
 ·exact absurd r h
 ·conv=>lhs;rw[<- qA l]
  unfold fZ;rw[r];rfl
theorem qB{l:List UInt8}(h:fO l= []):fM l=l:=by
 have:=qA l;rw[h,List.append_nil] at this;exact this
theorem CP{a b:List UInt8}(h:∀c ∈ a,c≠47):fM (a++47::b)=a /\ fO (a++47::b)=47::b:=by
 unfold fM fO
 induction a with
 | nil=>simp
 | cons c a G=>
  have C:=h c (by simp);obtain⟨h1,r⟩:=G fun x E=>h x (by simp[E])
  have t:(c !=47)=true:=by simpa using C
  simp only[List.cons_append,List.takeWhile_cons,List.dropWhile_cons,t,if_true];exact⟨by rw[h1],r⟩
theorem CQ{a:List UInt8}(h:∀c ∈ a,c≠47):fM a=a /\ fO a= []:=by
 unfold fM fO
 induction a with
 | nil=>simp
 | cons c a G=>
  have C:=h c (by simp);obtain⟨h1,r⟩:=G fun x E=>h x (by simp[E])
  have t:(c !=47)=true:=by simpa using C
  simp only[List.takeWhile_cons,List.dropWhile_cons,t,if_true];exact⟨by rw[h1],r⟩
def fB(q:Rat):List UInt8:=if q.den=1 then itoa q.num else itoa q.num++47::decDigits q.den
def eB(q:Rat):ByteArray:=⟨(fB q).toArray⟩
theorem jA(q:Rat):(eB q).data.toList=fB q:=by simp[eB]
theorem vX{q:Rat}(h:q.den=1):eB q=txt q.num:=by unfold eB fB txt;rw[if_pos h]
theorem oQ{q:Rat}(h:q.den≠1):fB q=itoa q.num++47::decDigits q.den:=by unfold fB;rw[if_neg h]
theorem vY(n:Nat):∀c ∈ decDigits n,c≠47:=by
 intro c h e;have:=lM.1 (nA n c h);rw[e] at this;simp at this
theorem vZ(a:Int):∀c ∈ itoa a,c≠47:=by
 intro c r;by_cases h:a<0
 ·rw[itoa_neg h] at r
  rcases List.mem_cons.1 r with rfl | r
  ·decide
  ·exact vY _ c r
 ·rw[jK h] at r;exact vY _ c r
theorem oU{q:Rat}(h:q.den=1):fM (fB q)=itoa q.num /\ fO (fB q)= []:=by
 unfold fB;rw[if_pos h];exact CQ (vZ _)
theorem oV{q:Rat}(h:q.den≠1):fM (fB q)=itoa q.num /\ fO (fB q)=47::decDigits q.den /\ fZ (fB q)=decDigits q.den:=by
 rw[oQ h];obtain⟨h1,r⟩:=CP (b:=decDigits q.den) (vZ q.num);exact⟨h1,r,by unfold fZ;rw[r];rfl⟩
def fo(l:List UInt8):Nat:=
 if fO l= [] then chk l
 else if chk (fM l)=14 \/ fZ l= [] \/ (fZ l).all gu=false then 14
 else if(fZ l).all (· ==48)=true then 19
 else if chk (fM l)=3 \/ (fZ l).head? =some 48 \/ fZ l= [49] \/ Nat.gcd (dv (body (fM l))) (dv (fZ l))≠1 then 3 else 0
theorem wu{l:List UInt8}(h:fO l= []):fo l=chk l:=by unfold fo;rw[if_pos h]
theorem ww(a:Int):body (itoa a)=decDigits a.natAbs:=by
 unfold body;by_cases h:a<0
 ·rw[itoa_neg h];rfl
 ·rw[jK h,if_neg];intro e;have r:=nA a.natAbs;cases hl:decDigits a.natAbs with
  | nil=>rw[hl] at e;cases e
  | cons c l=>
   rw[hl] at e r;have t:c=45:=by simpa using e
   have:=lM.1 (r c (by simp));rw[t] at this;simp at this
theorem wy(n:Nat):(decDigits n).all gu=true:=List.all_eq_true.2 (nA n)
theorem oW(n:Nat):decDigits n≠ []:=by intro h;have:=sN n;rw[h] at this;simp at this
theorem sZ{n:Nat}(h:(decDigits n).head? =some 48):n=0:=by
 induction n using Nat.strongRecOn with
 | _ n C=>
  by_cases r:n<10
  ·rw[decDigits_one r] at h;have h1:UInt8.ofNat (48+n)=48:=by simpa using h
   have t:(UInt8.ofNat (48+n)).toNat=48:=by rw[h1];rfl
   simp at t;omega
  ·rw[decDigits,dif_neg r,List.head?_append,List.head?_eq_some_head (oW _)] at h;have:=C (n / 10) (by omega) (by rw[List.head?_eq_some_head (oW _)];exact h);omega
theorem CR{n:Nat}(h:(decDigits n).all (· ==48)=true):n=0:=by
 refine sZ ?_;cases hl:decDigits n with
 | nil=>exact absurd hl (oW n)
 | cons c l=>
  rw[hl] at h;simp only[List.all_cons,Bool.and_eq_true,beq_iff_eq] at h;rw[h.1];rfl
theorem wz(a:Int):chk (itoa a)=0:=by
 unfold chk;rw[ww,if_neg (oW _),if_neg (by rw[wy];decide),if_neg];rintro⟨h1,h⟩;have h0:=sZ h1;have r:a=0:=by omega
 subst r;rw[Cv] at h
 rcases h with h | h
 ·simp[nX] at h
 ·simp at h
theorem nC(q:Rat):fo (fB q)=0:=by
 by_cases h:q.den=1
 ·rw[wu (oU h).2];unfold fB;rw[if_pos h];exact wz _
 ·obtain⟨h1,r,t⟩:=oV h;unfold fo;rw[if_neg (by rw[r];simp),h1,t,wz,ww,jJ,jJ,wy];rw[if_neg (by simp[oW]),if_neg (fun e=>q.den_nz (CR e)),if_neg];rintro(e | e | e | e)
  ·omega
  ·exact q.den_nz (sZ e)
  ·have:=jJ q.den;rw[e] at this;exact h (this.symm.trans rfl)
  ·exact e q.reduced
theorem CS{l:List UInt8}(h:fo l=0):∃q:Rat,l=fB q:=by
 unfold fo at h;split at h
 ·rename_i G;obtain⟨a,U,_⟩:=nY h;exact⟨(a:Rat),by unfold fB;rw[if_pos (Rat.den_intCast a),Rat.num_intCast];exact U⟩
 rename_i G;split at h
 ·omega
 rename_i h1;split at h
 ·omega
 rename_i h2;split at h
 ·omega
 rename_i C;simp only[not_or] at h1 C;obtain⟨a0,M,O⟩:=h1;obtain⟨a1,t,R,E⟩:=C
 have T:chk (fM l)=0:=by
  have:chk (fM l)=0 \/ chk (fM l)=3 \/ chk (fM l)=14:=by unfold chk;split <;> (try split) <;> (try split) <;> simp
  omega
 obtain⟨x,Y,Z,_⟩:=nY T;have V:∀c ∈ fZ l,gu c=true:=List.all_eq_true.1 (by simpa using O)
 have r:=sP (fZ l) M V (fun e=>absurd e t);rw[Z,jJ] at E
 have X:dv (fZ l)≠0:=by
  intro e;rw[e,nX] at r;rw[<- r] at t;exact t rfl
 have W:dv (fZ l)≠1:=by
  intro e;rw[e] at r;exact R (r.symm.trans (by simp[decDigits]))
 refine⟨⟨x,dv (fZ l),X,by simpa using E⟩,?_⟩;rw[oQ W];simp only[];rw[r, <- Y];exact sW G
theorem kZ{p q:Rat}(h:fB p=fB q):p=q:=by
 by_cases r:p.den=1 <;> by_cases t:q.den=1
 ·have h1:=(oU r).1;rw[h,(oU t).1] at h1;exact Rat.ext (sQ h1.symm) (r.trans t.symm)
 ·have h1:=(oU r).2;rw[h,(oV t).2.1] at h1;cases h1
 ·have h1:=(oU t).2;rw[<- h,(oV r).2.1] at h1;cases h1
 ·obtain⟨C,_,E⟩:=oV r;obtain⟨G,_,M⟩:=oV t;rw[h,G] at C;rw[h,M] at E;refine Rat.ext (sQ C.symm) ?_;rw[<- jJ p.den, <- E,jJ]
end
end Go.Proofs.YtokagbahdkfagaaGreatDoor
