/- Parts of this proof: MathT Txt Rune Parse Parsed QTxt. -/
import Derived.Test.YtdefghfjhgmpfaaGreatDoorMAC
import Derived.Lib.TrimUEq
import Derived.Lib.ParseIntB
import Derived.Shelf.GgClosure.StringsIndexFunc
import Derived.Test.YtdefghfjhgmpfaaGreatDoorMAA
import Derived.Deep.LoopGhost
namespace Go.Proofs.YtdefghfjhgmpfaaGreatDoor
open Tryz
namespace T
open Go.Proofs.YtdefghfjhgmpfaaGreatDoor (dg q9 nD dg_succ jm jG nE uu iB nG oG)
def BB:Nat:=10
theorem ik:BB=10:=rfl
def Dig(l:List Nat):Prop:=∀k,dg l k<10
theorem Dig.nil:Dig []:=fun k=>by rw[q9];omega
theorem Dig.take{l:List Nat}(h:Dig l)(n:Nat):Dig (l.take n):=fun k=>by rw[nE];split <;> first | exact h k | omega
theorem Dig.set{l:List Nat}(h:Dig l)(i x:Nat)(t:x<10):Dig (l.set i x):=fun k=>by rw[iB];split <;> first | exact h k | exact t
theorem Dig.replicate(n:Nat):Dig (List.replicate n 0):=fun k=>by rw[nG];split <;> omega
theorem Dig.cons{d:Nat}{l:List Nat}(t:d<10)(h:Dig l):Dig (d::l):=fun k=>by
 cases k with
 | zero=>exact t
 | succ k=>exact h k
theorem Dig.tail{d:Nat}{l:List Nat}(h:Dig (d::l)):Dig l:=fun k=>h (k+1)
theorem Dig.head{d:Nat}{l:List Nat}(h:Dig (d::l)):d<10:=h 0
theorem Dig.append{l m:List Nat}(h:Dig l)(t:Dig m):Dig (l++m):=fun k=>by rw[uu];split;exact h k;exact t _
def val:List Nat -> Nat
 | []=>0
 | d::l=>d+BB*val l
theorem xe:val []=0:=rfl
theorem xg(d:Nat)(l:List Nat):val (d::l)=d+BB*val l:=rfl
theorem val_append(l m:List Nat):val (l++m)=val l+BB^l.length*val m:=by
 induction l with
 | nil=>simp[val]
 | cons d l h=>simp only[List.cons_append,val,h,List.length_cons,Nat.pow_succ];rw[Nat.mul_add, <- Nat.add_assoc];congr 1;rw[Nat.mul_comm (BB^l.length) BB,Nat.mul_assoc]
theorem uw(n:Nat):val (List.replicate n 0)=0:=by
 induction n with
 | zero=>rfl
 | succ n h=>simp[List.replicate_succ,val,h]
theorem jO{l:List Nat}(h:Dig l):val l<BB^l.length:=by
 induction l with
 | nil=>simp[val]
 | cons d l E=>
  have h1:=E h.tail;have F:=h.head;have t:BB*val l+BB <= BB*BB^l.length:=by rw[<- Nat.mul_succ];exact Nat.mul_le_mul_left _ h1
  simp only[val,List.length_cons,Nat.pow_succ,Nat.mul_comm (BB^l.length) BB];simp only[ik] at t ⊢;omega
theorem ib(l:List Nat)(k:Nat):val (l.take (k+1))=val (l.take k)+BB^k*dg l k:=by
 induction l generalizing k with
 | nil=>simp[val,q9]
 | cons d l h=>
  cases k with
  | zero=>simp[val,nD]
  | succ k=>simp only[List.take_succ_cons,val,h,dg_succ,Nat.pow_succ];rw[Nat.mul_add,Nat.mul_comm (BB^k) BB,Nat.mul_assoc];omega
theorem iF{l:List Nat}{k:Nat}(h:l.length <= k):val (l.take k)=val l:=by rw[List.take_of_length_le h]
theorem qa{l m:List Nat}(E:Dig l)(F:Dig m)(t:l.length=m.length)(h:val l=val m):l=m:=by
 induction l generalizing m with
 | nil=>cases m with
  | nil=>rfl
  | cons _ _=>simp at t
 | cons d l M=>cases m with
  | nil=>simp at t
  | cons e m=>
   have h1:=E.head;have O:=F.head;simp only[val,ik] at h;have G:d=e:=by omega
   have:val l=val m:=by omega
   rw[G,M E.tail F.tail (by simpa using t) this]
def Can(l:List Nat):Prop:=Dig l /\ (0<l.length -> dg l (l.length-1)≠0)
theorem lL{n:Nat}(h:0<n):n / BB<n:=Nat.div_lt_self h (by decide)
def ek(n:Nat):List Nat:=if _h:n=0 then [] else n%BB::ek (n / BB)
termination_by n
decreasing_by exact lL (by omega)
theorem gJ:ek 0= []:=by unfold ek;simp
theorem jP{n:Nat}(h:0<n):ek n=n%BB::ek (n / BB):=by rw[ek,dif_neg (by omega)]
theorem fu(n:Nat):val (ek n)=n:=by
 induction n using Nat.strongRecOn with
 | _ n t=>
  by_cases h:n=0
  ·subst h;rw[gJ];rfl
  ·rw[jP (by omega),val,t _ (lL (by omega))];exact Nat.mod_add_div n BB
theorem fF(n:Nat):Dig (ek n):=by
 induction n using Nat.strongRecOn with
 | _ n t=>
  by_cases h:n=0
  ·subst h;rw[gJ];exact Dig.nil
  ·rw[jP (by omega)];exact Dig.cons (Nat.mod_lt _ (by decide)) (t _ (lL (by omega)))
theorem jY(n:Nat):Can (ek n):=by
 refine⟨fF n,?_⟩
 induction n using Nat.strongRecOn with
 | _ n M=>
  by_cases h:n=0
  ·subst h;rw[gJ];intro h;simp at h
  ·rw[jP (by omega)];intro _;by_cases t:n / BB=0
   ·rw[t,gJ];simp only[List.length_cons,List.length_nil,Nat.zero_add,Nat.sub_self,nD];have:=Nat.mod_add_div n BB;rw[t] at this;simp only[Nat.mul_zero,Nat.add_zero] at this;omega
   ·have G:0<(ek (n / BB)).length:=by rw[jP (Nat.pos_of_ne_zero t)];simp
    have E:=M _ (lL (by omega)) G;obtain⟨m,F⟩:∃m,(ek (n / BB)).length=m+1:=⟨(ek (n / BB)).length-1,by omega⟩
    rw[F] at E;simp only[List.length_cons,F,Nat.add_sub_cancel,dg_succ] at E ⊢;exact E
theorem uy{d:Nat}{l:List Nat}(h:Can (d::l)):Can l:=by
 refine⟨h.1.tail,fun E=> ?_⟩;have:=h.2 (by simp);obtain⟨m,t⟩:∃m,l.length=m+1:=⟨l.length-1,by omega⟩
 simp only[List.length_cons,t,Nat.add_sub_cancel,dg_succ] at this ⊢;exact this
theorem oH{l:List Nat}(h:Can l)(t:0<l.length):BB^ (l.length-1) <= val l:=by
 induction l with
 | nil=>simp at t
 | cons d l E=>
  cases l with
  | nil=>
   have:=h.2 (by simp);simp only[List.length_cons,List.length_nil,Nat.zero_add,Nat.sub_self,nD] at this;simp[val];omega
  | cons e l=>
   have:=E (uy h) (by simp);simp only[List.length_cons,Nat.add_sub_cancel] at this ⊢;rw[val,Nat.pow_succ,Nat.mul_comm];have F:BB*BB^l.length <= BB*val (e::l):=Nat.mul_le_mul_left _ this;omega
theorem nH{l m:List Nat}(t:Can l)(E:Dig m)(h:val l <= val m):l.length <= m.length:=by
 rcases Nat.lt_or_ge m.length l.length with h1 | h1
 ·have F:=oH t (by omega);have G:=jO E;have M:BB^m.length <= BB^ (l.length-1):=Nat.pow_le_pow_right (by decide) (by omega);omega
 ·exact h1
theorem uz{l m:List Nat}(t:Can l)(E:Can m)(h:val l=val m):l=m:=
 qa t.1 E.1 (Nat.le_antisymm (nH t E.1 (by omega)) (nH E t.1 (by omega))) h
theorem uA{l:List Nat}(h:Can l):l=ek (val l):=uz h (jY _) (by rw[fu])
theorem jQ{n k:Nat}(h:n<BB^k):(ek n).length <= k:=by
 rcases Nat.lt_or_ge k (ek n).length with h1 | h1
 ·have t:=oH (jY n) (by omega);rw[fu] at t;have E:BB^k <= BB^ ((ek n).length-1):=Nat.pow_le_pow_right (by decide) (by omega);omega
 ·exact h1
theorem mI(n:Nat):n<BB^ (ek n).length:=by have:=jO (fF n);rwa [fu] at this
theorem iO{n m:Nat}(h:n <= m):(ek n).length <= (ek m).length:=jQ (Nat.lt_of_le_of_lt h (mI m))
theorem kK{n:Nat}:0<(ek n).length↔0<n:=by
 constructor
 ·intro h
  rcases Nat.eq_zero_or_pos n with h0 | h0
  ·subst h0;rw[gJ] at h;simp at h
  ·exact h0
 ·intro h;rw[jP h];simp
theorem oI{n:Nat}:(ek n).length=0↔n=0:=by
 have:= @kK n;omega
theorem uB{l:List Nat}{k:Nat}(F:Dig l)(G:k <= l.length)(T:∀j,k <= j -> j<l.length -> dg l j=0)(O:0<k -> dg l (k-1)≠0):l.take k=ek (val l):=by
 have M:(l.take k).length=k:=by rw[List.length_take];omega
 have E:Can (l.take k):=by
  refine⟨F.take k,fun h=> ?_⟩;rw[M] at h ⊢;rw[nE,if_pos (by omega)];exact O h
 have R:val (l.take k)=val l:=by
  have h1:∀i,k <= i -> val (l.take i)=val (l.take k):=by
   intro i X
   induction i with
   | zero=>
    have:k=0:=by omega
    subst this;rfl
   | succ i U=>
    by_cases h:k <= i
    ·rw[ib,U h];by_cases t:i<l.length
     ·rw[T i h t];simp
     ·rw[jm (by omega)];simp
    ·have:k=i+1:=by omega
     subst this;rfl
  have:=h1 l.length G
  rwa [List.take_of_length_le (Nat.le_refl _),eq_comm] at this
 rw[<- R];exact uA E
theorem qc{l:List Nat}(h:Dig l):(ek (val l)).length <= l.length /\ l.take (ek (val l)).length=ek (val l):=by
 have h1:(ek (val l)).length <= l.length:=jQ (jO h);refine⟨h1,?_⟩;have E:=fu (val l)
 have t:val l=val (l.take (ek (val l)).length)+BB^ (ek (val l)).length*val (l.drop (ek (val l)).length):=by
  have:=val_append (l.take (ek (val l)).length) (l.drop (ek (val l)).length);rw[List.take_append_drop,List.length_take,Nat.min_eq_left h1] at this;exact this
 have G:=mI (val l)
 have F:val (l.drop (ek (val l)).length)=0:=by
  rcases Nat.eq_zero_or_pos (val (l.drop (ek (val l)).length)) with h0 | h0
  ·exact h0
  ·have:=Nat.mul_le_mul_left (BB^ (ek (val l)).length) h0;omega
 rw[F,Nat.mul_zero,Nat.add_zero] at t;exact qa (h.take _) (fF _) (by rw[List.length_take];omega) (by rw[E];exact t.symm)
theorem kM(l:List Nat)(k x:Nat)(h:k<l.length):val ((l.set k x).take (k+1))=val (l.take k)+BB^k*x:=by
 rw[ib,iB,if_pos ⟨rfl,h⟩];congr 2;apply List.ext_getElem?;intro j;rw[List.getElem?_take,List.getElem?_take,List.getElem?_set];split
 ·rw[if_neg (by omega)]
 ·rfl
theorem jZ(P s:Nat):P* (s%10)+P*BB* (s / 10)=P*s:=by
 rw[Nat.mul_assoc, <- Nat.mul_add,ik,Nat.mod_add_div]
theorem uC{lo t E:List Nat}{k c s:Nat}(F:k<lo.length)(h:val (lo.take k)+BB^k*c=val (t.take k)+val (E.take k))(G:s=c+dg t k+dg E k):
  val ((lo.set k (s%10)).take (k+1))+BB^ (k+1)* (s / 10)=val (t.take (k+1))+val (E.take (k+1)):=by
 rw[kM _ _ _ F,ib,ib,Nat.pow_succ];have:=jZ (BB^k) s;have e:BB^k*s=BB^k*c+BB^k*dg t k+BB^k*dg E k:=by rw[G,Nat.mul_add,Nat.mul_add]
 omega
theorem uD{lo t lb:List Nat}{k c c' x:Nat}(E:k<lo.length)(h:val (t.take k)+BB^k*c=val (lo.take k)+val (lb.take k))(F:dg t k+10*c'=x+c+dg lb k):
  val (t.take (k+1))+BB^ (k+1)*c'=val ((lo.set k x).take (k+1))+val (lb.take (k+1)):=by
 rw[kM _ _ _ E,ib,ib,Nat.pow_succ];have e:BB^k* (dg t k+10*c')=BB^k* (x+c+dg lb k):=by rw[F]
 rw[Nat.mul_add,Nat.mul_add,Nat.mul_add, <- Nat.mul_assoc] at e;simp only[<- ik] at e;omega
theorem uE{lo t lb:List Nat}{c:Nat}(E:Dig lo)(G:val lb <= val t)(F:c <= 1)(h:val t+BB^lo.length*c=val lo+val lb):val lo=val t-val lb:=by
 have h1:=jO E
 rcases(show c=0 \/ c=1 by omega) with rfl | rfl <;> omega
theorem xh{lo l:List Nat}{k c b p s:Nat}(t:k<lo.length)(h:val (lo.take k)+BB^k*c=b*val (l.take k)+p)(E:s=c+dg l k*b):
  val ((lo.set k (s%10)).take (k+1))+BB^ (k+1)* (s / 10)=b*val (l.take (k+1))+p:=by
 rw[kM _ _ _ t,ib,Nat.pow_succ];have:=jZ (BB^k) s;have e:BB^k*s=BB^k*c+b* (BB^k*dg l k):=by rw[E,Nat.mul_add,Nat.mul_comm (dg l k) b,Nat.mul_left_comm]
 rw[Nat.mul_add];omega
theorem kP(l:List Nat)(k:Nat)(h:k<l.length):val (l.drop k)=dg l k+BB*val (l.drop (k+1)):=by
 rw[List.drop_eq_getElem_cons h,val,jG h]
theorem oJ(l:List Nat)(k x:Nat)(h:k<l.length):val ((l.set k x).drop k)=x+BB*val (l.drop (k+1)):=by
 rw[kP _ _ (by rw[List.length_set];exact h),iB,if_pos ⟨rfl,h⟩];congr 3;rw[List.drop_set];simp
def fM(a b:Nat):Int:=if a<b then -1 else if a=b then 0 else 1
theorem qd{l m:List Nat}(t:Dig l)(E:Can m)(h:l.length<m.length):val l<val m:=by
 rcases Nat.lt_or_ge (val l) (val m) with h1 | h1
 ·exact h1
 ·have:=nH E t h1;omega
theorem uF{l m:List Nat}(t:l.length=m.length)(h:∀j,j<l.length -> dg l j=dg m j):val l=val m:=by rw[oG t h]
theorem qg{l m:List Nat}{k:Nat}(M:Dig l)(T:l.length=m.length)(R:k<l.length)(h:∀j,k<j -> j<l.length -> dg l j=dg m j)(Y:dg l k<dg m k):val l<val m:=by
 have G:l.drop (k+1)=m.drop (k+1):=by
  apply oG
  ·rw[List.length_drop,List.length_drop,T]
  ·intro j O;rw[List.length_drop] at O;have:=h (k+1+j) (by omega) (by omega);unfold dg at this ⊢
   simpa [List.getD_eq_getElem?_getD,List.getElem?_drop] using this
 have U:val l=val (l.take k)+BB^k*val (l.drop k):=by
  have:=val_append (l.take k) (l.drop k)
  rwa [List.take_append_drop,List.length_take,Nat.min_eq_left (by omega)] at this
 have X:val m=val (m.take k)+BB^k*val (m.drop k):=by
  have:=val_append (m.take k) (m.drop k)
  rwa [List.take_append_drop,List.length_take,Nat.min_eq_left (by omega)] at this
 have t:val (l.drop k)+1 <= val (m.drop k):=by
  rw[kP l _ R,kP m _ (by omega),G];omega
 have E:=jO (M.take k);rw[List.length_take,Nat.min_eq_left (by omega)] at E;have F:BB^k* (val (l.drop k)+1) <= BB^k*val (m.drop k):=Nat.mul_le_mul_left _ t;rw[Nat.mul_add] at F;omega
theorem oK(l:List Nat)(i x:Nat)(h:i<l.length):val (l.set i x)+BB^i*dg l i=val l+BB^i*x:=by
 have t:val (l.set i x)=val (l.take i)+BB^i*val ((l.set i x).drop i):=by
  have:=val_append ((l.set i x).take i) ((l.set i x).drop i);rw[List.take_append_drop,List.length_take,List.length_set,Nat.min_eq_left (by omega)] at this;rw[this,List.take_set,List.set_eq_of_length_le];rw[List.length_take];omega
 have E:val l=val (l.take i)+BB^i*val (l.drop i):=by
  have:=val_append (l.take i) (l.drop i)
  rwa [List.take_append_drop,List.length_take,Nat.min_eq_left (by omega)] at this
 rw[t,E,oJ _ _ _ h,kP _ _ h,Nat.mul_add,Nat.mul_add];omega
theorem uG{lo lb:List Nat}{i j c x s V:Nat}(t:i+j<lo.length)(h:val lo+BB^ (i+j)*c=V+BB^i* (x*val (lb.take j)))(E:s=c+ (x*dg lb j+dg lo (i+j))):
  val (lo.set (i+j) (s%10))+BB^ (i+ (j+1))* (s / 10)=V+BB^i* (x*val (lb.take (j+1))):=by
 have h1:=oK lo (i+j) (s%10) t;have F:=jZ (BB^ (i+j)) s
 have e:BB^ (i+j)*s=BB^ (i+j)*c+ (BB^i* (x* (BB^j*dg lb j))+BB^ (i+j)*dg lo (i+j)):=by
  rw[E,Nat.mul_add,Nat.mul_add,Nat.pow_add];congr 2;rw[Nat.mul_assoc,Nat.mul_left_comm (BB^j) x]
 rw[ib,Nat.mul_add,Nat.mul_add, <- Nat.add_assoc i j 1,Nat.pow_succ];omega
theorem xn{lo lb t:List Nat}{i c V:Nat}(F:i+lb.length<lo.length)(G:dg lo (i+lb.length)=0)(h:val lo+BB^ (i+lb.length)*c=V+BB^i* (dg t i*val (lb.take lb.length)))(E:V=val (t.take i)*val lb):
  val (lo.set (i+lb.length) c)=val (t.take (i+1))*val lb:=by
 have h1:=oK lo (i+lb.length) c F;rw[G,Nat.mul_zero,Nat.add_zero] at h1;rw[h1,h,E,iF (Nat.le_refl _),ib,Nat.add_mul,Nat.mul_assoc]
end T
section
open Go.Lib
def txt(a:Int):ByteArray:=⟨(itoa a).toArray⟩
theorem jS(a:Int):(txt a).data.toList=itoa a:=by simp[txt]
def chr(d:Nat):UInt8:=UInt8.ofNat (48+d)
theorem qh{d:Nat}(h:d<10):(chr d).toNat=48+d:=by unfold chr;simp;omega
theorem oO:decDigits 0= [48]:=by rw[decDigits_one (by omega)];rfl
theorem rE(n:Nat):0<n -> decDigits n=(T.ek n).reverse.map chr:=by
 induction n using Nat.strongRecOn with
 | _ n G=>
  intro h;rw[T.jP h];by_cases F:n<10
  ·rw[decDigits_one F];have t:n / T.BB=0:=by rw[T.ik];omega
   have E:n%T.BB=n:=by rw[T.ik];omega
   rw[t,E,T.gJ];rfl
  ·rw[decDigits,dif_neg F];have t:n / T.BB=n / 10:=by rw[T.ik]
   have E:n%T.BB=n%10:=by rw[T.ik]
   rw[t,E,G (n / 10) (by omega) (by omega)];simp[chr]
theorem DJ{n:Nat}(h:0<n):(decDigits n).length=(T.ek n).length:=by rw[rE n h];simp
theorem rF(n:Nat):0<(decDigits n).length:=by
 rw[decDigits];split <;> simp
theorem xD(n:Nat):(T.ek n).length <= (decDigits n).length:=by
 rcases Nat.eq_zero_or_pos n with h | h
 ·subst h;rw[T.gJ];simp
 ·rw[DJ h];exact Nat.le_refl _
def gm(c:UInt8):Bool:=decide (48 <= c.toNat) && decide (c.toNat <= 57)
theorem kS{c:UInt8}:gm c=true↔48 <= c.toNat /\ c.toNat <= 57:=by unfold gm;simp
theorem DK{d:Nat}(h:d<10):gm (chr d)=true:=by rw[kS,qh h];omega
theorem mO(n:Nat):∀c ∈ decDigits n,gm c=true:=by
 rcases Nat.eq_zero_or_pos n with h | h
 ·subst h;rw[oO];intro c t;simp at t;subst t;rfl
 ·rw[rE n h];intro c t;rw[List.mem_map] at t;obtain⟨d,E,rfl⟩:=t;rw[List.mem_reverse] at E;obtain⟨i,F,rfl⟩:=List.getElem_of_mem E;have:=T.fF n i;rw[jG F] at this;exact DK this
def dv(l:List UInt8):Nat:=l.foldl (fun a c=>10*a+ (c.toNat-48)) 0
theorem xE(l:List UInt8)(c:UInt8):dv (l++ [c])=10*dv l+ (c.toNat-48):=by unfold dv;rw[List.foldl_append];rfl
theorem DL(l:List UInt8):∀a,l.foldl (fun a c=>10*a+ (c.toNat-48)) a=10^l.length*a+dv l:=by
 induction l with
 | nil=>intro a;simp[dv]
 | cons c l h=>
  intro a;unfold dv;rw[List.foldl_cons,List.foldl_cons,h,h (10*0+ (c.toNat-48)),List.length_cons,Nat.pow_succ];rw[Nat.mul_add,Nat.mul_zero,Nat.zero_add, <- Nat.mul_assoc,Nat.add_assoc]
theorem uJ(l m:List UInt8):dv (l++m)=10^m.length*dv l+dv m:=by
 unfold dv;rw[List.foldl_append,DL];rfl
theorem qi{l:List UInt8}(h:∀c ∈ l,gm c=true):dv l<10^l.length:=by
 induction l with
 | nil=>simp[dv]
 | cons c l G=>
  have h1:=G (fun x F=>h x (List.mem_cons_of_mem _ F));have M:=kS.1 (h c (List.mem_cons_self ..));have t:=uJ [c] l;have E:dv [c]=c.toNat-48:=by unfold dv;simp
  rw[List.singleton_append,E] at t;rw[t,List.length_cons,Nat.pow_succ];have O:10^l.length* (c.toNat-48) <= 10^l.length*9:=Nat.mul_le_mul_left _ (by omega);omega
theorem DN{P:List UInt8 -> Prop}(h0:P [])(h1:∀l c,P l -> P (l++ [c]))(l:List UInt8):P l:=by
 have:∀m:List UInt8,P m.reverse:=by
  intro m
  induction m with
  | nil=>exact h0
  | cons c m h=>rw[List.reverse_cons];exact h1 _ _ h
 have:=this l.reverse
 rwa [List.reverse_reverse] at this
theorem jH(n:Nat):dv (decDigits n)=n:=by
 induction n using Nat.strongRecOn with
 | _ n h=>
  rw[decDigits];split
  ·unfold dv;simp;omega
  ·rw[xE,h _ (by omega)];simp;omega
theorem rH(l:List UInt8):l≠ [] -> (∀c ∈ l,gm c=true) -> (l.head? =some 48 -> l.length <= 1) -> decDigits (dv l)=l:=by
 induction l using DN with
 | h0=>intro h;exact absurd rfl h
 | h1 l c U=>
  intro _ G M;have X:=kS.1 (G c (by simp));rw[xE];by_cases t:l= []
  ·subst t;rw[show dv []=0 from rfl,decDigits_one (by omega)];simp only[List.nil_append,List.cons.injEq,and_true];apply UInt8.toNat_inj.1;simp;omega
  ·have Y:0<l.length:=List.length_pos_iff.2 t;have O:(l++ [c]).head? = l.head? :=by rw[List.head?_append];cases l with | nil=>exact absurd rfl t | cons _ _=>rfl
   rw[O,List.length_append,List.length_singleton] at M;have F: l.head? ≠some 48:=fun h=>by have:=M h;omega
   have E:=U t (fun x T=>G x (by simp[T])) (fun h=>absurd h F)
   have R:0<dv l:=by
    rcases Nat.eq_zero_or_pos (dv l) with h0 | h0
    ·rw[h0,oO] at E;rw[<- E] at F;exact absurd rfl F
    ·exact h0
   rw[show 10*dv l+ (c.toNat-48)=dv l*10+ (c.toNat-48) by omega,xA _ _ R (by omega),E];congr 1;simp only[List.cons.injEq,and_true];apply UInt8.toNat_inj.1;simp;omega
def body(l:List UInt8):List UInt8:=if l.head? =some 45 then l.tail else l
def chk(l:List UInt8):Nat:=
 if body l= [] then 14 else if(body l).all gm=false then 14 else if(body l).head? =some 48 /\ (1<(body l).length \/ l.head? =some 45) then 3 else 0
theorem nK{l:List UInt8}(h:chk l=0):∃a:Int,l=itoa a /\ body l=decDigits a.natAbs /\ (l.head? =some 45↔a<0):=by
 unfold chk at h;split at h
 ·omega
 rename_i h1;split at h
 ·omega
 rename_i O;split at h
 ·omega
 rename_i M
 have R:∀c ∈ body l,gm c=true:=by
  have:(body l).all gm=true:=by simpa using O
  exact List.all_eq_true.1 this
 have E:=rH (body l) h1 R (fun T=>by
  rcases Nat.lt_or_ge 1 (body l).length with F | F
  ·exact absurd ⟨T, .inl F⟩ M
  ·exact F)
 by_cases t: l.head? =some 45
 ·have G:l=45::body l:=by
   unfold body;rw[if_pos t];cases l with
   | nil=>simp at t
   | cons c l=>simp at t;rw[t];rfl
  have U:0<dv (body l):=by
   rcases Nat.eq_zero_or_pos (dv (body l)) with h0 | h0
   ·rw[h0,oO] at E;exact absurd ⟨by rw[<- E];rfl, .inr t⟩ M
   ·exact h0
  refine⟨-(dv (body l):Int),?_,?_,?_⟩
  ·unfold itoa;rw[if_pos (by omega)];have:(-(dv (body l):Int)).natAbs=dv (body l):=by omega
   rw[this,E];exact G
  ·have:(-(dv (body l):Int)).natAbs=dv (body l):=by omega
   rw[this,E]
  ·exact⟨fun _=>by omega,fun _=>t⟩
 ·have G:l=body l:=by unfold body;rw[if_neg t]
  refine⟨(dv (body l):Int),?_,?_,?_⟩
  ·unfold itoa;rw[if_neg (by omega),Int.toNat_natCast,E];exact G
  ·rw[Int.natAbs_natCast,E]
  ·exact⟨fun h=>absurd h t,fun h=>by omega⟩
theorem itoa_neg{a:Int}(h:a<0):itoa a=45::decDigits a.natAbs:=by unfold itoa;rw[if_pos h]
theorem iW{a:Int}(h:¬a<0):itoa a=decDigits a.natAbs:=by unfold itoa;rw[if_neg h,show a.toNat=a.natAbs by omega]
theorem qj{a b:Int}(h:itoa a=itoa b):a=b:=by
 have F:∀n m:Nat,decDigits n=decDigits m -> n=m:=fun n m h=>by rw[<- jH n,h,jH]
 have no:∀n m:Nat,decDigits n≠45::decDigits m:=fun n m h=>by
  have:=mO n 45 (by rw[h];simp);simp[gm] at this
 by_cases t:a<0 <;> by_cases E:b<0
 ·rw[itoa_neg t,itoa_neg E] at h;have:=F _ _ (List.cons.inj h).2;omega
 ·rw[itoa_neg t,iW E] at h;exact absurd h.symm (no _ _)
 ·rw[iW t,itoa_neg E] at h;exact absurd h (no _ _)
 ·rw[iW t,iW E] at h;have:=F _ _ h;omega
theorem rJ:itoa 0= [48]:=by rw[iW (by omega)];exact oO
theorem xG(s:Bool)(n:Nat)(h:0<n):itoa (if s then -(n:Int) else n)=(if s then [45] else [])++ (T.ek n).reverse.map chr:=by
 cases s
 ·rw[if_neg (by simp),iW (by omega),Int.natAbs_natCast,rE n h];rfl
 ·rw[if_pos rfl,itoa_neg (by omega),show(-(n:Int)).natAbs=n by omega,rE n h];rfl
end
section
open Go.Lib
def kZ(r:Nat):Bool:= !(decide (48 <= r) && decide (r <= 57))
theorem DR(n b0 t b2 E:Nat)(h:128 <= b0):128 <= (decodeN n b0 t b2 E).1:=by
 unfold decodeN
 repeat' split
 all_goals (simp only;omega)
theorem DT(s:ByteArray):∀ (f pos:Nat),s.size <= pos+f -> (decide (0 <= idxFuncFrom kZ true s f pos)= !((s.data.toList.drop pos).all gm)):=by
 have E:s.data.toList.length=s.size:=by rw[Array.length_toList];rfl
 intro f
 induction f with
 | zero=>
  intro pos h;rw[List.drop_eq_nil_of_le (by rw[E];omega)];rfl
 | succ f U=>
  intro pos h;unfold idxFuncFrom;by_cases t:pos<s.size
  ·rw[if_pos t,List.drop_eq_getElem_cons (by rw[E];exact t),List.all_cons]
   have R:s.data.toList.getD pos 0=s.data.toList[pos]'(by rw[E];exact t):=by
    rw[List.getD_eq_getElem?_getD,List.getElem?_eq_getElem (by rw[E];exact t)];rfl
   have F:=decode_N s pos;rw[R] at F;generalize s.data.toList[pos]'(by rw[E];exact t)=c at F ⊢;by_cases G:gm c=true
   ·have X:=kS.1 G;rw[decodeN_ascii _ _ _ _ _ (by omega)] at F;rw[F,if_neg (by unfold kZ;simp;omega),G,Bool.true_and];exact U (pos+1) (by omega)
   ·have M:gm c=false:=by simpa using G
    have T:kZ (Utf8.decode s pos).1=true:=by
     rw[F];by_cases O:c.toNat<128
     ·rw[decodeN_ascii _ _ _ _ _ O];unfold kZ;unfold gm at M;rw[M];rfl
     ·have:=DR (s.data.toList.length-pos) c.toNat (s.data.toList.getD (pos+1) 0).toNat (s.data.toList.getD (pos+2) 0).toNat (s.data.toList.getD (pos+3) 0).toNat (by omega)
      revert this
      generalize (decodeN (s.data.toList.length-pos) c.toNat (s.data.toList.getD (pos+1) 0).toNat (s.data.toList.getD (pos+2) 0).toNat (s.data.toList.getD (pos+3) 0).toNat).1=q;intro this;unfold kZ;simp;omega
    rw[if_pos T,M];simp
  ·rw[if_neg t,List.drop_eq_nil_of_le (by rw[E];omega)];rfl
theorem DU(s:ByteArray):decide (0 <= idxFunc kZ true s)= !(s.data.toList.all gm):=by
 have:=DT s s.size 0 (by omega);rw[List.drop_zero] at this;exact this
theorem DV(l:List UInt8):trimPrefix l [45]=body l /\ hasPrefix l [45]=decide (l.head? =some 45):=by
 unfold trimPrefix hasPrefix body;cases l with
 | nil=>simp
 | cons c l=>
  by_cases h:c=45
  ·subst h;simp[List.isPrefixOf]
  ·have t:¬(45:UInt8)=c:=fun e=>h e.symm
   simp[List.isPrefixOf,h,t]
theorem DW(M:Nat):∀ (l:List UInt8) (h:Nat),(∀c ∈ l,gm c=true) -> 10^l.length*h+dv l <= M -> M<1844674407370955162 -> parseUintM M h l= .ok (10^l.length*h+dv l):=by
 intro l
 induction l with
 | nil=>intro h _ _ _;simp[parseUintM,dv]
 | cons c l U=>
  intro h t E G;have O:=kS.1 (t c (List.mem_cons_self ..));have h1:=uJ [c] l;have F:dv [c]=c.toNat-48:=by unfold dv;simp
  rw[List.singleton_append,F] at h1;have R:1 <= 10^l.length:=Nat.one_le_pow _ _ (by decide)
  have e:10^ (c::l).length*h+dv (c::l)=10^l.length* (h*10+ (c.toNat-48))+dv l:=by
   rw[h1,List.length_cons,Nat.pow_succ,Nat.mul_add,Nat.mul_comm h 10, <- Nat.mul_assoc,Nat.add_assoc]
  rw[e] at E ⊢;have X:h*10+ (c.toNat-48) <= 10^l.length* (h*10+ (c.toNat-48)):=Nat.le_mul_of_pos_left _ R;unfold parseUintM;rw[if_pos O,if_neg (by omega),if_neg (by omega)];exact U _ (fun x T=>t x (List.mem_cons_of_mem _ T)) E G
theorem DX{l:List UInt8}(h0:l≠ [])(t:l.length <= 9)(h:∀c ∈ l,gm c=true):parseUintB 32 l= .ok (dv l):=by
 unfold parseUintB;rw[if_neg h0];have h1:=qi h;have E:10^l.length <= 10^9:=Nat.pow_le_pow_right (by decide) t;have:=DW (2^32-1) l 0 h (by omega) (by decide);rw[Nat.mul_zero,Nat.zero_add] at this;exact this
end
section
open Go.RowKit
theorem DY(w:World):PredAtRunes prog 175 #[] kZ w:=fun W r t _=>by
 unfold FnGives;by_cases h1:48 <= r <;> by_cases h:r <= 57
 all_goals
  have E:(48:Int) <= (r:Int)↔48 <= r:=oM
  have F:(r:Int) <= 57↔r <= 57:=oM
  go_enter func175,ntmps175
  go_wp2
  all_goals first | (exfalso;omega) | (go_ret;exact⟨by first | (simp[kZ,h1,h];done) | (simp[kZ,h1,h];omega),0,rfl⟩)
theorem uK(s:ByteArray)(b:Bool)(t:s.data.toList.all gm= !b)(w:World):
  Calls prog 174 #[.string s, .func (.func 175) #[] #[]] w fun e w'=>e= .returned (.bool b) /\ Below w.heap.size w w':=by
 have h:=Tryz.strings_ContainsFunc_runes 175 #[] (enters_of func175 kR rfl) kZ s w (DY w);rw[DU,t,Bool.not_not] at h;exact h
theorem DZ(w:World):eQ w (.agg #[.bool false, .slice none 0 0]) 0:=
 ⟨none,0,by simp[gJ],by simp[gJ],by unfold maxLen;omega, .inl (by simp[gJ])⟩
theorem xH(s:ByteArray)(w:World):
  Calls prog 173 #[.string s, .string ⟨#[45]⟩] w fun e w'=>e= .returned (.tuple #[.string ⟨(body s.data.toList).toArray⟩, .bool (decide (s.data.toList.head? =some 45))]) /\ w=w':=by
 refine(Tryz.strings_CutPrefix s ⟨#[45]⟩ w).mono ?_;rintro e w' ⟨rfl,rfl⟩;have:=DV s.data.toList;exact⟨by rw[show(⟨#[45]⟩:ByteArray).data.toList= [45] from rfl,this.1,this.2],rfl⟩
theorem oP{D:ByteArray}(h:D.data.toList≠ []):¬D.toList= [] /\ D.toList.isEmpty=false:=by
 have:¬D.toList= []:=fun e=>by
  rw[toList_nil_iff_emptyBytes] at e;subst e;exact h rfl
 exact⟨this,by simpa using this⟩
theorem E9(s:ByteArray)(t:Bool)(w:World)(E:((s.size:Nat):Int) <= 65536)(hcut:∀w,Calls prog 173 #[.string s, .string ⟨#[45]⟩] w fun e w'=>e= .returned (.tuple #[.string ⟨#[]⟩, .bool t]) /\ w=w'):
  Calls prog 148 #[.string s] w fun e w'=>e= .returned (.tuple #[.agg #[.bool false, .slice none 0 0], .int .i64 14]) /\ Below w.heap.size w w':=by
 have h:=lH hcut;clear hcut;go_enter func148,ntmps148;go_wp2_with fail
 refine(h.o _).mono ?_;rintro e w' ⟨rfl,rfl⟩;go_wp2_with fail
 go_returns;exact⟨by simp,by go_grown⟩
theorem Ea(s D:ByteArray)(ng:Bool)(w:World)(hs:((s.size:Nat):Int) <= 65536)(hcut:∀w,Calls prog 173 #[.string s, .string ⟨#[45]⟩] w fun e w'=>e= .returned (.tuple #[.string D, .bool ng]) /\ w=w')
  (T:D.data.toList≠ []) (U:D.data.toList.all gm=false):
  Calls prog 148 #[.string s] w fun e w'=>e= .returned (.tuple #[.agg #[.bool false, .slice none 0 0], .int .i64 14]) /\ Below w.heap.size w w':=by
 have Y:=lH hcut;obtain⟨a1,a2⟩:=oP T;have Z:=lH U;obtain⟨h,G,F⟩:=iV w (.cells #[.bool false, .slice none 0 0] 103);obtain⟨W,E⟩:=eX (w.alloc (.cells #[.bool false, .slice none 0 0] 103));rw[<- E] at h G F;have h:Row W w.heap.size 103 [.bool false, .slice none 0 0]:=h;have R:=lH h;have O:=lH F;have a0:=lH G;clear hcut T U h F G;go_enter func148,ntmps148;go_wp2_with fail
 rw[<- E];clear E;refine(Y.o _).mono ?_;rintro e w' ⟨rfl,rfl⟩;go_wp2_with fail
 refine(uK D true Z.o _).mono ?_;rintro e w2 ⟨rfl,M⟩;have t:=R.o.below M R.o.lt;have k1:=t.at_ 0 rfl;have k2:=t.at_ 1 rfl;have k3:=t.free 0;have k4:=t.free 1;have X:=lH (O.o.trans (M.mono O.o.size));clear t M;go_wp2_with fail
 refine bodyPost_ret (v:= .tuple #[.agg #[.bool false, .slice none 0 0], .int .i64 14]) (by simp[results,results148,go_sem,k1,k2]) rfl ?_;exact⟨rfl,(X.o.setCell (p:=⟨w.heap.size,0,none⟩) (Nat.le_refl _) _).setCell (p:=⟨w.heap.size,1,none⟩) (Nat.le_refl _) _⟩
theorem Eb(s D:ByteArray)(Y:Bool)(w:World)(hs:((s.size:Nat):Int) <= 65536)(hcut:∀w,Calls prog 173 #[.string s, .string ⟨#[45]⟩] w fun e w'=>e= .returned (.tuple #[.string D, .bool Y]) /\ w=w')
  (U:D.data.toList≠ []) (X:D.data.toList.all gm=true) (h0:0<D.size) (a2:D[0].toNat=48) (O:(1:Int)<((D.size:Nat):Int) \/ (((D.size:Nat):Int) <= 1 /\ Y=true)):
  Calls prog 148 #[.string s] w fun e w'=>e= .returned (.tuple #[.agg #[.bool false, .slice none 0 0], .int .i64 3]) /\ Below w.heap.size w w':=by
 have HC:=lH hcut;obtain⟨a3,a4⟩:=oP U;have HD:=lH X;obtain⟨h,G,F⟩:=iV w (.cells #[.bool false, .slice none 0 0] 103);obtain⟨W,E⟩:=eX (w.alloc (.cells #[.bool false, .slice none 0 0] 103));rw[<- E] at h G F;have h:Row W w.heap.size 103 [.bool false, .slice none 0 0]:=h;have T:=lH h;have R:=lH F;have a0:=lH G;have a1:(0:Int)<((D.size:Nat):Int):=oM
 clear hcut U X h F G
 rcases O with O | ⟨O,rfl⟩
 all_goals
  go_enter func148,ntmps148;go_wp2_with fail
  rw[<- E];clear E;refine(HC.o _).mono ?_;rintro e w' ⟨rfl,rfl⟩;go_wp2_with fail
  refine(uK D false HD.o _).mono ?_;rintro e w2 ⟨rfl,M⟩;have t:=T.o.below M T.o.lt;have k1:=t.at_ 0 rfl;have k2:=t.at_ 1 rfl;have k3:=t.free 0;have k4:=t.free 1;have Z:=lH (R.o.trans (M.mono R.o.size));clear t M;go_wp2_with fail
  refine bodyPost_ret (v:= .tuple #[.agg #[.bool false, .slice none 0 0], .int .i64 3]) (by simp[results,results148,go_sem,k1,k2]) rfl ?_;exact⟨rfl,(Z.o.setCell (p:=⟨w.heap.size,0,none⟩) (Nat.le_refl _) _).setCell (p:=⟨w.heap.size,1,none⟩) (Nat.le_refl _) _⟩
theorem qm(R:ByteArray)(a b:Nat):(R.extract a b).data.toList=(R.data.toList.take b).drop a:=by
 rw[ByteArray.data_extract];simp[Array.toList_extract,List.drop_take]
set_option maxHeartbeats 1600000 in
theorem Ec(s D:ByteArray)(ng:Bool)(w:World)(hs:((s.size:Nat):Int) <= 65536)(hcut:∀w,Calls prog 173 #[.string s, .string ⟨#[45]⟩] w fun e w'=>e= .returned (.tuple #[.string D, .bool ng]) /\ w=w')
  (hD:D.data.toList≠ []) (h:D.data.toList.all gm=true) (h0:0<D.size) (aV:((D.size:Nat):Int) <= 65536) (hf:((D[0].toNat:Int)==48)=false \/ (D[0].toNat=48 /\ ((D.size:Nat):Int) <= 1 /\ ng=false)):
  Calls prog 148 #[.string s] w fun e w'=>∃v,e= .returned (.tuple #[v, .int .i64 0]) /\ eQ w' v (sgn ng (dv D.data.toList)) /\ Below w.heap.size w w':=by
 have HC:=lH hcut;obtain⟨aM,aN⟩:=oP hD;have HD:=lH h;obtain⟨G,a1,a0⟩:=iV w (.cells #[.bool false, .slice none 0 0] 103);obtain⟨W,hW⟩:=eX (w.alloc (.cells #[.bool false, .slice none 0 0] 103));rw[<- hW] at G a1 a0;have G:Row W w.heap.size 103 [.bool false, .slice none 0 0]:=G;have R1:=lH G;have ag:=lH a0;have aU:=lH a1;have aL:(0:Int)<((D.size:Nat):Int):=oM
 have a5:∀c ∈ D.data.toList,gm c=true:=List.all_eq_true.1 h
 have a6:D.data.toList.length=D.size:=by rw[Array.length_toList];rfl
 have a4:(ek (dv D.data.toList)).length <= 65536:=by
  refine Nat.le_trans (jQ (k:=D.size) ?_) oM;refine Nat.lt_of_lt_of_le (qi a5) ?_;rw[a6];exact Nat.pow_le_pow_left dC _
 obtain⟨N,hN⟩:=eX (dv D.data.toList);rw[<- hN] at a4 ⊢;have aC:=lH a5;have HN:=lH hN;have aB:=lH a4;have aQ:=lH a6;clear hcut hD h G a0 a1 a5 hN a4 a6
 rcases hf with hf | ⟨aO,aP,rfl⟩
 all_goals
  go_enter func148,ntmps148;go_wp2_with fail
  rw[<- hW];clear hW;refine(HC.o _).mono ?_;rintro e w' ⟨rfl,rfl⟩;go_wp2_with fail
  refine(uK D false HD.o _).mono ?_;rintro e w2 ⟨rfl,a2⟩;have R2:=lH (R1.o.below a2 R1.o.lt);have ay:=lH (ag.o.trans (a2.mono ag.o.size));clear a2;go_wp2_with fail
  first
   | clear hf
   | clear aO aP
  clear aL aM aN hs
  go_loopg [4,6] D.size (fun g aK mv wr=>∃ (R:ByteArray) (n:Nat),aK= .string R /\ Hid (g=R.size) /\ Hid (iQ wr mv n) /\ Hid (∀c ∈ R.data.toList,gm c=true) /\ Hid (N=10^R.size*n+dv R.data.toList) /\ ((R.size:Nat):Int) <= 65536 /\ Hid (Row wr w.heap.size 103 [.bool false, .slice none 0 0]) /\ Hid (Below w.heap.size w wr))
  case atStart=>exact⟨D,0,rfl,lH rfl,lH ⟨none,0,by simp[gJ],by simp[gJ],by unfold maxLen;omega, .inl (by simp[gJ])⟩,aC,lH (by rw[HN.o];simp),by assumption,R2,ay⟩
  case round=>
   obtain⟨R,n,rfl,hg,ar,ak,Z,aW,X,a3⟩:=hrel;by_cases hz:(0:Int)<((R.size:Nat):Int)
   ·obtain⟨q,hq⟩:∃q:Nat,(((R.size:Nat):Int)-1)%9=(q:Nat):=⟨(R.size-1)%9,by omega⟩
    have b3:((q:Nat):Int) <= 8:=oM
    have b4:((q:Nat):Int)+1 <= ((R.size:Nat):Int):=oM
    have aS:=lH (show True from trivial);go_wp2_with fail
    go_loop [8,48] (fun aJ iv=>∃k p:Nat,((k:Nat):Int) <= (q:Nat)+1 /\ iv= .int .i64 k /\ aJ= .int .u32 (p:Nat) /\ Hid (p=10^k)) (fun _ iv=>q+1-(intOf iv).toNat)
    case atStart=>exact⟨0,1,by omega,rfl,rfl,lH rfl⟩
    case round=>
     obtain⟨k,p,hk,rfl,rfl,U⟩:=hrel;by_cases aZ:((k:Nat):Int)<((q:Nat):Int)+1
     ·have b2:p <= 100000000:=by
       rw[U.o];exact Nat.le_trans (Nat.pow_le_pow_right dC (show k <= 8 by omega)) dC
      have aa:((p:Nat):Int)*10 <= 4294967295:=oM
      go_wp2_with fail
      go_round
      case rel=>exact⟨k+1,p*10,by omega,by go_num,by go_num,lH (by rw[U.o,Nat.pow_succ])⟩
      case measure=>simp[intOf];omega
     ·have ao:k=q+1:=oM
      have a9:p=10^ (q+1):=by rw[U.o,ao]
      have aa:p <= 1000000000:=by
       rw[a9];exact Nat.le_trans (Nat.pow_le_pow_right dC (show q+1 <= 9 by omega)) dC
      have HP:=lH a9;clear a9 U;subst ao;go_wp2_with fail
      have O:=qm R 0 (q+1);rw[List.drop_zero] at O;have ab:R.data.toList.length=R.size:=by rw[Array.length_toList];rfl
      have ad:∀c ∈ R.data.toList.take (q+1),gm c=true:=fun c M=>ak.o c (List.mem_of_mem_take M)
      have E:(R.data.toList.take (q+1)).length=q+1:=by rw[List.length_take,ab];omega
      obtain⟨d,h⟩:=eX (dv (R.data.toList.take (q+1)));have an:d<10^ (q+1):=by have:=qi ad;rw[E] at this;rw[h];exact this
      rw[<- HP.o] at an;have av:=Tryz.strconv_ParseUint_10_at32_ok (R.extract 0 (q+1)) (by rw[ByteArray.size_extract];omega) d (by rw[O,h];exact DX (by intro e;rw[e] at E;simp at E) (by rw[E];omega) ad) wr;have aY:((d:Nat):Int)<4294967296:=oM
      have aA:=lH h;have aR:=lH O;have af:=lH ab;have aT:=lH E;clear h O ab ad E an;refine av.mono ?_;clear av;rintro e w3 ⟨rfl,ax⟩
      have t:Below wr.heap.size wr w3:=by
       rcases ax with rfl | rfl
       ·exact Below.refl _ _
       ·exact Lib.bytesWorld_below _ _ _
      have Y:=lH t;clear ax t;obtain⟨A',c',hv,b0,b1,aq⟩:=ar.o;subst hv
      have au:n <= N:=by
       rw[Z.o];exact Nat.le_trans (Nat.le_mul_of_pos_left _ (Nat.pow_pos dC)) (Nat.le_add_right _ _)
      have ap:(ek n).length<17592186044416:=by have:=iO au;have:=aB.o;omega
      have aF:=lH aq;have aE:=lH ap;have aH:=lH aa;clear aq au ap aa;go_wp2_with fail
      refine(Dy A' c' p d (ek n) w3 (by exact U32.below aF.o Y.o) (fF n) aE.o (by have:=aH.o;omega) oM).mono ?_;rintro e w4 ⟨v4,rfl,a8,al⟩;rw[fu] at a8;have aD:=lH a8;have az:=lH al;clear a8 al;go_wp2_with fail
      have a7:=qm R (q+1) R.size;rw[List.take_of_length_le (by rw[af.o];exact Nat.le_refl _)] at a7;have ac:(R.extract (q+1) R.size).size=R.size-(q+1):=by rw[ByteArray.size_extract];omega
      have am:Below wr.heap.size wr w4:=Y.o.trans (az.o.mono Y.o.size)
      go_roundg ((R.extract (q+1) R.size).size)
      case measure=>rw[hg.o,ac];omega
      case rel=>
       refine⟨_,p*n+d,rfl,lH rfl,aD,lH ?_,lH ?_,?_,lH (X.o.below am X.o.lt),lH (a3.o.trans (am.mono a3.o.size))⟩
       ·intro c M;rw[a7] at M;exact ak.o c (List.mem_of_mem_drop M)
       ·rw[Z.o,ac,a7,aA.o,HP.o];have h1:=uJ (R.data.toList.take (q+1)) (R.data.toList.drop (q+1));rw[List.take_append_drop,List.length_drop,af.o] at h1;rw[h1,Nat.mul_add, <- Nat.mul_assoc, <- Nat.pow_add,show R.size-(q+1)+ (q+1)=R.size by omega,Nat.add_assoc]
       ·rw[ac];omega
   ·have ai:R.data.toList= []:=by
     apply List.eq_nil_of_length_eq_zero;rw[Array.length_toList];show R.size=0;omega
    have aj:R.size=0:=oM
    have ah:N=n:=by
     have:=Z.o;rw[ai,aj] at this;rw[this,Nat.pow_zero,Nat.one_mul];rfl
    have aX:decide (0<R.size)=false:=decide_eq_false oM;have aG:=lH ah;clear ai aj ah;go_wp2_with fail
    refine(lN _ _ (ek n) _ ar.o.uI).mono ?_;rintro e w3 ⟨v3,rfl,T,t⟩;rw[fu] at T;obtain⟨s3,A3,l3,c3,rfl⟩:=T.shape;have F:=X.o.below t X.o.lt;have k1:=F.at_ 0 rfl;have k2:=F.at_ 1 rfl;have k3:=F.free 0;have k4:=F.free 1;have aw:=rC a3.o F (by simp) (by simp) (Nat.le_refl _) t T;have ae:=lH aw;clear F T t aw;go_wp2_with fail
    refine bodyPost_ret (v:= .tuple #[.agg #[.bool s3, .slice A3 l3 c3], .int .i64 0]) (by simp[results,results148,go_sem,k1,k2]) rfl ?_;rw[aG.o];exact⟨_,rfl,ae.o.1,ae.o.2⟩
end
section
open Go.RowKit
theorem uL(s:ByteArray)(w:World)(hs:s.size <= 65536)(t:chk s.data.toList≠0):
  Calls prog 148 #[.string s] w fun e w'=>∃v,e= .returned (.tuple #[v, .int .i64 (chk s.data.toList:Nat)]) /\ eQ w' v 0 /\ Below w.heap.size w w':=by
 obtain⟨l,hl⟩:=eX (s.data.toList);have hcut:=xH s;rw[<- hl] at t hcut ⊢;have R:((s.size:Nat):Int) <= 65536:=oM
 have G:∀ (k:Nat),Calls prog 148 #[.string s] w (fun e w'=>e= .returned (.tuple #[.agg #[.bool false, .slice none 0 0], .int .i64 (k:Nat)]) /\ Below w.heap.size w w') -> chk l=k ->
   Calls prog 148 #[.string s] w fun e w'=>∃v,e= .returned (.tuple #[v, .int .i64 (chk l:Nat)]) /\ eQ w' v 0 /\ Below w.heap.size w w':=by
  intro k h Z;refine h.mono ?_;rintro e w' ⟨rfl,Y⟩;exact⟨_,by rw[Z],DZ _,Y⟩
 have F:(⟨(body l).toArray⟩:ByteArray).data.toList=body l:=by simp
 unfold chk at t;split at t
 ·rename_i h1;rw[h1] at hcut;exact G 14 (E9 s _ w R hcut) (by unfold chk;rw[if_pos h1])
 rename_i h1;split at t
 ·rename_i E;exact G 14 (Ea s ⟨(body l).toArray⟩ _ w R hcut (by rw[F];exact h1) (by rw[F];exact E)) (by unfold chk;rw[if_neg h1,if_pos E])
 rename_i E;split at t
 ·rename_i M
  have h0:0<(⟨(body l).toArray⟩:ByteArray).size:=by
   show 0<(body l).toArray.size;rw[List.size_toArray];exact List.length_pos_iff.2 h1
  have a0:(⟨(body l).toArray⟩:ByteArray).size=(body l).length:=by
   show(body l).toArray.size=_;rw[List.size_toArray]
  refine G 3 (Eb s ⟨(body l).toArray⟩ _ w R hcut (by rw[F];exact h1) (by rw[F];simpa using E) h0 ?_ ?_) (by unfold chk;rw[if_neg h1,if_neg E,if_pos M])
  ·have O:=M.1;have U:0<(body l).length:=oM
   have e:(⟨(body l).toArray⟩:ByteArray)[0]=(body l)[0]:=by
    show(body l).toArray[0]'_=_;simp
   rw[e];rw[List.head?_eq_getElem?,List.getElem?_eq_getElem U] at O;simp only[Option.some.injEq] at O;rw[O];rfl
  ·rw[a0]
   rcases Nat.lt_or_ge 1 (body l).length with X | X
   ·left;omega
   ·right
    refine⟨by omega,?_⟩
    rcases M.2 with T | T
    ·omega
    ·exact decide_eq_true T
 ·exact absurd rfl t
theorem uM(s:ByteArray)(a:Int)(w:World)(hs:s.size <= 65536)(ha:s=txt a)(F:chk s.data.toList=0):
  Calls prog 148 #[.string s] w fun e w'=>∃v,e= .returned (.tuple #[v, .int .i64 0]) /\ eQ w' v a /\ Below w.heap.size w w':=by
 obtain⟨l,U⟩:=eX (s.data.toList);have hcut:=xH s;have a1:l.length=s.size:=by rw[U,Array.length_toList];rfl
 rw[<- U] at F hcut;obtain⟨E,h1,O,Y⟩:=nK F
 obtain rfl:E=a:=by
  apply qj;rw[<- h1,U,ha,jS]
 have T:(⟨(body l).toArray⟩:ByteArray).data.toList=body l:=by simp
 have t:body l≠ []:=by
  intro e;have:=rF E.natAbs;rw[<- O,e] at this;simp at this
 have Z:(body l).all gm=true:=by
  rw[O];exact List.all_eq_true.2 (mO _)
 have h0:0<(⟨(body l).toArray⟩:ByteArray).size:=by
  show 0<(body l).toArray.size;rw[List.size_toArray];exact List.length_pos_iff.2 t
 have a0:(⟨(body l).toArray⟩:ByteArray).size=(body l).length:=by
  show(body l).toArray.size=_;rw[List.size_toArray]
 have a2:(body l).length <= s.size:=by
  rw[<- a1];unfold body;split
  ·rw[List.length_tail];omega
  ·exact Nat.le_refl _
 have e:(⟨(body l).toArray⟩:ByteArray)[0]=(body l)[0]'(List.length_pos_iff.2 t):=by
  show(body l).toArray[0]'_=_;simp
 have hg:=Ec s ⟨(body l).toArray⟩ _ w oM hcut (by rw[T];exact t) (by rw[T];exact Z) h0 (by rw[a0];omega) (by
  rw[e];have h5:(body l).head? =some ((body l)[0]'(List.length_pos_iff.2 t)):=by rw[List.head?_eq_getElem?,List.getElem?_eq_getElem]
  by_cases R:(body l)[0]'(List.length_pos_iff.2 t)=48
  ·right
   unfold chk at F;rw[if_neg t,if_neg (by rw[Z];simp)] at F
   have G:¬((body l).head? =some 48 /\ (1<(body l).length \/ l.head? =some 45)):=by
    intro h8;rw[if_pos h8] at F;omega
   rw[h5,R] at G;refine⟨by rw[R];rfl,?_,?_⟩
   ·rw[a0]
    rcases Nat.lt_or_ge 1 (body l).length with M | M
    ·exact absurd ⟨rfl, .inl M⟩ G
    ·omega
   ·exact decide_eq_false (fun M=>G ⟨rfl, .inr M⟩)
  ·left
   rw[beq_eq_false_iff_ne];intro G;apply R;apply UInt8.toNat_inj.1;show _=48
   omega)
 refine hg.mono ?_;rintro e w' ⟨v,rfl,X,hb⟩;refine⟨v,rfl,?_,hb⟩;rw[T,O,jH] at X
 have:sgn (decide (l.head? =some 45)) E.natAbs=E:=by
  by_cases hn:E<0
  ·rw[decide_eq_true (Y.2 hn)];unfold sgn;simp;omega
  ·rw[decide_eq_false (fun h=>hn (Y.1 h))];unfold sgn;simp;omega
 rw[this] at X;exact X
end
section
open Go.Lib
def eH(l:List UInt8):List UInt8:=l.takeWhile (· !=47)
def fG(l:List UInt8):List UInt8:=l.dropWhile (· !=47)
def fJ(l:List UInt8):List UInt8:=(fG l).tail
theorem jo(l:List UInt8):eH l++fG l=l:=List.takeWhile_append_dropWhile
theorem Ed(l:List UInt8):fG l= [] \/ ∃m,fG l=47::m:=by
 unfold fG
 induction l with
 | nil=>exact .inl rfl
 | cons c l t=>
  rw[List.dropWhile_cons];split
  ·exact t
  ·rename_i h;refine .inr ⟨l,?_⟩;have:c=47:=by simpa using h
   rw[this]
theorem rM{l:List UInt8}(h:fG l≠ []):l=eH l++47::fJ l:=by
 rcases Ed l with t | ⟨m,t⟩
 ·exact absurd t h
 ·conv=>lhs;rw[<- jo l]
  unfold fJ;rw[t];rfl
theorem qo{l:List UInt8}(h:fG l= []):eH l=l:=by
 have:=jo l;rw[h,List.append_nil] at this;exact this
theorem xI(l:List UInt8):∀c ∈ eH l,c≠47:=by
 intro c t;have h:=List.all_takeWhile (p:=(· !=47)) (l:=l);have:=List.all_eq_true.1 h c t
 simpa using this
theorem rO{a b:List UInt8}(h:∀c ∈ a,c≠47):eH (a++47::b)=a /\ fG (a++47::b)=47::b:=by
 unfold eH fG
 induction a with
 | nil=>simp
 | cons c a M=>
  have F:=h c (by simp);obtain⟨h1,t⟩:=M fun x G=>h x (by simp[G])
  have E:(c !=47)=true:=by simpa using F
  simp only[List.cons_append,List.takeWhile_cons,List.dropWhile_cons,E,if_true];exact⟨by rw[h1],t⟩
theorem xJ{a:List UInt8}(h:∀c ∈ a,c≠47):eH a=a /\ fG a= []:=by
 unfold eH fG
 induction a with
 | nil=>simp
 | cons c a M=>
  have F:=h c (by simp);obtain⟨h1,t⟩:=M fun x G=>h x (by simp[G])
  have E:(c !=47)=true:=by simpa using F
  simp only[List.takeWhile_cons,List.dropWhile_cons,E,if_true];exact⟨by rw[h1],t⟩
def fA(q:Rat):List UInt8:=if q.den=1 then itoa q.num else itoa q.num++47::decDigits q.den
def eF(q:Rat):ByteArray:=⟨(fA q).toArray⟩
theorem jI(q:Rat):(eF q).data.toList=fA q:=by simp[eF]
theorem rP{q:Rat}(h:q.den=1):eF q=txt q.num:=by unfold eF fA txt;rw[if_pos h]
theorem qp{q:Rat}(h:q.den≠1):fA q=itoa q.num++47::decDigits q.den:=by unfold fA;rw[if_neg h]
theorem xK(n:Nat):∀c ∈ decDigits n,c≠47:=by
 intro c h e;have:=kS.1 (mO n c h);rw[e] at this;simp at this
theorem xL(a:Int):∀c ∈ itoa a,c≠47:=by
 intro c t;by_cases h:a<0
 ·rw[itoa_neg h] at t
  rcases List.mem_cons.1 t with rfl | t
  ·decide
  ·exact xK _ c t
 ·rw[iW h] at t;exact xK _ c t
theorem nL{q:Rat}(h:q.den=1):eH (fA q)=itoa q.num /\ fG (fA q)= []:=by
 unfold fA;rw[if_pos h];exact xJ (xL _)
theorem nM{q:Rat}(h:q.den≠1):eH (fA q)=itoa q.num /\ fG (fA q)=47::decDigits q.den /\ fJ (fA q)=decDigits q.den:=by
 rw[qp h];obtain⟨h1,t⟩:=rO (b:=decDigits q.den) (xL q.num);exact⟨h1,t,by unfold fJ;rw[t];rfl⟩
def fK(l:List UInt8):Nat:=
 if fG l= [] then chk l
 else if chk (eH l)=14 \/ fJ l= [] \/ (fJ l).all gm=false then 14
 else if(fJ l).all (· ==48)=true then 19
 else if chk (eH l)=3 \/ (fJ l).head? =some 48 \/ fJ l= [49] \/ Nat.gcd (dv (body (eH l))) (dv (fJ l))≠1 then 3 else 0
theorem xM{l:List UInt8}(h:fG l= []):fK l=chk l:=by unfold fK;rw[if_pos h]
theorem xN(a:Int):body (itoa a)=decDigits a.natAbs:=by
 unfold body;by_cases h:a<0
 ·rw[itoa_neg h];rfl
 ·rw[iW h,if_neg];intro e;have t:=mO a.natAbs;cases hl:decDigits a.natAbs with
  | nil=>rw[hl] at e;cases e
  | cons c l=>
   rw[hl] at e t;have E:c=45:=by simpa using e
   have:=kS.1 (t c (by simp));rw[E] at this;simp at this
theorem xO(n:Nat):(decDigits n).all gm=true:=List.all_eq_true.2 (mO n)
theorem qw(n:Nat):decDigits n≠ []:=by intro h;have:=rF n;rw[h] at this;simp at this
theorem uN{n:Nat}(h:(decDigits n).head? =some 48):n=0:=by
 induction n using Nat.strongRecOn with
 | _ n F=>
  by_cases t:n<10
  ·rw[decDigits_one t] at h;have h1:UInt8.ofNat (48+n)=48:=by simpa using h
   have E:(UInt8.ofNat (48+n)).toNat=48:=by rw[h1];rfl
   simp at E;omega
  ·rw[decDigits,dif_neg t,List.head?_append,List.head?_eq_some_head (qw _)] at h;have:=F (n / 10) (by omega) (by rw[List.head?_eq_some_head (qw _)];exact h);omega
theorem Ee{n:Nat}(h:(decDigits n).all (· ==48)=true):n=0:=by
 refine uN ?_;cases hl:decDigits n with
 | nil=>exact absurd hl (qw n)
 | cons c l=>
  rw[hl] at h;simp only[List.all_cons,Bool.and_eq_true,beq_iff_eq] at h;rw[h.1];rfl
theorem xP(a:Int):chk (itoa a)=0:=by
 unfold chk;rw[xN,if_neg (qw _),if_neg (by rw[xO];decide),if_neg];rintro⟨h1,h⟩;have h0:=uN h1;have t:a=0:=by omega
 subst t;rw[rJ] at h
 rcases h with h | h
 ·simp[oO] at h
 ·simp at h
theorem mP(q:Rat):fK (fA q)=0:=by
 by_cases h:q.den=1
 ·rw[xM (nL h).2];unfold fA;rw[if_pos h];exact xP _
 ·obtain⟨h1,t,E⟩:=nM h;unfold fK;rw[if_neg (by rw[t];simp),h1,E,xP,xN,jH,jH,xO];rw[if_neg (by simp[qw]),if_neg (fun e=>q.den_nz (Ee e)),if_neg];rintro(e | e | e | e)
  ·omega
  ·exact q.den_nz (uN e)
  ·have:=jH q.den;rw[e] at this;exact h (this.symm.trans rfl)
  ·exact e q.reduced
theorem xQ{l:List UInt8}(h:fK l=0):∃q:Rat,l=fA q:=by
 unfold fK at h;split at h
 ·rename_i M;obtain⟨a,X,_⟩:=nK h;exact⟨(a:Rat),by unfold fA;rw[if_pos (Rat.den_intCast a),Rat.num_intCast];exact X⟩
 rename_i M;split at h
 ·omega
 rename_i h1;split at h
 ·omega
 rename_i h2;split at h
 ·omega
 rename_i F;simp only[not_or] at h1 F;obtain⟨a2,O,R⟩:=h1;obtain⟨a3,E,T,G⟩:=F
 have U:chk (eH l)=0:=by
  have:chk (eH l)=0 \/ chk (eH l)=3 \/ chk (eH l)=14:=by unfold chk;split <;> (try split) <;> (try split) <;> simp
  omega
 obtain⟨x,hx,a1,_⟩:=nK U;have Y:∀c ∈ fJ l,gm c=true:=List.all_eq_true.1 (by simpa using R)
 have t:=rH (fJ l) O Y (fun e=>absurd e E);rw[a1,jH] at G
 have a0:dv (fJ l)≠0:=by
  intro e;rw[e,oO] at t;rw[<- t] at E;exact E rfl
 have Z:dv (fJ l)≠1:=by
  intro e;rw[e] at t;exact T (t.symm.trans (by simp[decDigits]))
 refine⟨⟨x,dv (fJ l),a0,by simpa using G⟩,?_⟩;rw[qp Z];simp only[];rw[t, <- hx];exact rM M
theorem rQ{p q:Rat}(h:fA p=fA q):p=q:=by
 by_cases t:p.den=1 <;> by_cases E:q.den=1
 ·have h1:=(nL t).1;rw[h,(nL E).1] at h1;exact Rat.ext (qj h1.symm) (t.trans E.symm)
 ·have h1:=(nL t).2;rw[h,(nM E).2.1] at h1;cases h1
 ·have h1:=(nL E).2;rw[<- h,(nM t).2.1] at h1;cases h1
 ·obtain⟨F,_,G⟩:=nM t;obtain⟨M,_,O⟩:=nM E;rw[h,M] at F;rw[h,O] at G;refine Rat.ext (qj F.symm) ?_;rw[<- jH p.den, <- G,jH]
theorem xR{p q:Rat}(h:eF p=eF q):p=q:=by
 apply rQ;rw[<- jI, <- jI,h]
end
end Go.Proofs.YtdefghfjhgmpfaaGreatDoor
