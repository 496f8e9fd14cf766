/- Parts of this proof: MathT Txt Rune Parse Parsed QTxt. -/
import Derived.Test.YtdefghfjhgmpfaaGreatDoorMAC
import Derived.Lib.TrimUEq
import Derived.Lib.ParseIntB
import Derived.Shelf.GgClosure.StringsIndexFunc
import Derived.Test.YtdefghfjhgmpfaaGreatDoorMAA
import Derived.Deep.LoopGhost
namespace Go.Proofs.YtdefghfjhgmpfaaGreatDoor
open Tryz
namespace T
open Go.Proofs.YtdefghfjhgmpfaaGreatDoor (dg q9 nD dg_succ jm jG nE uu iB nG oG)
def BB:Nat:=10
theorem ik:BB=10:=rfl
def Dig(l:List Nat):Prop:=∀k,dg l k<10
theorem Dig.nil:Dig []:=fun k=>by rw[q9];omega
theorem Dig.take{l:List Nat}(h:Dig l)(n:Nat):Dig (l.take n):=fun k=>by rw[nE];split <;> first | exact h k | omega
theorem Dig.set{l:List Nat}(h:Dig l)(i x:Nat)(r:x<10):Dig (l.set i x):=fun k=>by rw[iB];split <;> first | exact h k | exact r
theorem Dig.replicate(n:Nat):Dig (List.replicate n 0):=fun k=>by rw[nG];split <;> omega
theorem Dig.cons{d:Nat}{l:List Nat}(r:d<10)(h:Dig l):Dig (d::l):=fun k=>by
 cases k with
 | zero=>exact r
 | succ k=>exact h k
theorem Dig.tail{d:Nat}{l:List Nat}(h:Dig (d::l)):Dig l:=fun k=>h (k+1)
theorem Dig.head{d:Nat}{l:List Nat}(h:Dig (d::l)):d<10:=h 0
theorem Dig.append{l m:List Nat}(h:Dig l)(r:Dig m):Dig (l++m):=fun k=>by rw[uu];split;exact h k;exact r _
def val:List Nat -> Nat
 | []=>0
 | d::l=>d+BB*val l
theorem xe:val []=0:=rfl
theorem xg(d:Nat)(l:List Nat):val (d::l)=d+BB*val l:=rfl
theorem val_append(l m:List Nat):val (l++m)=val l+BB^l.length*val m:=by
 induction l with
 | nil=>simp[val]
 | cons d l h=>simp only[List.cons_append,val,h,List.length_cons,Nat.pow_succ];rw[Nat.mul_add, <- Nat.add_assoc];congr 1;rw[Nat.mul_comm (BB^l.length) BB,Nat.mul_assoc]
theorem uw(n:Nat):val (List.replicate n 0)=0:=by
 induction n with
 | zero=>rfl
 | succ n h=>simp[List.replicate_succ,val,h]
theorem jO{l:List Nat}(h:Dig l):val l<BB^l.length:=by
 induction l with
 | nil=>simp[val]
 | cons d l t=>
  have h1:=t h.tail;have C:=h.head;have r:BB*val l+BB <= BB*BB^l.length:=by rw[<- Nat.mul_succ];exact Nat.mul_le_mul_left _ h1
  simp only[val,List.length_cons,Nat.pow_succ,Nat.mul_comm (BB^l.length) BB];simp only[ik] at r ⊢;omega
theorem ib(l:List Nat)(k:Nat):val (l.take (k+1))=val (l.take k)+BB^k*dg l k:=by
 induction l generalizing k with
 | nil=>simp[val,q9]
 | cons d l h=>
  cases k with
  | zero=>simp[val,nD]
  | succ k=>simp only[List.take_succ_cons,val,h,dg_succ,Nat.pow_succ];rw[Nat.mul_add,Nat.mul_comm (BB^k) BB,Nat.mul_assoc];omega
theorem iF{l:List Nat}{k:Nat}(h:l.length <= k):val (l.take k)=val l:=by rw[List.take_of_length_le h]
theorem qa{l m:List Nat}(t:Dig l)(C:Dig m)(r:l.length=m.length)(h:val l=val m):l=m:=by
 induction l generalizing m with
 | nil=>cases m with
  | nil=>rfl
  | cons _ _=>simp at r
 | cons d l F=>cases m with
  | nil=>simp at r
  | cons e m=>
   have h1:=t.head;have G:=C.head;simp only[val,ik] at h;have E:d=e:=by omega
   have:val l=val m:=by omega
   rw[E,F t.tail C.tail (by simpa using r) this]
def Can(l:List Nat):Prop:=Dig l /\ (0<l.length -> dg l (l.length-1)≠0)
theorem lL{n:Nat}(h:0<n):n / BB<n:=Nat.div_lt_self h (by decide)
def ek(n:Nat):List Nat:=if _h:n=0 then [] else n%BB::ek (n / BB)
termination_by n
decreasing_by exact lL (by omega)
theorem gJ:ek 0= []:=by unfold ek;simp
theorem jP{n:Nat}(h:0<n):ek n=n%BB::ek (n / BB):=by rw[ek,dif_neg (by omega)]
theorem fu(n:Nat):val (ek n)=n:=by
 induction n using Nat.strongRecOn with
 | _ n r=>
  by_cases h:n=0
  ·subst h;rw[gJ];rfl
  ·rw[jP (by omega),val,r _ (lL (by omega))];exact Nat.mod_add_div n BB
theorem fF(n:Nat):Dig (ek n):=by
 induction n using Nat.strongRecOn with
 | _ n r=>
  by_cases h:n=0
  ·subst h;rw[gJ];exact Dig.nil
  ·rw[jP (by omega)];exact Dig.cons (Nat.mod_lt _ (by decide)) (r _ (lL (by omega)))
theorem jY(n:Nat):Can (ek n):=by
 refine⟨fF n,?_⟩
 induction n using Nat.strongRecOn with
 | _ n F=>
  by_cases h:n=0
  ·subst h;rw[gJ];intro h;simp at h
  ·rw[jP (by omega)];intro _;by_cases r:n / BB=0
   ·rw[r,gJ];simp only[List.length_cons,List.length_nil,Nat.zero_add,Nat.sub_self,nD];have:=Nat.mod_add_div n BB;rw[r] at this;simp only[Nat.mul_zero,Nat.add_zero] at this;omega
   ·have E:0<(ek (n / BB)).length:=by rw[jP (Nat.pos_of_ne_zero r)];simp
    have t:=F _ (lL (by omega)) E;obtain⟨m,C⟩:∃m,(ek (n / BB)).length=m+1:=⟨(ek (n / BB)).length-1,by omega⟩
    rw[C] at t;simp only[List.length_cons,C,Nat.add_sub_cancel,dg_succ] at t ⊢;exact t
theorem uy{d:Nat}{l:List Nat}(h:Can (d::l)):Can l:=by
 refine⟨h.1.tail,fun t=> ?_⟩;have:=h.2 (by simp);obtain⟨m,r⟩:∃m,l.length=m+1:=⟨l.length-1,by omega⟩
 simp only[List.length_cons,r,Nat.add_sub_cancel,dg_succ] at this ⊢;exact this
theorem oH{l:List Nat}(h:Can l)(r:0<l.length):BB^ (l.length-1) <= val l:=by
 induction l with
 | nil=>simp at r
 | cons d l t=>
  cases l with
  | nil=>
   have:=h.2 (by simp);simp only[List.length_cons,List.length_nil,Nat.zero_add,Nat.sub_self,nD] at this;simp[val];omega
  | cons e l=>
   have:=t (uy h) (by simp);simp only[List.length_cons,Nat.add_sub_cancel] at this ⊢;rw[val,Nat.pow_succ,Nat.mul_comm];have C:BB*BB^l.length <= BB*val (e::l):=Nat.mul_le_mul_left _ this;omega
theorem nH{l m:List Nat}(r:Can l)(t:Dig m)(h:val l <= val m):l.length <= m.length:=by
 rcases Nat.lt_or_ge m.length l.length with h1 | h1
 ·have C:=oH r (by omega);have E:=jO t;have F:BB^m.length <= BB^ (l.length-1):=Nat.pow_le_pow_right (by decide) (by omega);omega
 ·exact h1
theorem uz{l m:List Nat}(r:Can l)(t:Can m)(h:val l=val m):l=m:=
 qa r.1 t.1 (Nat.le_antisymm (nH r t.1 (by omega)) (nH t r.1 (by omega))) h
theorem uA{l:List Nat}(h:Can l):l=ek (val l):=uz h (jY _) (by rw[fu])
theorem jQ{n k:Nat}(h:n<BB^k):(ek n).length <= k:=by
 rcases Nat.lt_or_ge k (ek n).length with h1 | h1
 ·have r:=oH (jY n) (by omega);rw[fu] at r;have t:BB^k <= BB^ ((ek n).length-1):=Nat.pow_le_pow_right (by decide) (by omega);omega
 ·exact h1
theorem mI(n:Nat):n<BB^ (ek n).length:=by have:=jO (fF n);rwa [fu] at this
theorem iO{n m:Nat}(h:n <= m):(ek n).length <= (ek m).length:=jQ (Nat.lt_of_le_of_lt h (mI m))
theorem kK{n:Nat}:0<(ek n).length↔0<n:=by
 constructor
 ·intro h
  rcases Nat.eq_zero_or_pos n with h0 | h0
  ·subst h0;rw[gJ] at h;simp at h
  ·exact h0
 ·intro h;rw[jP h];simp
theorem oI{n:Nat}:(ek n).length=0↔n=0:=by
 have:= @kK n;omega
theorem uB{l:List Nat}{k:Nat}(C:Dig l)(E:k <= l.length)(O:∀j,k <= j -> j<l.length -> dg l j=0)(G:0<k -> dg l (k-1)≠0):l.take k=ek (val l):=by
 have F:(l.take k).length=k:=by rw[List.length_take];omega
 have t:Can (l.take k):=by
  refine⟨C.take k,fun h=> ?_⟩;rw[F] at h ⊢;rw[nE,if_pos (by omega)];exact G h
 have M:val (l.take k)=val l:=by
  have h1:∀i,k <= i -> val (l.take i)=val (l.take k):=by
   intro i T
   induction i with
   | zero=>
    have:k=0:=by omega
    subst this;rfl
   | succ i R=>
    by_cases h:k <= i
    ·rw[ib,R h];by_cases r:i<l.length
     ·rw[O i h r];simp
     ·rw[jm (by omega)];simp
    ·have:k=i+1:=by omega
     subst this;rfl
  have:=h1 l.length E
  rwa [List.take_of_length_le (Nat.le_refl _),eq_comm] at this
 rw[<- M];exact uA t
theorem qc{l:List Nat}(h:Dig l):(ek (val l)).length <= l.length /\ l.take (ek (val l)).length=ek (val l):=by
 have h1:(ek (val l)).length <= l.length:=jQ (jO h);refine⟨h1,?_⟩;have t:=fu (val l)
 have r:val l=val (l.take (ek (val l)).length)+BB^ (ek (val l)).length*val (l.drop (ek (val l)).length):=by
  have:=val_append (l.take (ek (val l)).length) (l.drop (ek (val l)).length);rw[List.take_append_drop,List.length_take,Nat.min_eq_left h1] at this;exact this
 have E:=mI (val l)
 have C:val (l.drop (ek (val l)).length)=0:=by
  rcases Nat.eq_zero_or_pos (val (l.drop (ek (val l)).length)) with h0 | h0
  ·exact h0
  ·have:=Nat.mul_le_mul_left (BB^ (ek (val l)).length) h0;omega
 rw[C,Nat.mul_zero,Nat.add_zero] at r;exact qa (h.take _) (fF _) (by rw[List.length_take];omega) (by rw[t];exact r.symm)
theorem kM(l:List Nat)(k x:Nat)(h:k<l.length):val ((l.set k x).take (k+1))=val (l.take k)+BB^k*x:=by
 rw[ib,iB,if_pos ⟨rfl,h⟩];congr 2;apply List.ext_getElem?;intro j;rw[List.getElem?_take,List.getElem?_take,List.getElem?_set];split
 ·rw[if_neg (by omega)]
 ·rfl
theorem jZ(P s:Nat):P* (s%10)+P*BB* (s / 10)=P*s:=by
 rw[Nat.mul_assoc, <- Nat.mul_add,ik,Nat.mod_add_div]
theorem uC{lo r t:List Nat}{k c s:Nat}(C:k<lo.length)(h:val (lo.take k)+BB^k*c=val (r.take k)+val (t.take k))(E:s=c+dg r k+dg t k):
  val ((lo.set k (s%10)).take (k+1))+BB^ (k+1)* (s / 10)=val (r.take (k+1))+val (t.take (k+1)):=by
 rw[kM _ _ _ C,ib,ib,Nat.pow_succ];have:=jZ (BB^k) s;have e:BB^k*s=BB^k*c+BB^k*dg r k+BB^k*dg t k:=by rw[E,Nat.mul_add,Nat.mul_add]
 omega
theorem uD{lo r lb:List Nat}{k c c' x:Nat}(t:k<lo.length)(h:val (r.take k)+BB^k*c=val (lo.take k)+val (lb.take k))(C:dg r k+10*c'=x+c+dg lb k):
  val (r.take (k+1))+BB^ (k+1)*c'=val ((lo.set k x).take (k+1))+val (lb.take (k+1)):=by
 rw[kM _ _ _ t,ib,ib,Nat.pow_succ];have e:BB^k* (dg r k+10*c')=BB^k* (x+c+dg lb k):=by rw[C]
 rw[Nat.mul_add,Nat.mul_add,Nat.mul_add, <- Nat.mul_assoc] at e;simp only[<- ik] at e;omega
theorem uE{lo r lb:List Nat}{c:Nat}(t:Dig lo)(E:val lb <= val r)(C:c <= 1)(h:val r+BB^lo.length*c=val lo+val lb):val lo=val r-val lb:=by
 have h1:=jO t
 rcases(show c=0 \/ c=1 by omega) with rfl | rfl <;> omega
theorem xh{lo l:List Nat}{k c b p s:Nat}(r:k<lo.length)(h:val (lo.take k)+BB^k*c=b*val (l.take k)+p)(t:s=c+dg l k*b):
  val ((lo.set k (s%10)).take (k+1))+BB^ (k+1)* (s / 10)=b*val (l.take (k+1))+p:=by
 rw[kM _ _ _ r,ib,Nat.pow_succ];have:=jZ (BB^k) s;have e:BB^k*s=BB^k*c+b* (BB^k*dg l k):=by rw[t,Nat.mul_add,Nat.mul_comm (dg l k) b,Nat.mul_left_comm]
 rw[Nat.mul_add];omega
theorem kP(l:List Nat)(k:Nat)(h:k<l.length):val (l.drop k)=dg l k+BB*val (l.drop (k+1)):=by
 rw[List.drop_eq_getElem_cons h,val,jG h]
theorem oJ(l:List Nat)(k x:Nat)(h:k<l.length):val ((l.set k x).drop k)=x+BB*val (l.drop (k+1)):=by
 rw[kP _ _ (by rw[List.length_set];exact h),iB,if_pos ⟨rfl,h⟩];congr 3;rw[List.drop_set];simp
def fM(a b:Nat):Int:=if a<b then -1 else if a=b then 0 else 1
theorem qd{l m:List Nat}(r:Dig l)(t:Can m)(h:l.length<m.length):val l<val m:=by
 rcases Nat.lt_or_ge (val l) (val m) with h1 | h1
 ·exact h1
 ·have:=nH t r h1;omega
theorem uF{l m:List Nat}(r:l.length=m.length)(h:∀j,j<l.length -> dg l j=dg m j):val l=val m:=by rw[oG r h]
theorem qg{l m:List Nat}{k:Nat}(F:Dig l)(O:l.length=m.length)(M:k<l.length)(h:∀j,k<j -> j<l.length -> dg l j=dg m j)(U:dg l k<dg m k):val l<val m:=by
 have E:l.drop (k+1)=m.drop (k+1):=by
  apply oG
  ·rw[List.length_drop,List.length_drop,O]
  ·intro j G;rw[List.length_drop] at G;have:=h (k+1+j) (by omega) (by omega);unfold dg at this ⊢
   simpa [List.getD_eq_getElem?_getD,List.getElem?_drop] using this
 have R:val l=val (l.take k)+BB^k*val (l.drop k):=by
  have:=val_append (l.take k) (l.drop k)
  rwa [List.take_append_drop,List.length_take,Nat.min_eq_left (by omega)] at this
 have T:val m=val (m.take k)+BB^k*val (m.drop k):=by
  have:=val_append (m.take k) (m.drop k)
  rwa [List.take_append_drop,List.length_take,Nat.min_eq_left (by omega)] at this
 have r:val (l.drop k)+1 <= val (m.drop k):=by
  rw[kP l _ M,kP m _ (by omega),E];omega
 have t:=jO (F.take k);rw[List.length_take,Nat.min_eq_left (by omega)] at t;have C:BB^k* (val (l.drop k)+1) <= BB^k*val (m.drop k):=Nat.mul_le_mul_left _ r;rw[Nat.mul_add] at C;omega
theorem oK(l:List Nat)(i x:Nat)(h:i<l.length):val (l.set i x)+BB^i*dg l i=val l+BB^i*x:=by
 have r:val (l.set i x)=val (l.take i)+BB^i*val ((l.set i x).drop i):=by
  have:=val_append ((l.set i x).take i) ((l.set i x).drop i);rw[List.take_append_drop,List.length_take,List.length_set,Nat.min_eq_left (by omega)] at this;rw[this,List.take_set,List.set_eq_of_length_le];rw[List.length_take];omega
 have t:val l=val (l.take i)+BB^i*val (l.drop i):=by
  have:=val_append (l.take i) (l.drop i)
  rwa [List.take_append_drop,List.length_take,Nat.min_eq_left (by omega)] at this
 rw[r,t,oJ _ _ _ h,kP _ _ h,Nat.mul_add,Nat.mul_add];omega
theorem uG{lo lb:List Nat}{i j c x s V:Nat}(r:i+j<lo.length)(h:val lo+BB^ (i+j)*c=V+BB^i* (x*val (lb.take j)))(t:s=c+ (x*dg lb j+dg lo (i+j))):
  val (lo.set (i+j) (s%10))+BB^ (i+ (j+1))* (s / 10)=V+BB^i* (x*val (lb.take (j+1))):=by
 have h1:=oK lo (i+j) (s%10) r;have C:=jZ (BB^ (i+j)) s
 have e:BB^ (i+j)*s=BB^ (i+j)*c+ (BB^i* (x* (BB^j*dg lb j))+BB^ (i+j)*dg lo (i+j)):=by
  rw[t,Nat.mul_add,Nat.mul_add,Nat.pow_add];congr 2;rw[Nat.mul_assoc,Nat.mul_left_comm (BB^j) x]
 rw[ib,Nat.mul_add,Nat.mul_add, <- Nat.add_assoc i j 1,Nat.pow_succ];omega
theorem xn{lo lb r:List Nat}{i c V:Nat}(C:i+lb.length<lo.length)(E:dg lo (i+lb.length)=0)(h:val lo+BB^ (i+lb.length)*c=V+BB^i* (dg r i*val (lb.take lb.length)))(t:V=val (r.take i)*val lb):
  val (lo.set (i+lb.length) c)=val (r.take (i+1))*val lb:=by
 have h1:=oK lo (i+lb.length) c C;rw[E,Nat.mul_zero,Nat.add_zero] at h1;rw[h1,h,t,iF (Nat.le_refl _),ib,Nat.add_mul,Nat.mul_assoc]
end T
section
open Go.Lib
def txt(a:Int):ByteArray:=⟨(itoa a).toArray⟩
theorem jS(a:Int):(txt a).data.toList=itoa a:=by simp[txt]
def chr(d:Nat):UInt8:=UInt8.ofNat (48+d)
theorem qh{d:Nat}(h:d<10):(chr d).toNat=48+d:=by unfold chr;simp;omega
theorem oO:decDigits 0= [48]:=by rw[decDigits_one (by omega)];rfl
theorem rE(n:Nat):0<n -> decDigits n=(T.ek n).reverse.map chr:=by
 induction n using Nat.strongRecOn with
 | _ n E=>
  intro h;rw[T.jP h];by_cases C:n<10
  ·rw[decDigits_one C];have r:n / T.BB=0:=by rw[T.ik];omega
   have t:n%T.BB=n:=by rw[T.ik];omega
   rw[r,t,T.gJ];rfl
  ·rw[decDigits,dif_neg C];have r:n / T.BB=n / 10:=by rw[T.ik]
   have t:n%T.BB=n%10:=by rw[T.ik]
   rw[r,t,E (n / 10) (by omega) (by omega)];simp[chr]
theorem DJ{n:Nat}(h:0<n):(decDigits n).length=(T.ek n).length:=by rw[rE n h];simp
theorem rF(n:Nat):0<(decDigits n).length:=by
 rw[decDigits];split <;> simp
theorem xD(n:Nat):(T.ek n).length <= (decDigits n).length:=by
 rcases Nat.eq_zero_or_pos n with h | h
 ·subst h;rw[T.gJ];simp
 ·rw[DJ h];exact Nat.le_refl _
def gm(c:UInt8):Bool:=decide (48 <= c.toNat) && decide (c.toNat <= 57)
theorem kS{c:UInt8}:gm c=true↔48 <= c.toNat /\ c.toNat <= 57:=by unfold gm;simp
theorem DK{d:Nat}(h:d<10):gm (chr d)=true:=by rw[kS,qh h];omega
theorem mO(n:Nat):∀c ∈ decDigits n,gm c=true:=by
 rcases Nat.eq_zero_or_pos n with h | h
 ·subst h;rw[oO];intro c r;simp at r;subst r;rfl
 ·rw[rE n h];intro c r;rw[List.mem_map] at r;obtain⟨d,t,rfl⟩:=r;rw[List.mem_reverse] at t;obtain⟨i,C,rfl⟩:=List.getElem_of_mem t;have:=T.fF n i;rw[jG C] at this;exact DK this
def dv(l:List UInt8):Nat:=l.foldl (fun a c=>10*a+ (c.toNat-48)) 0
theorem xE(l:List UInt8)(c:UInt8):dv (l++ [c])=10*dv l+ (c.toNat-48):=by unfold dv;rw[List.foldl_append];rfl
theorem DL(l:List UInt8):∀a,l.foldl (fun a c=>10*a+ (c.toNat-48)) a=10^l.length*a+dv l:=by
 induction l with
 | nil=>intro a;simp[dv]
 | cons c l h=>
  intro a;unfold dv;rw[List.foldl_cons,List.foldl_cons,h,h (10*0+ (c.toNat-48)),List.length_cons,Nat.pow_succ];rw[Nat.mul_add,Nat.mul_zero,Nat.zero_add, <- Nat.mul_assoc,Nat.add_assoc]
theorem uJ(l m:List UInt8):dv (l++m)=10^m.length*dv l+dv m:=by
 unfold dv;rw[List.foldl_append,DL];rfl
theorem qi{l:List UInt8}(h:∀c ∈ l,gm c=true):dv l<10^l.length:=by
 induction l with
 | nil=>simp[dv]
 | cons c l E=>
  have h1:=E (fun x C=>h x (List.mem_cons_of_mem _ C));have F:=kS.1 (h c (List.mem_cons_self ..));have r:=uJ [c] l;have t:dv [c]=c.toNat-48:=by unfold dv;simp
  rw[List.singleton_append,t] at r;rw[r,List.length_cons,Nat.pow_succ];have G:10^l.length* (c.toNat-48) <= 10^l.length*9:=Nat.mul_le_mul_left _ (by omega);omega
theorem DN{P:List UInt8 -> Prop}(h0:P [])(h1:∀l c,P l -> P (l++ [c]))(l:List UInt8):P l:=by
 have:∀m:List UInt8,P m.reverse:=by
  intro m
  induction m with
  | nil=>exact h0
  | cons c m h=>rw[List.reverse_cons];exact h1 _ _ h
 have:=this l.reverse
 rwa [List.reverse_reverse] at this
theorem jH(n:Nat):dv (decDigits n)=n:=by
 induction n using Nat.strongRecOn with
 | _ n h=>
  rw[decDigits];split
  ·unfold dv;simp;omega
  ·rw[xE,h _ (by omega)];simp;omega
theorem rH(l:List UInt8):l≠ [] -> (∀c ∈ l,gm c=true) -> (l.head? =some 48 -> l.length <= 1) -> decDigits (dv l)=l:=by
 induction l using DN with
 | h0=>intro h;exact absurd rfl h
 | h1 l c R=>
  intro _ E F;have T:=kS.1 (E c (by simp));rw[xE];by_cases r:l= []
  ·subst r;rw[show dv []=0 from rfl,decDigits_one (by omega)];simp only[List.nil_append,List.cons.injEq,and_true];apply UInt8.toNat_inj.1;simp;omega
  ·have U:0<l.length:=List.length_pos_iff.2 r;have G:(l++ [c]).head? = l.head? :=by rw[List.head?_append];cases l with | nil=>exact absurd rfl r | cons _ _=>rfl
   rw[G,List.length_append,List.length_singleton] at F;have C: l.head? ≠some 48:=fun h=>by have:=F h;omega
   have t:=R r (fun x O=>E x (by simp[O])) (fun h=>absurd h C)
   have M:0<dv l:=by
    rcases Nat.eq_zero_or_pos (dv l) with h0 | h0
    ·rw[h0,oO] at t;rw[<- t] at C;exact absurd rfl C
    ·exact h0
   rw[show 10*dv l+ (c.toNat-48)=dv l*10+ (c.toNat-48) by omega,xA _ _ M (by omega),t];congr 1;simp only[List.cons.injEq,and_true];apply UInt8.toNat_inj.1;simp;omega
def body(l:List UInt8):List UInt8:=if l.head? =some 45 then l.tail else l
def chk(l:List UInt8):Nat:=
 if body l= [] then 14 else if(body l).all gm=false then 14 else if(body l).head? =some 48 /\ (1<(body l).length \/ l.head? =some 45) then 3 else 0
theorem nK{l:List UInt8}(h:chk l=0):∃a:Int,l=itoa a /\ body l=decDigits a.natAbs /\ (l.head? =some 45↔a<0):=by
 unfold chk at h;split at h
 ·omega
 rename_i h1;split at h
 ·omega
 rename_i G;split at h
 ·omega
 rename_i F
 have M:∀c ∈ body l,gm c=true:=by
  have:(body l).all gm=true:=by simpa using G
  exact List.all_eq_true.1 this
 have t:=rH (body l) h1 M (fun O=>by
  rcases Nat.lt_or_ge 1 (body l).length with C | C
  ·exact absurd ⟨O, .inl C⟩ F
  ·exact C)
 by_cases r: l.head? =some 45
 ·have E:l=45::body l:=by
   unfold body;rw[if_pos r];cases l with
   | nil=>simp at r
   | cons c l=>simp at r;rw[r];rfl
  have R:0<dv (body l):=by
   rcases Nat.eq_zero_or_pos (dv (body l)) with h0 | h0
   ·rw[h0,oO] at t;exact absurd ⟨by rw[<- t];rfl, .inr r⟩ F
   ·exact h0
  refine⟨-(dv (body l):Int),?_,?_,?_⟩
  ·unfold itoa;rw[if_pos (by omega)];have:(-(dv (body l):Int)).natAbs=dv (body l):=by omega
   rw[this,t];exact E
  ·have:(-(dv (body l):Int)).natAbs=dv (body l):=by omega
   rw[this,t]
  ·exact⟨fun _=>by omega,fun _=>r⟩
 ·have E:l=body l:=by unfold body;rw[if_neg r]
  refine⟨(dv (body l):Int),?_,?_,?_⟩
  ·unfold itoa;rw[if_neg (by omega),Int.toNat_natCast,t];exact E
  ·rw[Int.natAbs_natCast,t]
  ·exact⟨fun h=>absurd h r,fun h=>by omega⟩
theorem itoa_neg{a:Int}(h:a<0):itoa a=45::decDigits a.natAbs:=by unfold itoa;rw[if_pos h]
theorem iW{a:Int}(h:¬a<0):itoa a=decDigits a.natAbs:=by unfold itoa;rw[if_neg h,show a.toNat=a.natAbs by omega]
theorem qj{a b:Int}(h:itoa a=itoa b):a=b:=by
 have C:∀n m:Nat,decDigits n=decDigits m -> n=m:=fun n m h=>by rw[<- jH n,h,jH]
 have no:∀n m:Nat,decDigits n≠45::decDigits m:=fun n m h=>by
  have:=mO n 45 (by rw[h];simp);simp[gm] at this
 by_cases r:a<0 <;> by_cases t:b<0
 ·rw[itoa_neg r,itoa_neg t] at h;have:=C _ _ (List.cons.inj h).2;omega
 ·rw[itoa_neg r,iW t] at h;exact absurd h.symm (no _ _)
 ·rw[iW r,itoa_neg t] at h;exact absurd h (no _ _)
 ·rw[iW r,iW t] at h;have:=C _ _ h;omega
theorem rJ:itoa 0= [48]:=by rw[iW (by omega)];exact oO
theorem xG(s:Bool)(n:Nat)(h:0<n):itoa (if s then -(n:Int) else n)=(if s then [45] else [])++ (T.ek n).reverse.map chr:=by
 cases s
 ·rw[if_neg (by simp),iW (by omega),Int.natAbs_natCast,rE n h];rfl
 ·rw[if_pos rfl,itoa_neg (by omega),show(-(n:Int)).natAbs=n by omega,rE n h];rfl
end
section
open Go.Lib
def kZ(r:Nat):Bool:= !(decide (48 <= r) && decide (r <= 57))
theorem DR(n b0 r b2 t:Nat)(h:128 <= b0):128 <= (decodeN n b0 r b2 t).1:=by
 unfold decodeN
 repeat' split
 all_goals (simp only;omega)
theorem DT(s:ByteArray):∀ (f pos:Nat),s.size <= pos+f -> (decide (0 <= idxFuncFrom kZ true s f pos)= !((s.data.toList.drop pos).all gm)):=by
 have t:s.data.toList.length=s.size:=by rw[Array.length_toList];rfl
 intro f
 induction f with
 | zero=>
  intro pos h;rw[List.drop_eq_nil_of_le (by rw[t];omega)];rfl
 | succ f R=>
  intro pos h;unfold idxFuncFrom;by_cases r:pos<s.size
  ·rw[if_pos r,List.drop_eq_getElem_cons (by rw[t];exact r),List.all_cons]
   have M:s.data.toList.getD pos 0=s.data.toList[pos]'(by rw[t];exact r):=by
    rw[List.getD_eq_getElem?_getD,List.getElem?_eq_getElem (by rw[t];exact r)];rfl
   have C:=decode_N s pos;rw[M] at C;generalize s.data.toList[pos]'(by rw[t];exact r)=c at C ⊢;by_cases E:gm c=true
   ·have T:=kS.1 E;rw[decodeN_ascii _ _ _ _ _ (by omega)] at C;rw[C,if_neg (by unfold kZ;simp;omega),E,Bool.true_and];exact R (pos+1) (by omega)
   ·have F:gm c=false:=by simpa using E
    have O:kZ (Utf8.decode s pos).1=true:=by
     rw[C];by_cases G:c.toNat<128
     ·rw[decodeN_ascii _ _ _ _ _ G];unfold kZ;unfold gm at F;rw[F];rfl
     ·have:=DR (s.data.toList.length-pos) c.toNat (s.data.toList.getD (pos+1) 0).toNat (s.data.toList.getD (pos+2) 0).toNat (s.data.toList.getD (pos+3) 0).toNat (by omega)
      revert this
      generalize (decodeN (s.data.toList.length-pos) c.toNat (s.data.toList.getD (pos+1) 0).toNat (s.data.toList.getD (pos+2) 0).toNat (s.data.toList.getD (pos+3) 0).toNat).1=q;intro this;unfold kZ;simp;omega
    rw[if_pos O,F];simp
  ·rw[if_neg r,List.drop_eq_nil_of_le (by rw[t];omega)];rfl
theorem DU(s:ByteArray):decide (0 <= idxFunc kZ true s)= !(s.data.toList.all gm):=by
 have:=DT s s.size 0 (by omega);rw[List.drop_zero] at this;exact this
theorem DV(l:List UInt8):trimPrefix l [45]=body l /\ hasPrefix l [45]=decide (l.head? =some 45):=by
 unfold trimPrefix hasPrefix body;cases l with
 | nil=>simp
 | cons c l=>
  by_cases h:c=45
  ·subst h;simp[List.isPrefixOf]
  ·have r:¬(45:UInt8)=c:=fun e=>h e.symm
   simp[List.isPrefixOf,h,r]
theorem DW(M:Nat):∀ (l:List UInt8) (h:Nat),(∀c ∈ l,gm c=true) -> 10^l.length*h+dv l <= M -> M<1844674407370955162 -> parseUintM M h l= .ok (10^l.length*h+dv l):=by
 intro l
 induction l with
 | nil=>intro h _ _ _;simp[parseUintM,dv]
 | cons c l R=>
  intro h r t E;have F:=kS.1 (r c (List.mem_cons_self ..));have h1:=uJ [c] l;have C:dv [c]=c.toNat-48:=by unfold dv;simp
  rw[List.singleton_append,C] at h1;have G:1 <= 10^l.length:=Nat.one_le_pow _ _ (by decide)
  have e:10^ (c::l).length*h+dv (c::l)=10^l.length* (h*10+ (c.toNat-48))+dv l:=by
   rw[h1,List.length_cons,Nat.pow_succ,Nat.mul_add,Nat.mul_comm h 10, <- Nat.mul_assoc,Nat.add_assoc]
  rw[e] at t ⊢;have T:h*10+ (c.toNat-48) <= 10^l.length* (h*10+ (c.toNat-48)):=Nat.le_mul_of_pos_left _ G;unfold parseUintM;rw[if_pos F,if_neg (by omega),if_neg (by omega)];exact R _ (fun x O=>r x (List.mem_cons_of_mem _ O)) t E
theorem DX{l:List UInt8}(h0:l≠ [])(r:l.length <= 9)(h:∀c ∈ l,gm c=true):parseUintB 32 l= .ok (dv l):=by
 unfold parseUintB;rw[if_neg h0];have h1:=qi h;have t:10^l.length <= 10^9:=Nat.pow_le_pow_right (by decide) r;have:=DW (2^32-1) l 0 h (by omega) (by decide);rw[Nat.mul_zero,Nat.zero_add] at this;exact this
end
section
open Go.RowKit
theorem DY(w:World):PredAtRunes prog 175 #[] kZ w:=fun W r t _=>by
 unfold FnGives;by_cases h1:48 <= r <;> by_cases h:r <= 57
 all_goals
  have C:(48:Int) <= (r:Int)↔48 <= r:=oM
  have E:(r:Int) <= 57↔r <= 57:=oM
  go_enter func175,ntmps175
  go_wp2
  all_goals first | (exfalso;omega) | (go_ret;exact⟨by first | (simp[kZ,h1,h];done) | (simp[kZ,h1,h];omega),0,rfl⟩)
theorem uK(s:ByteArray)(b:Bool)(r:s.data.toList.all gm= !b)(w:World):
  Calls prog 174 #[.string s, .func (.func 175) #[] #[]] w fun e w'=>e= .returned (.bool b) /\ Below w.heap.size w w':=by
 have h:=Tryz.strings_ContainsFunc_runes 175 #[] (enters_of func175 kR rfl) kZ s w (DY w);rw[DU,r,Bool.not_not] at h;exact h
theorem DZ(w:World):eQ w (.agg #[.bool false, .slice none 0 0]) 0:=
 ⟨none,0,by simp[gJ],by simp[gJ],by unfold maxLen;omega, .inl (by simp[gJ])⟩
theorem xH(s:ByteArray)(w:World):
  Calls prog 173 #[.string s, .string ⟨#[45]⟩] w fun e w'=>e= .returned (.tuple #[.string ⟨(body s.data.toList).toArray⟩, .bool (decide (s.data.toList.head? =some 45))]) /\ w=w':=by
 refine(Tryz.strings_CutPrefix s ⟨#[45]⟩ w).mono ?_;rintro e w' ⟨rfl,rfl⟩;have:=DV s.data.toList;exact⟨by rw[show(⟨#[45]⟩:ByteArray).data.toList= [45] from rfl,this.1,this.2],rfl⟩
theorem oP{D:ByteArray}(h:D.data.toList≠ []):¬D.toList= [] /\ D.toList.isEmpty=false:=by
 have:¬D.toList= []:=fun e=>by
  rw[toList_nil_iff_emptyBytes] at e;subst e;exact h rfl
 exact⟨this,by simpa using this⟩
theorem E9(s:ByteArray)(r:Bool)(w:World)(t:((s.size:Nat):Int) <= 65536)(hcut:∀w,Calls prog 173 #[.string s, .string ⟨#[45]⟩] w fun e w'=>e= .returned (.tuple #[.string ⟨#[]⟩, .bool r]) /\ w=w'):
  Calls prog 148 #[.string s] w fun e w'=>e= .returned (.tuple #[.agg #[.bool false, .slice none 0 0], .int .i64 14]) /\ Below w.heap.size w w':=by
 have h:=lH hcut;clear hcut;go_enter func148,ntmps148;go_wp2_with fail
 refine(h.o _).mono ?_;rintro e w' ⟨rfl,rfl⟩;go_wp2_with fail
 go_returns;exact⟨by simp,by go_grown⟩
theorem Ea(s D:ByteArray)(Z:Bool)(w:World)(hs:((s.size:Nat):Int) <= 65536)(hcut:∀w,Calls prog 173 #[.string s, .string ⟨#[45]⟩] w fun e w'=>e= .returned (.tuple #[.string D, .bool Z]) /\ w=w')
  (O:D.data.toList≠ []) (R:D.data.toList.all gm=false):
  Calls prog 148 #[.string s] w fun e w'=>e= .returned (.tuple #[.agg #[.bool false, .slice none 0 0], .int .i64 14]) /\ Below w.heap.size w w':=by
 have U:=lH hcut;obtain⟨a1,a2⟩:=oP O;have V:=lH R;obtain⟨h,E,C⟩:=iV w (.cells #[.bool false, .slice none 0 0] 103);obtain⟨W,t⟩:=eX (w.alloc (.cells #[.bool false, .slice none 0 0] 103));rw[<- t] at h E C;have h:Row W w.heap.size 103 [.bool false, .slice none 0 0]:=h;have M:=lH h;have G:=lH C;have a0:=lH E;clear hcut O R h C E;go_enter func148,ntmps148;go_wp2_with fail
 rw[<- t];clear t;refine(U.o _).mono ?_;rintro e w' ⟨rfl,rfl⟩;go_wp2_with fail
 refine(uK D true V.o _).mono ?_;rintro e w2 ⟨rfl,F⟩;have r:=M.o.below F M.o.lt;have X:=r.at_ 0 rfl;have Y:=r.at_ 1 rfl;have k3:=r.free 0;have k4:=r.free 1;have T:=lH (G.o.trans (F.mono G.o.size));clear r F;go_wp2_with fail
 refine bodyPost_ret (v:= .tuple #[.agg #[.bool false, .slice none 0 0], .int .i64 14]) (by simp[results,results148,go_sem,X,Y]) rfl ?_;exact⟨rfl,(T.o.setCell (p:=⟨w.heap.size,0,none⟩) (Nat.le_refl _) _).setCell (p:=⟨w.heap.size,1,none⟩) (Nat.le_refl _) _⟩
theorem Eb(s D:ByteArray)(U:Bool)(w:World)(hs:((s.size:Nat):Int) <= 65536)(hcut:∀w,Calls prog 173 #[.string s, .string ⟨#[45]⟩] w fun e w'=>e= .returned (.tuple #[.string D, .bool U]) /\ w=w')
  (R:D.data.toList≠ []) (T:D.data.toList.all gm=true) (h0:0<D.size) (a2:D[0].toNat=48) (G:(1:Int)<((D.size:Nat):Int) \/ (((D.size:Nat):Int) <= 1 /\ U=true)):
  Calls prog 148 #[.string s] w fun e w'=>e= .returned (.tuple #[.agg #[.bool false, .slice none 0 0], .int .i64 3]) /\ Below w.heap.size w w':=by
 have X:=lH hcut;obtain⟨a3,a4⟩:=oP R;have Y:=lH T;obtain⟨h,E,C⟩:=iV w (.cells #[.bool false, .slice none 0 0] 103);obtain⟨W,t⟩:=eX (w.alloc (.cells #[.bool false, .slice none 0 0] 103));rw[<- t] at h E C;have h:Row W w.heap.size 103 [.bool false, .slice none 0 0]:=h;have O:=lH h;have M:=lH C;have a0:=lH E;have a1:(0:Int)<((D.size:Nat):Int):=oM
 clear hcut R T h C E
 rcases G with G | ⟨G,rfl⟩
 all_goals
  go_enter func148,ntmps148;go_wp2_with fail
  rw[<- t];clear t;refine(X.o _).mono ?_;rintro e w' ⟨rfl,rfl⟩;go_wp2_with fail
  refine(uK D false Y.o _).mono ?_;rintro e w2 ⟨rfl,F⟩;have r:=O.o.below F O.o.lt;have Z:=r.at_ 0 rfl;have k2:=r.at_ 1 rfl;have k3:=r.free 0;have k4:=r.free 1;have V:=lH (M.o.trans (F.mono M.o.size));clear r F;go_wp2_with fail
  refine bodyPost_ret (v:= .tuple #[.agg #[.bool false, .slice none 0 0], .int .i64 3]) (by simp[results,results148,go_sem,Z,k2]) rfl ?_;exact⟨rfl,(V.o.setCell (p:=⟨w.heap.size,0,none⟩) (Nat.le_refl _) _).setCell (p:=⟨w.heap.size,1,none⟩) (Nat.le_refl _) _⟩
theorem qm(R:ByteArray)(a b:Nat):(R.extract a b).data.toList=(R.data.toList.take b).drop a:=by
 rw[ByteArray.data_extract];simp[Array.toList_extract,List.drop_take]
set_option maxHeartbeats 1600000 in
theorem Ec(s D:ByteArray)(ng:Bool)(w:World)(hs:((s.size:Nat):Int) <= 65536)(hcut:∀w,Calls prog 173 #[.string s, .string ⟨#[45]⟩] w fun e w'=>e= .returned (.tuple #[.string D, .bool ng]) /\ w=w')
  (hD:D.data.toList≠ []) (h:D.data.toList.all gm=true) (h0:0<D.size) (aT:((D.size:Nat):Int) <= 65536) (hf:((D[0].toNat:Int)==48)=false \/ (D[0].toNat=48 /\ ((D.size:Nat):Int) <= 1 /\ ng=false)):
  Calls prog 148 #[.string s] w fun e w'=>∃v,e= .returned (.tuple #[v, .int .i64 0]) /\ eQ w' v (sgn ng (dv D.data.toList)) /\ Below w.heap.size w w':=by
 have HC:=lH hcut;obtain⟨aK,aL⟩:=oP hD;have HD:=lH h;obtain⟨E,Z,Y⟩:=iV w (.cells #[.bool false, .slice none 0 0] 103);obtain⟨W,X⟩:=eX (w.alloc (.cells #[.bool false, .slice none 0 0] 103));rw[<- X] at E Z Y;have E:Row W w.heap.size 103 [.bool false, .slice none 0 0]:=E;have R1:=lH E;have ae:=lH Y;have aS:=lH Z;have aJ:(0:Int)<((D.size:Nat):Int):=oM
 have a3:∀c ∈ D.data.toList,gm c=true:=List.all_eq_true.1 h
 have a4:D.data.toList.length=D.size:=by rw[Array.length_toList];rfl
 have a2:(ek (dv D.data.toList)).length <= 65536:=by
  refine Nat.le_trans (jQ (k:=D.size) ?_) oM;refine Nat.lt_of_lt_of_le (qi a3) ?_;rw[a4];exact Nat.pow_le_pow_left dC _
 obtain⟨N,hN⟩:=eX (dv D.data.toList);rw[<- hN] at a2 ⊢;have aA:=lH a3;have HN:=lH hN;have az:=lH a2;have aO:=lH a4;clear hcut hD h E Y Z a3 hN a2 a4
 rcases hf with hf | ⟨aM,aN,rfl⟩
 all_goals
  go_enter func148,ntmps148;go_wp2_with fail
  rw[<- X];clear X;refine(HC.o _).mono ?_;rintro e w' ⟨rfl,rfl⟩;go_wp2_with fail
  refine(uK D false HD.o _).mono ?_;rintro e w2 ⟨rfl,a0⟩;have R2:=lH (R1.o.below a0 R1.o.lt);have aw:=lH (ae.o.trans (a0.mono ae.o.size));clear a0;go_wp2_with fail
  first
   | clear hf
   | clear aM aN
  clear aJ aK aL hs
  go_loopg [4,6] D.size (fun g aH mv wr=>∃ (R:ByteArray) (n:Nat),aH= .string R /\ Hid (g=R.size) /\ Hid (iQ wr mv n) /\ Hid (∀c ∈ R.data.toList,gm c=true) /\ Hid (N=10^R.size*n+dv R.data.toList) /\ ((R.size:Nat):Int) <= 65536 /\ Hid (Row wr w.heap.size 103 [.bool false, .slice none 0 0]) /\ Hid (Below w.heap.size w wr))
  case atStart=>exact⟨D,0,rfl,lH rfl,lH ⟨none,0,by simp[gJ],by simp[gJ],by unfold maxLen;omega, .inl (by simp[gJ])⟩,aA,lH (by rw[HN.o];simp),by assumption,R2,aw⟩
  case round=>
   obtain⟨R,n,rfl,hg,ap,ai,V,aU,T,a1⟩:=hrel;by_cases hz:(0:Int)<((R.size:Nat):Int)
   ·obtain⟨q,hq⟩:∃q:Nat,(((R.size:Nat):Int)-1)%9=(q:Nat):=⟨(R.size-1)%9,by omega⟩
    have b1:((q:Nat):Int) <= 8:=oM
    have b2:((q:Nat):Int)+1 <= ((R.size:Nat):Int):=oM
    have aQ:=lH (show True from trivial);go_wp2_with fail
    go_loop [8,48] (fun aG iv=>∃k p:Nat,((k:Nat):Int) <= (q:Nat)+1 /\ iv= .int .i64 k /\ aG= .int .u32 (p:Nat) /\ Hid (p=10^k)) (fun _ iv=>q+1-(intOf iv).toNat)
    case atStart=>exact⟨0,1,by omega,rfl,rfl,lH rfl⟩
    case round=>
     obtain⟨k,p,hk,rfl,rfl,O⟩:=hrel;by_cases aX:((k:Nat):Int)<((q:Nat):Int)+1
     ·have b0:p <= 100000000:=by
       rw[O.o];exact Nat.le_trans (Nat.pow_le_pow_right dC (show k <= 8 by omega)) dC
      have a8:((p:Nat):Int)*10 <= 4294967295:=oM
      go_wp2_with fail
      go_round
      case rel=>exact⟨k+1,p*10,by omega,by go_num,by go_num,lH (by rw[O.o,Nat.pow_succ])⟩
      case measure=>simp[intOf];omega
     ·have am:k=q+1:=oM
      have a7:p=10^ (q+1):=by rw[O.o,am]
      have a8:p <= 1000000000:=by
       rw[a7];exact Nat.le_trans (Nat.pow_le_pow_right dC (show q+1 <= 9 by omega)) dC
      have HP:=lH a7;clear a7 O;subst am;go_wp2_with fail
      have G:=qm R 0 (q+1);rw[List.drop_zero] at G;have a9:R.data.toList.length=R.size:=by rw[Array.length_toList];rfl
      have ab:∀c ∈ R.data.toList.take (q+1),gm c=true:=fun c F=>ai.o c (List.mem_of_mem_take F)
      have t:(R.data.toList.take (q+1)).length=q+1:=by rw[List.length_take,a9];omega
      obtain⟨d,h⟩:=eX (dv (R.data.toList.take (q+1)));have al:d<10^ (q+1):=by have:=qi ab;rw[t] at this;rw[h];exact this
      rw[<- HP.o] at al;have ar:=Tryz.strconv_ParseUint_10_at32_ok (R.extract 0 (q+1)) (by rw[ByteArray.size_extract];omega) d (by rw[G,h];exact DX (by intro e;rw[e] at t;simp at t) (by rw[t];omega) ab) wr;have aW:((d:Nat):Int)<4294967296:=oM
      have ay:=lH h;have aP:=lH G;have ad:=lH a9;have aR:=lH t;clear h G a9 ab t al;refine ar.mono ?_;clear ar;rintro e w3 ⟨rfl,av⟩
      have r:Below wr.heap.size wr w3:=by
       rcases av with rfl | rfl
       ·exact Below.refl _ _
       ·exact Lib.bytesWorld_below _ _ _
      have U:=lH r;clear av r;obtain⟨A',c',hv,aY,aZ,ao⟩:=ap.o;subst hv
      have aq:n <= N:=by
       rw[V.o];exact Nat.le_trans (Nat.le_mul_of_pos_left _ (Nat.pow_pos dC)) (Nat.le_add_right _ _)
      have an:(ek n).length<17592186044416:=by have:=iO aq;have:=az.o;omega
      have aD:=lH ao;have aC:=lH an;have aF:=lH a8;clear ao aq an a8;go_wp2_with fail
      refine(Dy A' c' p d (ek n) w3 (by exact U32.below aD.o U.o) (fF n) aC.o (by have:=aF.o;omega) oM).mono ?_;rintro e w4 ⟨v4,rfl,a6,aj⟩;rw[fu] at a6;have aB:=lH a6;have ax:=lH aj;clear a6 aj;go_wp2_with fail
      have a5:=qm R (q+1) R.size;rw[List.take_of_length_le (by rw[ad.o];exact Nat.le_refl _)] at a5;have aa:(R.extract (q+1) R.size).size=R.size-(q+1):=by rw[ByteArray.size_extract];omega
      have ak:Below wr.heap.size wr w4:=U.o.trans (ax.o.mono U.o.size)
      go_roundg ((R.extract (q+1) R.size).size)
      case measure=>rw[hg.o,aa];omega
      case rel=>
       refine⟨_,p*n+d,rfl,lH rfl,aB,lH ?_,lH ?_,?_,lH (T.o.below ak T.o.lt),lH (a1.o.trans (ak.mono a1.o.size))⟩
       ·intro c F;rw[a5] at F;exact ai.o c (List.mem_of_mem_drop F)
       ·rw[V.o,aa,a5,ay.o,HP.o];have h1:=uJ (R.data.toList.take (q+1)) (R.data.toList.drop (q+1));rw[List.take_append_drop,List.length_drop,ad.o] at h1;rw[h1,Nat.mul_add, <- Nat.mul_assoc, <- Nat.pow_add,show R.size-(q+1)+ (q+1)=R.size by omega,Nat.add_assoc]
       ·rw[aa];omega
   ·have ag:R.data.toList= []:=by
     apply List.eq_nil_of_length_eq_zero;rw[Array.length_toList];show R.size=0;omega
    have ah:R.size=0:=oM
    have af:N=n:=by
     have:=V.o;rw[ag,ah] at this;rw[this,Nat.pow_zero,Nat.one_mul];rfl
    have aV:decide (0<R.size)=false:=decide_eq_false oM;have aE:=lH af;clear ag ah af;go_wp2_with fail
    refine(lN _ _ (ek n) _ ap.o.uI).mono ?_;rintro e w3 ⟨v3,rfl,M,r⟩;rw[fu] at M;obtain⟨s3,A3,l3,c3,rfl⟩:=M.shape;have C:=T.o.below r T.o.lt;have k1:=C.at_ 0 rfl;have k2:=C.at_ 1 rfl;have k3:=C.free 0;have k4:=C.free 1;have au:=rC a1.o C (by simp) (by simp) (Nat.le_refl _) r M;have ac:=lH au;clear C M r au;go_wp2_with fail
    refine bodyPost_ret (v:= .tuple #[.agg #[.bool s3, .slice A3 l3 c3], .int .i64 0]) (by simp[results,results148,go_sem,k1,k2]) rfl ?_;rw[aE.o];exact⟨_,rfl,ac.o.1,ac.o.2⟩
end
section
open Go.RowKit
theorem uL(s:ByteArray)(w:World)(Y:s.size <= 65536)(r:chk s.data.toList≠0):
  Calls prog 148 #[.string s] w fun e w'=>∃v,e= .returned (.tuple #[v, .int .i64 (chk s.data.toList:Nat)]) /\ eQ w' v 0 /\ Below w.heap.size w w':=by
 obtain⟨l,W⟩:=eX (s.data.toList);have hcut:=xH s;rw[<- W] at r hcut ⊢;have M:((s.size:Nat):Int) <= 65536:=oM
 have E:∀ (k:Nat),Calls prog 148 #[.string s] w (fun e w'=>e= .returned (.tuple #[.agg #[.bool false, .slice none 0 0], .int .i64 (k:Nat)]) /\ Below w.heap.size w w') -> chk l=k ->
   Calls prog 148 #[.string s] w fun e w'=>∃v,e= .returned (.tuple #[v, .int .i64 (chk l:Nat)]) /\ eQ w' v 0 /\ Below w.heap.size w w':=by
  intro k h V;refine h.mono ?_;rintro e w' ⟨rfl,U⟩;exact⟨_,by rw[V],DZ _,U⟩
 have C:(⟨(body l).toArray⟩:ByteArray).data.toList=body l:=by simp
 unfold chk at r;split at r
 ·rename_i h1;rw[h1] at hcut;exact E 14 (E9 s _ w M hcut) (by unfold chk;rw[if_pos h1])
 rename_i h1;split at r
 ·rename_i t;exact E 14 (Ea s ⟨(body l).toArray⟩ _ w M hcut (by rw[C];exact h1) (by rw[C];exact t)) (by unfold chk;rw[if_neg h1,if_pos t])
 rename_i t;split at r
 ·rename_i F
  have h0:0<(⟨(body l).toArray⟩:ByteArray).size:=by
   show 0<(body l).toArray.size;rw[List.size_toArray];exact List.length_pos_iff.2 h1
  have X:(⟨(body l).toArray⟩:ByteArray).size=(body l).length:=by
   show(body l).toArray.size=_;rw[List.size_toArray]
  refine E 3 (Eb s ⟨(body l).toArray⟩ _ w M hcut (by rw[C];exact h1) (by rw[C];simpa using t) h0 ?_ ?_) (by unfold chk;rw[if_neg h1,if_neg t,if_pos F])
  ·have G:=F.1;have R:0<(body l).length:=oM
   have e:(⟨(body l).toArray⟩:ByteArray)[0]=(body l)[0]:=by
    show(body l).toArray[0]'_=_;simp
   rw[e];rw[List.head?_eq_getElem?,List.getElem?_eq_getElem R] at G;simp only[Option.some.injEq] at G;rw[G];rfl
  ·rw[X]
   rcases Nat.lt_or_ge 1 (body l).length with T | T
   ·left;omega
   ·right
    refine⟨by omega,?_⟩
    rcases F.2 with O | O
    ·omega
    ·exact decide_eq_true O
 ·exact absurd rfl r
theorem uM(s:ByteArray)(a:Int)(w:World)(hs:s.size <= 65536)(ha:s=txt a)(C:chk s.data.toList=0):
  Calls prog 148 #[.string s] w fun e w'=>∃v,e= .returned (.tuple #[v, .int .i64 0]) /\ eQ w' v a /\ Below w.heap.size w w':=by
 obtain⟨l,R⟩:=eX (s.data.toList);have hcut:=xH s;have a0:l.length=s.size:=by rw[R,Array.length_toList];rfl
 rw[<- R] at C hcut;obtain⟨t,h1,G,U⟩:=nK C
 obtain rfl:t=a:=by
  apply qj;rw[<- h1,R,ha,jS]
 have O:(⟨(body l).toArray⟩:ByteArray).data.toList=body l:=by simp
 have r:body l≠ []:=by
  intro e;have:=rF t.natAbs;rw[<- G,e] at this;simp at this
 have V:(body l).all gm=true:=by
  rw[G];exact List.all_eq_true.2 (mO _)
 have h0:0<(⟨(body l).toArray⟩:ByteArray).size:=by
  show 0<(body l).toArray.size;rw[List.size_toArray];exact List.length_pos_iff.2 r
 have X:(⟨(body l).toArray⟩:ByteArray).size=(body l).length:=by
  show(body l).toArray.size=_;rw[List.size_toArray]
 have a1:(body l).length <= s.size:=by
  rw[<- a0];unfold body;split
  ·rw[List.length_tail];omega
  ·exact Nat.le_refl _
 have e:(⟨(body l).toArray⟩:ByteArray)[0]=(body l)[0]'(List.length_pos_iff.2 r):=by
  show(body l).toArray[0]'_=_;simp
 have hg:=Ec s ⟨(body l).toArray⟩ _ w oM hcut (by rw[O];exact r) (by rw[O];exact V) h0 (by rw[X];omega) (by
  rw[e];have Y:(body l).head? =some ((body l)[0]'(List.length_pos_iff.2 r)):=by rw[List.head?_eq_getElem?,List.getElem?_eq_getElem]
  by_cases M:(body l)[0]'(List.length_pos_iff.2 r)=48
  ·right
   unfold chk at C;rw[if_neg r,if_neg (by rw[V];simp)] at C
   have E:¬((body l).head? =some 48 /\ (1<(body l).length \/ l.head? =some 45)):=by
    intro Z;rw[if_pos Z] at C;omega
   rw[Y,M] at E;refine⟨by rw[M];rfl,?_,?_⟩
   ·rw[X]
    rcases Nat.lt_or_ge 1 (body l).length with F | F
    ·exact absurd ⟨rfl, .inl F⟩ E
    ·omega
   ·exact decide_eq_false (fun F=>E ⟨rfl, .inr F⟩)
  ·left
   rw[beq_eq_false_iff_ne];intro E;apply M;apply UInt8.toNat_inj.1;show _=48
   omega)
 refine hg.mono ?_;rintro e w' ⟨v,rfl,T,hb⟩;refine⟨v,rfl,?_,hb⟩;rw[O,G,jH] at T
 have:sgn (decide (l.head? =some 45)) t.natAbs=t:=by
  by_cases W:t<0
  ·rw[decide_eq_true (U.2 W)];unfold sgn;simp;omega
  ·rw[decide_eq_false (fun h=>W (U.1 h))];unfold sgn;simp;omega
 rw[this] at T;exact T
end
section
open Go.Lib
def eH(l:List UInt8):List UInt8:=l.takeWhile (· !=47)
def fG(l:List UInt8):List UInt8:=l.dropWhile (· !=47)
def fJ(l:List UInt8):List UInt8:=(fG l).tail
theorem jo(l:List UInt8):eH l++fG l=l:=List.takeWhile_append_dropWhile
theorem Ed(l:List UInt8):fG l= [] \/ ∃m,fG l=47::m:=by
 unfold fG
 induction l with
 | nil=>exact .inl rfl
 | cons c l r=>
  rw[List.dropWhile_cons];split
  ·exact r
  ·rename_i h;refine .inr ⟨l,?_⟩;have:c=47:=by simpa using h
   rw[this]
theorem rM{l:List UInt8}(h:fG l≠ []):l=eH l++47::fJ l:=by
 rcases Ed l with r | ⟨m,r⟩
 ·exact absurd r h
 ·conv=>lhs;rw[<- jo l]
  unfold fJ;rw[r];rfl
theorem qo{l:List UInt8}(h:fG l= []):eH l=l:=by
 have:=jo l;rw[h,List.append_nil] at this;exact this
theorem xI(l:List UInt8):∀c ∈ eH l,c≠47:=by
 intro c r;have h:=List.all_takeWhile (p:=(· !=47)) (l:=l);have:=List.all_eq_true.1 h c r
 simpa using this
theorem rO{a b:List UInt8}(h:∀c ∈ a,c≠47):eH (a++47::b)=a /\ fG (a++47::b)=47::b:=by
 unfold eH fG
 induction a with
 | nil=>simp
 | cons c a F=>
  have C:=h c (by simp);obtain⟨h1,r⟩:=F fun x E=>h x (by simp[E])
  have t:(c !=47)=true:=by simpa using C
  simp only[List.cons_append,List.takeWhile_cons,List.dropWhile_cons,t,if_true];exact⟨by rw[h1],r⟩
theorem xJ{a:List UInt8}(h:∀c ∈ a,c≠47):eH a=a /\ fG a= []:=by
 unfold eH fG
 induction a with
 | nil=>simp
 | cons c a F=>
  have C:=h c (by simp);obtain⟨h1,r⟩:=F fun x E=>h x (by simp[E])
  have t:(c !=47)=true:=by simpa using C
  simp only[List.takeWhile_cons,List.dropWhile_cons,t,if_true];exact⟨by rw[h1],r⟩
def fA(q:Rat):List UInt8:=if q.den=1 then itoa q.num else itoa q.num++47::decDigits q.den
def eF(q:Rat):ByteArray:=⟨(fA q).toArray⟩
theorem jI(q:Rat):(eF q).data.toList=fA q:=by simp[eF]
theorem rP{q:Rat}(h:q.den=1):eF q=txt q.num:=by unfold eF fA txt;rw[if_pos h]
theorem qp{q:Rat}(h:q.den≠1):fA q=itoa q.num++47::decDigits q.den:=by unfold fA;rw[if_neg h]
theorem xK(n:Nat):∀c ∈ decDigits n,c≠47:=by
 intro c h e;have:=kS.1 (mO n c h);rw[e] at this;simp at this
theorem xL(a:Int):∀c ∈ itoa a,c≠47:=by
 intro c r;by_cases h:a<0
 ·rw[itoa_neg h] at r
  rcases List.mem_cons.1 r with rfl | r
  ·decide
  ·exact xK _ c r
 ·rw[iW h] at r;exact xK _ c r
theorem nL{q:Rat}(h:q.den=1):eH (fA q)=itoa q.num /\ fG (fA q)= []:=by
 unfold fA;rw[if_pos h];exact xJ (xL _)
theorem nM{q:Rat}(h:q.den≠1):eH (fA q)=itoa q.num /\ fG (fA q)=47::decDigits q.den /\ fJ (fA q)=decDigits q.den:=by
 rw[qp h];obtain⟨h1,r⟩:=rO (b:=decDigits q.den) (xL q.num);exact⟨h1,r,by unfold fJ;rw[r];rfl⟩
def fK(l:List UInt8):Nat:=
 if fG l= [] then chk l
 else if chk (eH l)=14 \/ fJ l= [] \/ (fJ l).all gm=false then 14
 else if(fJ l).all (· ==48)=true then 19
 else if chk (eH l)=3 \/ (fJ l).head? =some 48 \/ fJ l= [49] \/ Nat.gcd (dv (body (eH l))) (dv (fJ l))≠1 then 3 else 0
theorem xM{l:List UInt8}(h:fG l= []):fK l=chk l:=by unfold fK;rw[if_pos h]
theorem xN(a:Int):body (itoa a)=decDigits a.natAbs:=by
 unfold body;by_cases h:a<0
 ·rw[itoa_neg h];rfl
 ·rw[iW h,if_neg];intro e;have r:=mO a.natAbs;cases hl:decDigits a.natAbs with
  | nil=>rw[hl] at e;cases e
  | cons c l=>
   rw[hl] at e r;have t:c=45:=by simpa using e
   have:=kS.1 (r c (by simp));rw[t] at this;simp at this
theorem xO(n:Nat):(decDigits n).all gm=true:=List.all_eq_true.2 (mO n)
theorem qw(n:Nat):decDigits n≠ []:=by intro h;have:=rF n;rw[h] at this;simp at this
theorem uN{n:Nat}(h:(decDigits n).head? =some 48):n=0:=by
 induction n using Nat.strongRecOn with
 | _ n C=>
  by_cases r:n<10
  ·rw[decDigits_one r] at h;have h1:UInt8.ofNat (48+n)=48:=by simpa using h
   have t:(UInt8.ofNat (48+n)).toNat=48:=by rw[h1];rfl
   simp at t;omega
  ·rw[decDigits,dif_neg r,List.head?_append,List.head?_eq_some_head (qw _)] at h;have:=C (n / 10) (by omega) (by rw[List.head?_eq_some_head (qw _)];exact h);omega
theorem Ee{n:Nat}(h:(decDigits n).all (· ==48)=true):n=0:=by
 refine uN ?_;cases hl:decDigits n with
 | nil=>exact absurd hl (qw n)
 | cons c l=>
  rw[hl] at h;simp only[List.all_cons,Bool.and_eq_true,beq_iff_eq] at h;rw[h.1];rfl
theorem xP(a:Int):chk (itoa a)=0:=by
 unfold chk;rw[xN,if_neg (qw _),if_neg (by rw[xO];decide),if_neg];rintro⟨h1,h⟩;have h0:=uN h1;have r:a=0:=by omega
 subst r;rw[rJ] at h
 rcases h with h | h
 ·simp[oO] at h
 ·simp at h
theorem mP(q:Rat):fK (fA q)=0:=by
 by_cases h:q.den=1
 ·rw[xM (nL h).2];unfold fA;rw[if_pos h];exact xP _
 ·obtain⟨h1,r,t⟩:=nM h;unfold fK;rw[if_neg (by rw[r];simp),h1,t,xP,xN,jH,jH,xO];rw[if_neg (by simp[qw]),if_neg (fun e=>q.den_nz (Ee e)),if_neg];rintro(e | e | e | e)
  ·omega
  ·exact q.den_nz (uN e)
  ·have:=jH q.den;rw[e] at this;exact h (this.symm.trans rfl)
  ·exact e q.reduced
theorem xQ{l:List UInt8}(h:fK l=0):∃q:Rat,l=fA q:=by
 unfold fK at h;split at h
 ·rename_i F;obtain⟨a,T,_⟩:=nK h;exact⟨(a:Rat),by unfold fA;rw[if_pos (Rat.den_intCast a),Rat.num_intCast];exact T⟩
 rename_i F;split at h
 ·omega
 rename_i h1;split at h
 ·omega
 rename_i h2;split at h
 ·omega
 rename_i C;simp only[not_or] at h1 C;obtain⟨Z,G,M⟩:=h1;obtain⟨a0,t,O,E⟩:=C
 have R:chk (eH l)=0:=by
  have:chk (eH l)=0 \/ chk (eH l)=3 \/ chk (eH l)=14:=by unfold chk;split <;> (try split) <;> (try split) <;> simp
  omega
 obtain⟨x,X,Y,_⟩:=nK R;have U:∀c ∈ fJ l,gm c=true:=List.all_eq_true.1 (by simpa using M)
 have r:=rH (fJ l) G U (fun e=>absurd e t);rw[Y,jH] at E
 have W:dv (fJ l)≠0:=by
  intro e;rw[e,oO] at r;rw[<- r] at t;exact t rfl
 have V:dv (fJ l)≠1:=by
  intro e;rw[e] at r;exact O (r.symm.trans (by simp[decDigits]))
 refine⟨⟨x,dv (fJ l),W,by simpa using E⟩,?_⟩;rw[qp V];simp only[];rw[r, <- X];exact rM F
theorem rQ{p q:Rat}(h:fA p=fA q):p=q:=by
 by_cases r:p.den=1 <;> by_cases t:q.den=1
 ·have h1:=(nL r).1;rw[h,(nL t).1] at h1;exact Rat.ext (qj h1.symm) (r.trans t.symm)
 ·have h1:=(nL r).2;rw[h,(nM t).2.1] at h1;cases h1
 ·have h1:=(nL t).2;rw[<- h,(nM r).2.1] at h1;cases h1
 ·obtain⟨C,_,E⟩:=nM r;obtain⟨F,_,G⟩:=nM t;rw[h,F] at C;rw[h,G] at E;refine Rat.ext (qj C.symm) ?_;rw[<- jH p.den, <- E,jH]
theorem xR{p q:Rat}(h:eF p=eF q):p=q:=by
 apply rQ;rw[<- jI, <- jI,h]
end
end Go.Proofs.YtdefghfjhgmpfaaGreatDoor
