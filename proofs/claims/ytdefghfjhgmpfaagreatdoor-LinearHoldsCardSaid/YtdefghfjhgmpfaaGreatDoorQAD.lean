/- Parts of this proof: Dec MathT Txt Rune Parse Parsed. -/
import Derived.Lib.ItoaNum
import Derived.Lib.ItoaMem
import Derived.Lib.Repeat
import Derived.Lib.Join
import Derived.Test.YtdefghfjhgmpfaaGreatDoorQAC
import Derived.Lib.TrimUEq
import Derived.Lib.ParseIntB
import Derived.Shelf.GgClosure.StringsIndexFunc
import Derived.Test.YtdefghfjhgmpfaaGreatDoorQAA
import Derived.Deep.LoopGhost
namespace Go.Proofs.YtdefghfjhgmpfaaGreatDoor
section
open Go.Lib
theorem dec_step(q d:Nat)(hq:0<q)(hd:d<10):decDigits (q*10+d)=decDigits q++ [UInt8.ofNat (48+d)]:=by
 rw[decDigits,dif_neg (by omega),show(q*10+d) / 10=q by omega,show(q*10+d)%10=d by omega]
def padL:Nat -> Nat -> List UInt8
 | 0,_=>[]
 | k+1,r=>padL k (r / 10)++ [UInt8.ofNat (48+r%10)]
theorem padL_length(k r:Nat):(padL k r).length=k:=by
 induction k generalizing r with
 | zero=>rfl
 | succ k ih=>simp[padL,ih]
theorem dec_pad(k:Nat):∀ (q r:Nat),0<q -> r<10^k -> decDigits (q*10^k+r)=decDigits q++padL k r:=by
 induction k with
 | zero=>intro q r _ hr;rw[Nat.pow_zero] at hr;rw[show r=0 by omega];simp[padL]
 | succ k ih=>
  intro q r hq hr;rw[Nat.pow_succ] at hr
  have e:q*10^ (k+1)+r=(q*10^k+r / 10)*10+r%10:=by
   rw[Nat.pow_succ,Nat.add_mul,Nat.mul_assoc];omega
  have hpos:0<q*10^k:=Nat.mul_pos hq (Nat.pow_pos (by decide));rw[e,dec_step _ _ (by omega) (Nat.mod_lt _ (by decide)),ih q (r / 10) hq (by omega),padL,List.append_assoc]
theorem repeatL_snoc(k:Nat)(b:UInt8):repeatL [b] k++ [b]=b::repeatL [b] k:=by
 induction k with
 | zero=>rfl
 | succ k ih=>rw[repeatL,List.append_assoc,ih];rfl
theorem pad_zero(k:Nat):padL k 0=repeatL [48] k:=by
 induction k with
 | zero=>rfl
 | succ k ih=>
  show padL k (0 / 10)++ [UInt8.ofNat (48+0%10)]=_;rw[Nat.zero_div,ih];show repeatL [48] k++ [48]= [48]++repeatL [48] k;rw[repeatL_snoc];rfl
theorem dec_len_le(k:Nat):∀r,r<10^ (k+1) -> (decDigits r).length <= k+1:=by
 induction k with
 | zero=>intro r hr;rw[decDigits_one (by simpa using hr)];simp
 | succ k ih=>
  intro r hr;by_cases h:r<10
  ·rw[decDigits_one h];simp
  ·rw[decDigits,dif_neg h,List.length_append];rw[Nat.pow_succ] at hr;have:=ih (r / 10) (by omega);simp;omega
theorem pad_eq(k:Nat):∀r,r<10^ (k+1) -> repeatL [48] (k+1-(decDigits r).length)++decDigits r=padL (k+1) r:=by
 induction k with
 | zero=>intro r hr;rw[decDigits_one (by simpa using hr)];simp[padL,repeatL];congr 1;omega
 | succ k ih=>
  intro r hr;by_cases h:r<10
  ·rw[decDigits_one h,padL,show r / 10=0 by omega,pad_zero,show r%10=r by omega];rfl
  ·rw[Nat.pow_succ] at hr;have h1:=ih (r / 10) (by omega);rw[padL, <- h1,decDigits,dif_neg h,List.length_append,List.append_assoc];have h2:=dec_len_le k (r / 10) (by omega);rw[show k+1+1-((decDigits (r / 10)).length+ [UInt8.ofNat (48+r%10)].length)=k+1-(decDigits (r / 10)).length by simp]
theorem join_nosep(xs:List (List UInt8)):join xs []=xs.flatten:=by
 unfold join
 induction xs with
 | nil=>rfl
 | cons x xs ih=>
  rcases xs with _ | ⟨y,ys⟩
  ·simp[List.intercalate]
  ·rw[List.flatten_cons, <- ih];simp[List.intercalate,List.intersperse]
def ahead(m:Nat):List UInt8:=if m=0 then [] else decDigits m
def groupOf(m:Nat):List UInt8:=if m / 1000000000=0 then decDigits (m%1000000000) else padL 9 (m%1000000000)
theorem ahead_step{m:Nat}(hm:0<m):ahead m=ahead (m / 1000000000)++groupOf m:=by
 unfold ahead groupOf;rw[if_neg (by omega)];have hdm:=Nat.div_add_mod m 1000000000;by_cases h:m / 1000000000=0
 ·rw[if_pos h,if_pos h];rw[h] at hdm;rw[List.nil_append];congr 1;omega
 ·rw[if_neg h,if_neg h];have:=dec_pad 9 (m / 1000000000) (m%1000000000) (by omega) (Nat.mod_lt _ (by decide));rw[<- this];congr 1;show m=m / 1000000000*1000000000+m%1000000000;omega
end
namespace T
open Go.Proofs.YtdefghfjhgmpfaaGreatDoor (dg dg_nil dg_zero dg_succ dg_ge dg_lt dg_take dg_append dg_set dg_replicate ext_dg)
def BB:Nat:=10
theorem BB_eq:BB=10:=rfl
def Dig(l:List Nat):Prop:=∀k,dg l k<10
theorem Dig.nil:Dig []:=fun k=>by rw[dg_nil];omega
theorem Dig.take{l:List Nat}(h:Dig l)(n:Nat):Dig (l.take n):=fun k=>by rw[dg_take];split <;> first | exact h k | omega
theorem Dig.set{l:List Nat}(h:Dig l)(i x:Nat)(hx:x<10):Dig (l.set i x):=fun k=>by rw[dg_set];split <;> first | exact h k | exact hx
theorem Dig.replicate(n:Nat):Dig (List.replicate n 0):=fun k=>by rw[dg_replicate];split <;> omega
theorem Dig.cons{d:Nat}{l:List Nat}(hd:d<10)(h:Dig l):Dig (d::l):=fun k=>by
 cases k with
 | zero=>exact hd
 | succ k=>exact h k
theorem Dig.tail{d:Nat}{l:List Nat}(h:Dig (d::l)):Dig l:=fun k=>h (k+1)
theorem Dig.head{d:Nat}{l:List Nat}(h:Dig (d::l)):d<10:=h 0
theorem Dig.append{l m:List Nat}(hl:Dig l)(hm:Dig m):Dig (l++m):=fun k=>by rw[dg_append];split;exact hl k;exact hm _
def val:List Nat -> Nat
 | []=>0
 | d::l=>d+BB*val l
theorem val_nil:val []=0:=rfl
theorem val_cons(d:Nat)(l:List Nat):val (d::l)=d+BB*val l:=rfl
theorem val_append(l m:List Nat):val (l++m)=val l+BB^l.length*val m:=by
 induction l with
 | nil=>simp[val]
 | cons d l ih=>simp only[List.cons_append,val,ih,List.length_cons,Nat.pow_succ];rw[Nat.mul_add, <- Nat.add_assoc];congr 1;rw[Nat.mul_comm (BB^l.length) BB,Nat.mul_assoc]
theorem val_replicate(n:Nat):val (List.replicate n 0)=0:=by
 induction n with
 | zero=>rfl
 | succ n ih=>simp[List.replicate_succ,val,ih]
theorem val_lt{l:List Nat}(h:Dig l):val l<BB^l.length:=by
 induction l with
 | nil=>simp[val]
 | cons d l ih=>
  have h1:=ih h.tail;have h2:=h.head;have h3:BB*val l+BB <= BB*BB^l.length:=by rw[<- Nat.mul_succ];exact Nat.mul_le_mul_left _ h1
  simp only[val,List.length_cons,Nat.pow_succ,Nat.mul_comm (BB^l.length) BB];simp only[BB_eq] at h3 ⊢;omega
theorem val_take_succ(l:List Nat)(k:Nat):val (l.take (k+1))=val (l.take k)+BB^k*dg l k:=by
 induction l generalizing k with
 | nil=>simp[val,dg_nil]
 | cons d l ih=>
  cases k with
  | zero=>simp[val,dg_zero]
  | succ k=>simp only[List.take_succ_cons,val,ih,dg_succ,Nat.pow_succ];rw[Nat.mul_add,Nat.mul_comm (BB^k) BB,Nat.mul_assoc];omega
theorem val_take_of_le{l:List Nat}{k:Nat}(h:l.length <= k):val (l.take k)=val l:=by rw[List.take_of_length_le h]
theorem val_inj{l m:List Nat}(hl:Dig l)(hm:Dig m)(hn:l.length=m.length)(h:val l=val m):l=m:=by
 induction l generalizing m with
 | nil=>cases m with
  | nil=>rfl
  | cons _ _=>simp at hn
 | cons d l ih=>cases m with
  | nil=>simp at hn
  | cons e m=>
   have h1:=hl.head;have h2:=hm.head;simp only[val,BB_eq] at h;have hde:d=e:=by omega
   have:val l=val m:=by omega
   rw[hde,ih hl.tail hm.tail (by simpa using hn) this]
def Can(l:List Nat):Prop:=Dig l /\ (0<l.length -> dg l (l.length-1)≠0)
theorem div_BB_lt{n:Nat}(h:0<n):n / BB<n:=Nat.div_lt_self h (by decide)
def digs(n:Nat):List Nat:=if _h:n=0 then [] else n%BB::digs (n / BB)
termination_by n
decreasing_by exact div_BB_lt (by omega)
theorem digs_zero:digs 0= []:=by unfold digs;simp
theorem digs_pos{n:Nat}(h:0<n):digs n=n%BB::digs (n / BB):=by rw[digs,dif_neg (by omega)]
theorem val_digs(n:Nat):val (digs n)=n:=by
 induction n using Nat.strongRecOn with
 | _ n ih=>
  by_cases h:n=0
  ·subst h;rw[digs_zero];rfl
  ·rw[digs_pos (by omega),val,ih _ (div_BB_lt (by omega))];exact Nat.mod_add_div n BB
theorem dig_digs(n:Nat):Dig (digs n):=by
 induction n using Nat.strongRecOn with
 | _ n ih=>
  by_cases h:n=0
  ·subst h;rw[digs_zero];exact Dig.nil
  ·rw[digs_pos (by omega)];exact Dig.cons (Nat.mod_lt _ (by decide)) (ih _ (div_BB_lt (by omega)))
theorem can_digs(n:Nat):Can (digs n):=by
 refine⟨dig_digs n,?_⟩
 induction n using Nat.strongRecOn with
 | _ n ih=>
  by_cases h:n=0
  ·subst h;rw[digs_zero];intro h;simp at h
  ·rw[digs_pos (by omega)];intro _;by_cases h2:n / BB=0
   ·rw[h2,digs_zero];simp only[List.length_cons,List.length_nil,Nat.zero_add,Nat.sub_self,dg_zero];have:=Nat.mod_add_div n BB;rw[h2] at this;simp only[Nat.mul_zero,Nat.add_zero] at this;omega
   ·have h4:0<(digs (n / BB)).length:=by rw[digs_pos (Nat.pos_of_ne_zero h2)];simp
    have h3:=ih _ (div_BB_lt (by omega)) h4;obtain⟨m,hm⟩:∃m,(digs (n / BB)).length=m+1:=⟨(digs (n / BB)).length-1,by omega⟩
    rw[hm] at h3;simp only[List.length_cons,hm,Nat.add_sub_cancel,dg_succ] at h3 ⊢;exact h3
theorem can_tail{d:Nat}{l:List Nat}(h:Can (d::l)):Can l:=by
 refine⟨h.1.tail,fun hl=> ?_⟩;have:=h.2 (by simp);obtain⟨m,hm⟩:∃m,l.length=m+1:=⟨l.length-1,by omega⟩
 simp only[List.length_cons,hm,Nat.add_sub_cancel,dg_succ] at this ⊢;exact this
theorem can_val_pos{l:List Nat}(h:Can l)(hl:0<l.length):BB^ (l.length-1) <= val l:=by
 induction l with
 | nil=>simp at hl
 | cons d l ih=>
  cases l with
  | nil=>
   have:=h.2 (by simp);simp only[List.length_cons,List.length_nil,Nat.zero_add,Nat.sub_self,dg_zero] at this;simp[val];omega
  | cons e l=>
   have:=ih (can_tail h) (by simp);simp only[List.length_cons,Nat.add_sub_cancel] at this ⊢;rw[val,Nat.pow_succ,Nat.mul_comm];have h2:BB*BB^l.length <= BB*val (e::l):=Nat.mul_le_mul_left _ this;omega
theorem can_len_le{l m:List Nat}(hl:Can l)(hm:Dig m)(h:val l <= val m):l.length <= m.length:=by
 rcases Nat.lt_or_ge m.length l.length with h1 | h1
 ·have h2:=can_val_pos hl (by omega);have h3:=val_lt hm;have h4:BB^m.length <= BB^ (l.length-1):=Nat.pow_le_pow_right (by decide) (by omega);omega
 ·exact h1
theorem can_unique{l m:List Nat}(hl:Can l)(hm:Can m)(h:val l=val m):l=m:=
 val_inj hl.1 hm.1 (Nat.le_antisymm (can_len_le hl hm.1 (by omega)) (can_len_le hm hl.1 (by omega))) h
theorem can_eq_digs{l:List Nat}(h:Can l):l=digs (val l):=can_unique h (can_digs _) (by rw[val_digs])
theorem digs_len_le{n k:Nat}(h:n<BB^k):(digs n).length <= k:=by
 rcases Nat.lt_or_ge k (digs n).length with h1 | h1
 ·have h2:=can_val_pos (can_digs n) (by omega);rw[val_digs] at h2;have h4:BB^k <= BB^ ((digs n).length-1):=Nat.pow_le_pow_right (by decide) (by omega);omega
 ·exact h1
theorem lt_pow_digs(n:Nat):n<BB^ (digs n).length:=by have:=val_lt (dig_digs n);rwa [val_digs] at this
theorem digs_len_mono{n m:Nat}(h:n <= m):(digs n).length <= (digs m).length:=digs_len_le (Nat.lt_of_le_of_lt h (lt_pow_digs m))
theorem digs_len_pos{n:Nat}:0<(digs n).length↔0<n:=by
 constructor
 ·intro h
  rcases Nat.eq_zero_or_pos n with h0 | h0
  ·subst h0;rw[digs_zero] at h;simp at h
  ·exact h0
 ·intro h;rw[digs_pos h];simp
theorem digs_len_zero{n:Nat}:(digs n).length=0↔n=0:=by
 have:= @digs_len_pos n;omega
theorem take_can{l:List Nat}{k:Nat}(hd:Dig l)(hk:k <= l.length)(hz:∀j,k <= j -> j<l.length -> dg l j=0)(hn:0<k -> dg l (k-1)≠0):l.take k=digs (val l):=by
 have hlen:(l.take k).length=k:=by rw[List.length_take];omega
 have hc:Can (l.take k):=by
  refine⟨hd.take k,fun h=> ?_⟩;rw[hlen] at h ⊢;rw[dg_take,if_pos (by omega)];exact hn h
 have hv:val (l.take k)=val l:=by
  have h1:∀i,k <= i -> val (l.take i)=val (l.take k):=by
   intro i hi
   induction i with
   | zero=>
    have:k=0:=by omega
    subst this;rfl
   | succ i ih=>
    by_cases h:k <= i
    ·rw[val_take_succ,ih h];by_cases h2:i<l.length
     ·rw[hz i h h2];simp
     ·rw[dg_ge (by omega)];simp
    ·have:k=i+1:=by omega
     subst this;rfl
  have:=h1 l.length hk
  rwa [List.take_of_length_le (Nat.le_refl _),eq_comm] at this
 rw[<- hv];exact can_eq_digs hc
theorem digs_val_take{l:List Nat}(hd:Dig l):(digs (val l)).length <= l.length /\ l.take (digs (val l)).length=digs (val l):=by
 have h1:(digs (val l)).length <= l.length:=digs_len_le (val_lt hd);refine⟨h1,?_⟩;have hv:=val_digs (val l)
 have ht:val l=val (l.take (digs (val l)).length)+BB^ (digs (val l)).length*val (l.drop (digs (val l)).length):=by
  have:=val_append (l.take (digs (val l)).length) (l.drop (digs (val l)).length);rw[List.take_append_drop,List.length_take,Nat.min_eq_left h1] at this;exact this
 have hlt:=lt_pow_digs (val l)
 have hz:val (l.drop (digs (val l)).length)=0:=by
  rcases Nat.eq_zero_or_pos (val (l.drop (digs (val l)).length)) with h0 | h0
  ·exact h0
  ·have:=Nat.mul_le_mul_left (BB^ (digs (val l)).length) h0;omega
 rw[hz,Nat.mul_zero,Nat.add_zero] at ht;exact val_inj (hd.take _) (dig_digs _) (by rw[List.length_take];omega) (by rw[hv];exact ht.symm)
theorem val_set_take(l:List Nat)(k x:Nat)(hk:k<l.length):val ((l.set k x).take (k+1))=val (l.take k)+BB^k*x:=by
 rw[val_take_succ,dg_set,if_pos ⟨rfl,hk⟩];congr 2;apply List.ext_getElem?;intro j;rw[List.getElem?_take,List.getElem?_take,List.getElem?_set];split
 ·rw[if_neg (by omega)]
 ·rfl
theorem pow_split(P s:Nat):P* (s%10)+P*BB* (s / 10)=P*s:=by
 rw[Nat.mul_assoc, <- Nat.mul_add,BB_eq,Nat.mod_add_div]
theorem plus_step{lo lx ly:List Nat}{k c s:Nat}(hk:k<lo.length)(h:val (lo.take k)+BB^k*c=val (lx.take k)+val (ly.take k))(hs:s=c+dg lx k+dg ly k):
  val ((lo.set k (s%10)).take (k+1))+BB^ (k+1)* (s / 10)=val (lx.take (k+1))+val (ly.take (k+1)):=by
 rw[val_set_take _ _ _ hk,val_take_succ,val_take_succ,Nat.pow_succ];have:=pow_split (BB^k) s;have e:BB^k*s=BB^k*c+BB^k*dg lx k+BB^k*dg ly k:=by rw[hs,Nat.mul_add,Nat.mul_add]
 omega
theorem minus_step{lo la lb:List Nat}{k c c' x:Nat}(hk:k<lo.length)(h:val (la.take k)+BB^k*c=val (lo.take k)+val (lb.take k))(hs:dg la k+10*c'=x+c+dg lb k):
  val (la.take (k+1))+BB^ (k+1)*c'=val ((lo.set k x).take (k+1))+val (lb.take (k+1)):=by
 rw[val_set_take _ _ _ hk,val_take_succ,val_take_succ,Nat.pow_succ];have e:BB^k* (dg la k+10*c')=BB^k* (x+c+dg lb k):=by rw[hs]
 rw[Nat.mul_add,Nat.mul_add,Nat.mul_add, <- Nat.mul_assoc] at e;simp only[<- BB_eq] at e;omega
theorem minus_end{lo la lb:List Nat}{c:Nat}(hlo:Dig lo)(hle:val lb <= val la)(hc:c <= 1)(h:val la+BB^lo.length*c=val lo+val lb):val lo=val la-val lb:=by
 have h1:=val_lt hlo
 rcases(show c=0 \/ c=1 by omega) with rfl | rfl <;> omega
theorem scale_step{lo l:List Nat}{k c b p s:Nat}(hk:k<lo.length)(h:val (lo.take k)+BB^k*c=b*val (l.take k)+p)(hs:s=c+dg l k*b):
  val ((lo.set k (s%10)).take (k+1))+BB^ (k+1)* (s / 10)=b*val (l.take (k+1))+p:=by
 rw[val_set_take _ _ _ hk,val_take_succ,Nat.pow_succ];have:=pow_split (BB^k) s;have e:BB^k*s=BB^k*c+b* (BB^k*dg l k):=by rw[hs,Nat.mul_add,Nat.mul_comm (dg l k) b,Nat.mul_left_comm]
 rw[Nat.mul_add];omega
theorem val_drop(l:List Nat)(k:Nat)(hk:k<l.length):val (l.drop k)=dg l k+BB*val (l.drop (k+1)):=by
 rw[List.drop_eq_getElem_cons hk,val,dg_lt hk]
theorem val_drop_set(l:List Nat)(k x:Nat)(hk:k<l.length):val ((l.set k x).drop k)=x+BB*val (l.drop (k+1)):=by
 rw[val_drop _ _ (by rw[List.length_set];exact hk),dg_set,if_pos ⟨rfl,hk⟩];congr 3;rw[List.drop_set];simp
def ordN(a b:Nat):Int:=if a<b then -1 else if a=b then 0 else 1
theorem val_lt_of_len{l m:List Nat}(hl:Dig l)(hm:Can m)(h:l.length<m.length):val l<val m:=by
 rcases Nat.lt_or_ge (val l) (val m) with h1 | h1
 ·exact h1
 ·have:=can_len_le hm hl h1;omega
theorem val_eq_of_dg{l m:List Nat}(hl:l.length=m.length)(h:∀j,j<l.length -> dg l j=dg m j):val l=val m:=by rw[ext_dg hl h]
theorem val_lt_of_dg{l m:List Nat}{k:Nat}(hdl:Dig l)(hlen:l.length=m.length)(hk:k<l.length)(h:∀j,k<j -> j<l.length -> dg l j=dg m j)(hlt:dg l k<dg m k):val l<val m:=by
 have hd:l.drop (k+1)=m.drop (k+1):=by
  apply ext_dg
  ·rw[List.length_drop,List.length_drop,hlen]
  ·intro j hj;rw[List.length_drop] at hj;have:=h (k+1+j) (by omega) (by omega);unfold dg at this ⊢
   simpa [List.getD_eq_getElem?_getD,List.getElem?_drop] using this
 have e1:val l=val (l.take k)+BB^k*val (l.drop k):=by
  have:=val_append (l.take k) (l.drop k)
  rwa [List.take_append_drop,List.length_take,Nat.min_eq_left (by omega)] at this
 have e2:val m=val (m.take k)+BB^k*val (m.drop k):=by
  have:=val_append (m.take k) (m.drop k)
  rwa [List.take_append_drop,List.length_take,Nat.min_eq_left (by omega)] at this
 have e3:val (l.drop k)+1 <= val (m.drop k):=by
  rw[val_drop l _ hk,val_drop m _ (by omega),hd];omega
 have e4:=val_lt (hdl.take k);rw[List.length_take,Nat.min_eq_left (by omega)] at e4;have e5:BB^k* (val (l.drop k)+1) <= BB^k*val (m.drop k):=Nat.mul_le_mul_left _ e3;rw[Nat.mul_add] at e5;omega
theorem val_set(l:List Nat)(i x:Nat)(hi:i<l.length):val (l.set i x)+BB^i*dg l i=val l+BB^i*x:=by
 have e1:val (l.set i x)=val (l.take i)+BB^i*val ((l.set i x).drop i):=by
  have:=val_append ((l.set i x).take i) ((l.set i x).drop i);rw[List.take_append_drop,List.length_take,List.length_set,Nat.min_eq_left (by omega)] at this;rw[this,List.take_set,List.set_eq_of_length_le];rw[List.length_take];omega
 have e2:val l=val (l.take i)+BB^i*val (l.drop i):=by
  have:=val_append (l.take i) (l.drop i)
  rwa [List.take_append_drop,List.length_take,Nat.min_eq_left (by omega)] at this
 rw[e1,e2,val_drop_set _ _ _ hi,val_drop _ _ hi,Nat.mul_add,Nat.mul_add];omega
theorem mul_step{lo lb:List Nat}{i j c x s V:Nat}(hi:i+j<lo.length)(h:val lo+BB^ (i+j)*c=V+BB^i* (x*val (lb.take j)))(hs:s=c+ (x*dg lb j+dg lo (i+j))):
  val (lo.set (i+j) (s%10))+BB^ (i+ (j+1))* (s / 10)=V+BB^i* (x*val (lb.take (j+1))):=by
 have h1:=val_set lo (i+j) (s%10) hi;have h2:=pow_split (BB^ (i+j)) s
 have e:BB^ (i+j)*s=BB^ (i+j)*c+ (BB^i* (x* (BB^j*dg lb j))+BB^ (i+j)*dg lo (i+j)):=by
  rw[hs,Nat.mul_add,Nat.mul_add,Nat.pow_add];congr 2;rw[Nat.mul_assoc,Nat.mul_left_comm (BB^j) x]
 rw[val_take_succ,Nat.mul_add,Nat.mul_add, <- Nat.add_assoc i j 1,Nat.pow_succ];omega
theorem mul_row{lo lb la:List Nat}{i c V:Nat}(hi:i+lb.length<lo.length)(hz:dg lo (i+lb.length)=0)(h:val lo+BB^ (i+lb.length)*c=V+BB^i* (dg la i*val (lb.take lb.length)))(hV:V=val (la.take i)*val lb):
  val (lo.set (i+lb.length) c)=val (la.take (i+1))*val lb:=by
 have h1:=val_set lo (i+lb.length) c hi;rw[hz,Nat.mul_zero,Nat.add_zero] at h1;rw[h1,h,hV,val_take_of_le (Nat.le_refl _),val_take_succ,Nat.add_mul,Nat.mul_assoc]
end T
section
open Go.Lib
def txt(a:Int):ByteArray:=⟨(itoa a).toArray⟩
theorem txt_list(a:Int):(txt a).data.toList=itoa a:=by simp[txt]
def chr(d:Nat):UInt8:=UInt8.ofNat (48+d)
theorem chr_toNat{d:Nat}(h:d<10):(chr d).toNat=48+d:=by unfold chr;simp;omega
theorem decDigits_zero:decDigits 0= [48]:=by rw[decDigits_one (by omega)];rfl
theorem dec_digs(n:Nat):0<n -> decDigits n=(T.digs n).reverse.map chr:=by
 induction n using Nat.strongRecOn with
 | _ n ih=>
  intro h;rw[T.digs_pos h];by_cases h10:n<10
  ·rw[decDigits_one h10];have e1:n / T.BB=0:=by rw[T.BB_eq];omega
   have e2:n%T.BB=n:=by rw[T.BB_eq];omega
   rw[e1,e2,T.digs_zero];rfl
  ·rw[decDigits,dif_neg h10];have e1:n / T.BB=n / 10:=by rw[T.BB_eq]
   have e2:n%T.BB=n%10:=by rw[T.BB_eq]
   rw[e1,e2,ih (n / 10) (by omega) (by omega)];simp[chr]
theorem dec_length{n:Nat}(h:0<n):(decDigits n).length=(T.digs n).length:=by rw[dec_digs n h];simp
theorem dec_pos(n:Nat):0<(decDigits n).length:=by
 rw[decDigits];split <;> simp
theorem digsT_le(n:Nat):(T.digs n).length <= (decDigits n).length:=by
 rcases Nat.eq_zero_or_pos n with h | h
 ·subst h;rw[T.digs_zero];simp
 ·rw[dec_length h];exact Nat.le_refl _
def isDg(c:UInt8):Bool:=decide (48 <= c.toNat) && decide (c.toNat <= 57)
theorem isDg_iff{c:UInt8}:isDg c=true↔48 <= c.toNat /\ c.toNat <= 57:=by unfold isDg;simp
theorem isDg_chr{d:Nat}(h:d<10):isDg (chr d)=true:=by rw[isDg_iff,chr_toNat h];omega
theorem dec_isDg(n:Nat):∀c ∈ decDigits n,isDg c=true:=by
 rcases Nat.eq_zero_or_pos n with h | h
 ·subst h;rw[decDigits_zero];intro c hc;simp at hc;subst hc;rfl
 ·rw[dec_digs n h];intro c hc;rw[List.mem_map] at hc;obtain⟨d,hd,rfl⟩:=hc;rw[List.mem_reverse] at hd;obtain⟨i,hi,rfl⟩:=List.getElem_of_mem hd;have:=T.dig_digs n i;rw[dg_lt hi] at this;exact isDg_chr this
def dv(l:List UInt8):Nat:=l.foldl (fun a c=>10*a+ (c.toNat-48)) 0
theorem dv_snoc(l:List UInt8)(c:UInt8):dv (l++ [c])=10*dv l+ (c.toNat-48):=by unfold dv;rw[List.foldl_append];rfl
theorem dv_foldl(l:List UInt8):∀a,l.foldl (fun a c=>10*a+ (c.toNat-48)) a=10^l.length*a+dv l:=by
 induction l with
 | nil=>intro a;simp[dv]
 | cons c l ih=>
  intro a;unfold dv;rw[List.foldl_cons,List.foldl_cons,ih,ih (10*0+ (c.toNat-48)),List.length_cons,Nat.pow_succ];rw[Nat.mul_add,Nat.mul_zero,Nat.zero_add, <- Nat.mul_assoc,Nat.add_assoc]
theorem dv_append(l m:List UInt8):dv (l++m)=10^m.length*dv l+dv m:=by
 unfold dv;rw[List.foldl_append,dv_foldl];rfl
theorem dv_lt{l:List UInt8}(h:∀c ∈ l,isDg c=true):dv l<10^l.length:=by
 induction l with
 | nil=>simp[dv]
 | cons c l ih=>
  have h1:=ih (fun x hx=>h x (List.mem_cons_of_mem _ hx));have h2:=isDg_iff.1 (h c (List.mem_cons_self ..));have h3:=dv_append [c] l;have h4:dv [c]=c.toNat-48:=by unfold dv;simp
  rw[List.singleton_append,h4] at h3;rw[h3,List.length_cons,Nat.pow_succ];have h5:10^l.length* (c.toNat-48) <= 10^l.length*9:=Nat.mul_le_mul_left _ (by omega);omega
theorem snoc_induction{P:List UInt8 -> Prop}(h0:P [])(h1:∀l c,P l -> P (l++ [c]))(l:List UInt8):P l:=by
 have:∀m:List UInt8,P m.reverse:=by
  intro m
  induction m with
  | nil=>exact h0
  | cons c m ih=>rw[List.reverse_cons];exact h1 _ _ ih
 have:=this l.reverse
 rwa [List.reverse_reverse] at this
theorem dv_dec(n:Nat):dv (decDigits n)=n:=by
 induction n using Nat.strongRecOn with
 | _ n ih=>
  rw[decDigits];split
  ·unfold dv;simp;omega
  ·rw[dv_snoc,ih _ (by omega)];simp;omega
theorem dec_dv(l:List UInt8):l≠ [] -> (∀c ∈ l,isDg c=true) -> (l.head? =some 48 -> l.length <= 1) -> decDigits (dv l)=l:=by
 induction l using snoc_induction with
 | h0=>intro h;exact absurd rfl h
 | h1 l c ih=>
  intro _ hd hh;have hc:=isDg_iff.1 (hd c (by simp));rw[dv_snoc];by_cases hl:l= []
  ·subst hl;rw[show dv []=0 from rfl,decDigits_one (by omega)];simp only[List.nil_append,List.cons.injEq,and_true];apply UInt8.toNat_inj.1;simp;omega
  ·have hne:0<l.length:=List.length_pos_iff.2 hl;have hh':(l++ [c]).head? = l.head? :=by rw[List.head?_append];cases l with | nil=>exact absurd rfl hl | cons _ _=>rfl
   rw[hh',List.length_append,List.length_singleton] at hh;have hz: l.head? ≠some 48:=fun h=>by have:=hh h;omega
   have hi:=ih hl (fun x hx=>hd x (by simp[hx])) (fun h=>absurd h hz)
   have hp:0<dv l:=by
    rcases Nat.eq_zero_or_pos (dv l) with h0 | h0
    ·rw[h0,decDigits_zero] at hi;rw[<- hi] at hz;exact absurd rfl hz
    ·exact h0
   rw[show 10*dv l+ (c.toNat-48)=dv l*10+ (c.toNat-48) by omega,dec_step _ _ hp (by omega),hi];congr 1;simp only[List.cons.injEq,and_true];apply UInt8.toNat_inj.1;simp;omega
def body(l:List UInt8):List UInt8:=if l.head? =some 45 then l.tail else l
def chk(l:List UInt8):Nat:=
 if body l= [] then 14 else if(body l).all isDg=false then 14 else if(body l).head? =some 48 /\ (1<(body l).length \/ l.head? =some 45) then 3 else 0
theorem chk_ok{l:List UInt8}(h:chk l=0):∃a:Int,l=itoa a /\ body l=decDigits a.natAbs /\ (l.head? =some 45↔a<0):=by
 unfold chk at h;split at h
 ·omega
 rename_i h1;split at h
 ·omega
 rename_i h2;split at h
 ·omega
 rename_i h3
 have h2':∀c ∈ body l,isDg c=true:=by
  have:(body l).all isDg=true:=by simpa using h2
  exact List.all_eq_true.1 this
 have hb:=dec_dv (body l) h1 h2' (fun hh=>by
  rcases Nat.lt_or_ge 1 (body l).length with h4 | h4
  ·exact absurd ⟨hh, .inl h4⟩ h3
  ·exact h4)
 by_cases hs: l.head? =some 45
 ·have hl:l=45::body l:=by
   unfold body;rw[if_pos hs];cases l with
   | nil=>simp at hs
   | cons c l=>simp at hs;rw[hs];rfl
  have hp:0<dv (body l):=by
   rcases Nat.eq_zero_or_pos (dv (body l)) with h0 | h0
   ·rw[h0,decDigits_zero] at hb;exact absurd ⟨by rw[<- hb];rfl, .inr hs⟩ h3
   ·exact h0
  refine⟨-(dv (body l):Int),?_,?_,?_⟩
  ·unfold itoa;rw[if_pos (by omega)];have:(-(dv (body l):Int)).natAbs=dv (body l):=by omega
   rw[this,hb];exact hl
  ·have:(-(dv (body l):Int)).natAbs=dv (body l):=by omega
   rw[this,hb]
  ·exact⟨fun _=>by omega,fun _=>hs⟩
 ·have hl:l=body l:=by unfold body;rw[if_neg hs]
  refine⟨(dv (body l):Int),?_,?_,?_⟩
  ·unfold itoa;rw[if_neg (by omega),Int.toNat_natCast,hb];exact hl
  ·rw[Int.natAbs_natCast,hb]
  ·exact⟨fun h=>absurd h hs,fun h=>by omega⟩
theorem itoa_neg{a:Int}(h:a<0):itoa a=45::decDigits a.natAbs:=by unfold itoa;rw[if_pos h]
theorem itoa_nonneg'{a:Int}(h:¬a<0):itoa a=decDigits a.natAbs:=by unfold itoa;rw[if_neg h,show a.toNat=a.natAbs by omega]
theorem itoa_inj{a b:Int}(h:itoa a=itoa b):a=b:=by
 have key:∀n m:Nat,decDigits n=decDigits m -> n=m:=fun n m h=>by rw[<- dv_dec n,h,dv_dec]
 have no:∀n m:Nat,decDigits n≠45::decDigits m:=fun n m h=>by
  have:=dec_isDg n 45 (by rw[h];simp);simp[isDg] at this
 by_cases ha:a<0 <;> by_cases hb:b<0
 ·rw[itoa_neg ha,itoa_neg hb] at h;have:=key _ _ (List.cons.inj h).2;omega
 ·rw[itoa_neg ha,itoa_nonneg' hb] at h;exact absurd h.symm (no _ _)
 ·rw[itoa_nonneg' ha,itoa_neg hb] at h;exact absurd h (no _ _)
 ·rw[itoa_nonneg' ha,itoa_nonneg' hb] at h;have:=key _ _ h;omega
theorem itoa_zero:itoa 0= [48]:=by rw[itoa_nonneg' (by omega)];exact decDigits_zero
theorem itoa_of(s:Bool)(n:Nat)(h:0<n):itoa (if s then -(n:Int) else n)=(if s then [45] else [])++ (T.digs n).reverse.map chr:=by
 cases s
 ·rw[if_neg (by simp),itoa_nonneg' (by omega),Int.natAbs_natCast,dec_digs n h];rfl
 ·rw[if_pos rfl,itoa_neg (by omega),show(-(n:Int)).natAbs=n by omega,dec_digs n h];rfl
end
section
open Go.Lib
def noDg(r:Nat):Bool:= !(decide (48 <= r) && decide (r <= 57))
theorem decodeN_big(n b0 b1 b2 b3:Nat)(h:128 <= b0):128 <= (decodeN n b0 b1 b2 b3).1:=by
 unfold decodeN
 repeat' split
 all_goals (simp only;omega)
theorem idx_from(s:ByteArray):∀ (f pos:Nat),s.size <= pos+f -> (decide (0 <= idxFuncFrom noDg true s f pos)= !((s.data.toList.drop pos).all isDg)):=by
 have hsl:s.data.toList.length=s.size:=by rw[Array.length_toList];rfl
 intro f
 induction f with
 | zero=>
  intro pos h;rw[List.drop_eq_nil_of_le (by rw[hsl];omega)];rfl
 | succ f ih=>
  intro pos h;unfold idxFuncFrom;by_cases hp:pos<s.size
  ·rw[if_pos hp,List.drop_eq_getElem_cons (by rw[hsl];exact hp),List.all_cons]
   have hg:s.data.toList.getD pos 0=s.data.toList[pos]'(by rw[hsl];exact hp):=by
    rw[List.getD_eq_getElem?_getD,List.getElem?_eq_getElem (by rw[hsl];exact hp)];rfl
   have hdec:=decode_N s pos;rw[hg] at hdec;generalize s.data.toList[pos]'(by rw[hsl];exact hp)=c at hdec ⊢;by_cases hc:isDg c=true
   ·have hc':=isDg_iff.1 hc;rw[decodeN_ascii _ _ _ _ _ (by omega)] at hdec;rw[hdec,if_neg (by unfold noDg;simp;omega),hc,Bool.true_and];exact ih (pos+1) (by omega)
   ·have hc2:isDg c=false:=by simpa using hc
    have hn:noDg (Utf8.decode s pos).1=true:=by
     rw[hdec];by_cases hb:c.toNat<128
     ·rw[decodeN_ascii _ _ _ _ _ hb];unfold noDg;unfold isDg at hc2;rw[hc2];rfl
     ·have:=decodeN_big (s.data.toList.length-pos) c.toNat (s.data.toList.getD (pos+1) 0).toNat (s.data.toList.getD (pos+2) 0).toNat (s.data.toList.getD (pos+3) 0).toNat (by omega)
      revert this
      generalize (decodeN (s.data.toList.length-pos) c.toNat (s.data.toList.getD (pos+1) 0).toNat (s.data.toList.getD (pos+2) 0).toNat (s.data.toList.getD (pos+3) 0).toNat).1=q;intro this;unfold noDg;simp;omega
    rw[if_pos hn,hc2];simp
  ·rw[if_neg hp,List.drop_eq_nil_of_le (by rw[hsl];omega)];rfl
theorem idx_dg(s:ByteArray):decide (0 <= idxFunc noDg true s)= !(s.data.toList.all isDg):=by
 have:=idx_from s s.size 0 (by omega);rw[List.drop_zero] at this;exact this
theorem trim_body(l:List UInt8):trimPrefix l [45]=body l /\ hasPrefix l [45]=decide (l.head? =some 45):=by
 unfold trimPrefix hasPrefix body;cases l with
 | nil=>simp
 | cons c l=>
  by_cases h:c=45
  ·subst h;simp[List.isPrefixOf]
  ·have h':¬(45:UInt8)=c:=fun e=>h e.symm
   simp[List.isPrefixOf,h,h']
theorem parseM_ok(M:Nat):∀ (l:List UInt8) (acc:Nat),(∀c ∈ l,isDg c=true) -> 10^l.length*acc+dv l <= M -> M<1844674407370955162 -> parseUintM M acc l= .ok (10^l.length*acc+dv l):=by
 intro l
 induction l with
 | nil=>intro acc _ _ _;simp[parseUintM,dv]
 | cons c l ih=>
  intro acc hd hle hM;have hc:=isDg_iff.1 (hd c (List.mem_cons_self ..));have h1:=dv_append [c] l;have h2:dv [c]=c.toNat-48:=by unfold dv;simp
  rw[List.singleton_append,h2] at h1;have hpos:1 <= 10^l.length:=Nat.one_le_pow _ _ (by decide)
  have e:10^ (c::l).length*acc+dv (c::l)=10^l.length* (acc*10+ (c.toNat-48))+dv l:=by
   rw[h1,List.length_cons,Nat.pow_succ,Nat.mul_add,Nat.mul_comm acc 10, <- Nat.mul_assoc,Nat.add_assoc]
  rw[e] at hle ⊢;have hb:acc*10+ (c.toNat-48) <= 10^l.length* (acc*10+ (c.toNat-48)):=Nat.le_mul_of_pos_left _ hpos;unfold parseUintM;rw[if_pos hc,if_neg (by omega),if_neg (by omega)];exact ih _ (fun x hx=>hd x (List.mem_cons_of_mem _ hx)) hle hM
theorem parse_ok32{l:List UInt8}(h0:l≠ [])(h9:l.length <= 9)(hd:∀c ∈ l,isDg c=true):parseUintB 32 l= .ok (dv l):=by
 unfold parseUintB;rw[if_neg h0];have h1:=dv_lt hd;have h2:10^l.length <= 10^9:=Nat.pow_le_pow_right (by decide) h9;have:=parseM_ok (2^32-1) l 0 hd (by omega) (by decide);rw[Nat.mul_zero,Nat.zero_add] at this;exact this
end
section
open Go.RowKit
theorem pred_walk(w:World):PredAtRunes Tryz.prog 175 #[] noDg w:=fun W r hr _=>by
 unfold FnGives;by_cases h1:48 <= r <;> by_cases h2:r <= 57
 all_goals
  have z1:(48:Int) <= (r:Int)↔48 <= r:=by omega
  have z2:(r:Int) <= 57↔r <= 57:=by omega
  go_enter Tryz.func175,Tryz.ntmps175
  go_wp2
  all_goals first | (exfalso;omega) | (go_ret;exact⟨by first | (simp[noDg,h1,h2];done) | (simp[noDg,h1,h2];omega),0,rfl⟩)
theorem contains_walk(s:ByteArray)(b:Bool)(hb:s.data.toList.all isDg= !b)(w:World):
  Calls Tryz.prog 174 #[.string s, .func (.func 175) #[] #[]] w fun e w'=>e= .returned (.bool b) /\ Below w.heap.size w w':=by
 have h:=Tryz.strings_ContainsFunc_runes 175 #[] (enters_of Tryz.func175 (by kernel_rfl) rfl) noDg s w (pred_walk w);rw[idx_dg,hb,Bool.not_not] at h;exact h
theorem zero_int(w:World):IsInt w (.agg #[.bool false, .slice none 0 0]) 0:=
 ⟨none,0,by simp[digs_zero],by simp[digs_zero],by unfold maxLen;omega, .inl (by simp[digs_zero])⟩
theorem cut_walk(s:ByteArray)(w:World):
  Calls Tryz.prog 173 #[.string s, .string ⟨#[45]⟩] w fun e w'=>e= .returned (.tuple #[.string ⟨(body s.data.toList).toArray⟩, .bool (decide (s.data.toList.head? =some 45))]) /\ w=w':=by
 refine(Tryz.strings_CutPrefix s ⟨#[45]⟩ w).mono ?_;rintro e w' ⟨rfl,rfl⟩;have:=trim_body s.data.toList;exact⟨by rw[show(⟨#[45]⟩:ByteArray).data.toList= [45] from rfl,this.1,this.2],rfl⟩
theorem not_empty{D:ByteArray}(h:D.data.toList≠ []):¬D.toList= [] /\ D.toList.isEmpty=false:=by
 have:¬D.toList= []:=fun e=>by
  rw[toList_nil_iff_emptyBytes] at e;subst e;exact h rfl
 exact⟨this,by simpa using this⟩
theorem parse_empty(s:ByteArray)(ng:Bool)(w:World)(hs:((s.size:Nat):Int) <= 65536)(hcut:∀w,Calls Tryz.prog 173 #[.string s, .string ⟨#[45]⟩] w fun e w'=>e= .returned (.tuple #[.string ⟨#[]⟩, .bool ng]) /\ w=w'):
  Calls Tryz.prog 148 #[.string s] w fun e w'=>e= .returned (.tuple #[.agg #[.bool false, .slice none 0 0], .int .i64 14]) /\ Below w.heap.size w w':=by
 have HC:=lH hcut;clear hcut;go_enter Tryz.func148,Tryz.ntmps148;go_wp2_with fail
 refine(HC.out _).mono ?_;rintro e w' ⟨rfl,rfl⟩;go_wp2_with fail
 go_returns;exact⟨by simp,by go_grown⟩
theorem parse_nodigit(s D:ByteArray)(ng:Bool)(w:World)(hs:((s.size:Nat):Int) <= 65536)(hcut:∀w,Calls Tryz.prog 173 #[.string s, .string ⟨#[45]⟩] w fun e w'=>e= .returned (.tuple #[.string D, .bool ng]) /\ w=w')
  (hD:D.data.toList≠ []) (hd:D.data.toList.all isDg=false):
  Calls Tryz.prog 148 #[.string s] w fun e w'=>e= .returned (.tuple #[.agg #[.bool false, .slice none 0 0], .int .i64 14]) /\ Below w.heap.size w w':=by
 have HC:=lH hcut;obtain⟨he1,he2⟩:=not_empty hD;have HD:=lH hd;obtain⟨r1,hWs,hWB⟩:=boxes1 w (.cells #[.bool false, .slice none 0 0] 103);obtain⟨W,hW⟩:=eX (w.alloc (.cells #[.bool false, .slice none 0 0] 103));rw[<- hW] at r1 hWs hWB;have r1:Row W w.heap.size 103 [.bool false, .slice none 0 0]:=r1;have R1:=lH r1;have HWB:=lH hWB;have HWS:=lH hWs;clear hcut hD hd r1 hWB hWs;go_enter Tryz.func148,Tryz.ntmps148;go_wp2_with fail
 rw[<- hW];clear hW;refine(HC.out _).mono ?_;rintro e w' ⟨rfl,rfl⟩;go_wp2_with fail
 refine(contains_walk D true HD.out _).mono ?_;rintro e w2 ⟨rfl,hb2⟩;have r2:=R1.out.below hb2 R1.out.lt;have k1:=r2.at_ 0 rfl;have k2:=r2.at_ 1 rfl;have k3:=r2.free 0;have k4:=r2.free 1;have HB2:=lH (HWB.out.trans (hb2.mono HWB.out.size));clear r2 hb2;go_wp2_with fail
 refine bodyPost_ret (v:= .tuple #[.agg #[.bool false, .slice none 0 0], .int .i64 14]) (by simp[results,Tryz.results148,go_sem,k1,k2]) rfl ?_;exact⟨rfl,(HB2.out.setCell (p:=⟨w.heap.size,0,none⟩) (Nat.le_refl _) _).setCell (p:=⟨w.heap.size,1,none⟩) (Nat.le_refl _) _⟩
theorem parse_form(s D:ByteArray)(ng:Bool)(w:World)(hs:((s.size:Nat):Int) <= 65536)(hcut:∀w,Calls Tryz.prog 173 #[.string s, .string ⟨#[45]⟩] w fun e w'=>e= .returned (.tuple #[.string D, .bool ng]) /\ w=w')
  (hD:D.data.toList≠ []) (hd:D.data.toList.all isDg=true) (h0:0<D.size) (h48:D[0].toNat=48) (hf:(1:Int)<((D.size:Nat):Int) \/ (((D.size:Nat):Int) <= 1 /\ ng=true)):
  Calls Tryz.prog 148 #[.string s] w fun e w'=>e= .returned (.tuple #[.agg #[.bool false, .slice none 0 0], .int .i64 3]) /\ Below w.heap.size w w':=by
 have HC:=lH hcut;obtain⟨he1,he2⟩:=not_empty hD;have HD:=lH hd;obtain⟨r1,hWs,hWB⟩:=boxes1 w (.cells #[.bool false, .slice none 0 0] 103);obtain⟨W,hW⟩:=eX (w.alloc (.cells #[.bool false, .slice none 0 0] 103));rw[<- hW] at r1 hWs hWB;have r1:Row W w.heap.size 103 [.bool false, .slice none 0 0]:=r1;have R1:=lH r1;have HWB:=lH hWB;have HWS:=lH hWs;have h0':(0:Int)<((D.size:Nat):Int):=by omega
 clear hcut hD hd r1 hWB hWs
 rcases hf with hf | ⟨hf,rfl⟩
 all_goals
  go_enter Tryz.func148,Tryz.ntmps148;go_wp2_with fail
  rw[<- hW];clear hW;refine(HC.out _).mono ?_;rintro e w' ⟨rfl,rfl⟩;go_wp2_with fail
  refine(contains_walk D false HD.out _).mono ?_;rintro e w2 ⟨rfl,hb2⟩;have r2:=R1.out.below hb2 R1.out.lt;have k1:=r2.at_ 0 rfl;have k2:=r2.at_ 1 rfl;have k3:=r2.free 0;have k4:=r2.free 1;have HB2:=lH (HWB.out.trans (hb2.mono HWB.out.size));clear r2 hb2;go_wp2_with fail
  refine bodyPost_ret (v:= .tuple #[.agg #[.bool false, .slice none 0 0], .int .i64 3]) (by simp[results,Tryz.results148,go_sem,k1,k2]) rfl ?_;exact⟨rfl,(HB2.out.setCell (p:=⟨w.heap.size,0,none⟩) (Nat.le_refl _) _).setCell (p:=⟨w.heap.size,1,none⟩) (Nat.le_refl _) _⟩
theorem extract_list(R:ByteArray)(a b:Nat):(R.extract a b).data.toList=(R.data.toList.take b).drop a:=by
 rw[ByteArray.data_extract];simp[Array.toList_extract,List.drop_take]
set_option maxHeartbeats 1600000 in
theorem parse_good(s D:ByteArray)(ng:Bool)(w:World)(hs:((s.size:Nat):Int) <= 65536)(hcut:∀w,Calls Tryz.prog 173 #[.string s, .string ⟨#[45]⟩] w fun e w'=>e= .returned (.tuple #[.string D, .bool ng]) /\ w=w')
  (hD:D.data.toList≠ []) (hd:D.data.toList.all isDg=true) (h0:0<D.size) (hDs:((D.size:Nat):Int) <= 65536) (hf:((D[0].toNat:Int)==48)=false \/ (D[0].toNat=48 /\ ((D.size:Nat):Int) <= 1 /\ ng=false)):
  Calls Tryz.prog 148 #[.string s] w fun e w'=>∃v,e= .returned (.tuple #[v, .int .i64 0]) /\ IsInt w' v (sgn ng (dv D.data.toList)) /\ Below w.heap.size w w':=by
 have HC:=lH hcut;obtain⟨he1,he2⟩:=not_empty hD;have HD:=lH hd;obtain⟨r1,hWs,hWB⟩:=boxes1 w (.cells #[.bool false, .slice none 0 0] 103);obtain⟨W,hW⟩:=eX (w.alloc (.cells #[.bool false, .slice none 0 0] 103));rw[<- hW] at r1 hWs hWB;have r1:Row W w.heap.size 103 [.bool false, .slice none 0 0]:=r1;have R1:=lH r1;have HWB:=lH hWB;have HWS:=lH hWs;have h0':(0:Int)<((D.size:Nat):Int):=by omega
 have hdl:∀c ∈ D.data.toList,isDg c=true:=List.all_eq_true.1 hd
 have hdvl:D.data.toList.length=D.size:=by rw[Array.length_toList];rfl
 have hdg:(digs (dv D.data.toList)).length <= 65536:=by
  refine Nat.le_trans (digs_len_le (k:=D.size) ?_) (by omega);refine Nat.lt_of_lt_of_le (dv_lt hdl) ?_;rw[hdvl];exact Nat.pow_le_pow_left (by decide) _
 obtain⟨N,hN⟩:=eX (dv D.data.toList);rw[<- hN] at hdg ⊢;have HDL:=lH hdl;have HN:=lH hN;have HDG:=lH hdg;have HDVL:=lH hdvl;clear hcut hD hd r1 hWB hWs hdl hN hdg hdvl
 rcases hf with hf | ⟨hf1,hf2,rfl⟩
 all_goals
  go_enter Tryz.func148,Tryz.ntmps148;go_wp2_with fail
  rw[<- hW];clear hW;refine(HC.out _).mono ?_;rintro e w' ⟨rfl,rfl⟩;go_wp2_with fail
  refine(contains_walk D false HD.out _).mono ?_;rintro e w2 ⟨rfl,hb2⟩;have R2:=lH (R1.out.below hb2 R1.out.lt);have HB2:=lH (HWB.out.trans (hb2.mono HWB.out.size));clear hb2;go_wp2_with fail
  first
   | clear hf
   | clear hf1 hf2
  clear h0' he1 he2 hs
  go_loopg [4,6] D.size (fun g dvv mv wr=>∃ (R:ByteArray) (n:Nat),dvv= .string R /\ Hid (g=R.size) /\ Hid (IsMag wr mv n) /\ Hid (∀c ∈ R.data.toList,isDg c=true) /\ Hid (N=10^R.size*n+dv R.data.toList) /\ ((R.size:Nat):Int) <= 65536 /\ Hid (Row wr w.heap.size 103 [.bool false, .slice none 0 0]) /\ Hid (Below w.heap.size w wr))
  case atStart=>exact⟨D,0,rfl,lH rfl,lH ⟨none,0,by simp[digs_zero],by simp[digs_zero],by unfold maxLen;omega, .inl (by simp[digs_zero])⟩,HDL,lH (by rw[HN.out];simp),by assumption,R2,HB2⟩
  case round=>
   obtain⟨R,n,rfl,hg,hmag,hRd,hNr,hRs,hrow,hbw⟩:=hrel;by_cases hz:(0:Int)<((R.size:Nat):Int)
   ·obtain⟨q,hq⟩:∃q:Nat,(((R.size:Nat):Int)-1)%9=(q:Nat):=⟨(R.size-1)%9,by omega⟩
    have hq8:((q:Nat):Int) <= 8:=by omega
    have hqR:((q:Nat):Int)+1 <= ((R.size:Nat):Int):=by omega
    have HRD:=lH (show True from trivial);go_wp2_with fail
    go_loop [8,48] (fun byv iv=>∃k p:Nat,((k:Nat):Int) <= (q:Nat)+1 /\ iv= .int .i64 k /\ byv= .int .u32 (p:Nat) /\ Hid (p=10^k)) (fun _ iv=>q+1-(intOf iv).toNat)
    case atStart=>exact⟨0,1,by omega,rfl,rfl,lH rfl⟩
    case round=>
     obtain⟨k,p,hk,rfl,rfl,hp⟩:=hrel;by_cases hkq:((k:Nat):Int)<((q:Nat):Int)+1
     ·have hp8:p <= 100000000:=by
       rw[hp.out];exact Nat.le_trans (Nat.pow_le_pow_right (by decide) (show k <= 8 by omega)) (by decide)
      have hp9:((p:Nat):Int)*10 <= 4294967295:=by omega
      go_wp2_with fail
      go_round
      case rel=>exact⟨k+1,p*10,by omega,by go_num,by go_num,lH (by rw[hp.out,Nat.pow_succ])⟩
      case measure=>simp[intOf];omega
     ·have hkq':k=q+1:=by omega
      have hp':p=10^ (q+1):=by rw[hp.out,hkq']
      have hp9:p <= 1000000000:=by
       rw[hp'];exact Nat.le_trans (Nat.pow_le_pow_right (by decide) (show q+1 <= 9 by omega)) (by decide)
      have HP:=lH hp';clear hp' hp;subst hkq';go_wp2_with fail
      have hex:=extract_list R 0 (q+1);rw[List.drop_zero] at hex;have hrl:R.data.toList.length=R.size:=by rw[Array.length_toList];rfl
      have htd:∀c ∈ R.data.toList.take (q+1),isDg c=true:=fun c hc=>hRd.out c (List.mem_of_mem_take hc)
      have htl:(R.data.toList.take (q+1)).length=q+1:=by rw[List.length_take,hrl];omega
      obtain⟨d,hd⟩:=eX (dv (R.data.toList.take (q+1)));have hdlt:d<10^ (q+1):=by have:=dv_lt htd;rw[htl] at this;rw[hd];exact this
      rw[<- HP.out] at hdlt;have hpu:=Tryz.strconv_ParseUint_10_at32_ok (R.extract 0 (q+1)) (by rw[ByteArray.size_extract];omega) d (by rw[hex,hd];exact parse_ok32 (by intro e;rw[e] at htl;simp at htl) (by rw[htl];omega) htd) wr;have hd32:((d:Nat):Int)<4294967296:=by omega
      have HDD:=lH hd;have HEX:=lH hex;have HRL:=lH hrl;have HTL:=lH htl;clear hd hex hrl htd htl hdlt;refine hpu.mono ?_;clear hpu;rintro e w3 ⟨rfl,hw3⟩
      have hb3:Below wr.heap.size wr w3:=by
       rcases hw3 with rfl | rfl
       ·exact Below.refl _ _
       ·exact Lib.bytesWorld_below _ _ _
      have HB3:=lH hb3;clear hw3 hb3;obtain⟨A',c',hv,hm1,hm2,hm3⟩:=hmag.out;subst hv
      have hnN:n <= N:=by
       rw[hNr.out];exact Nat.le_trans (Nat.le_mul_of_pos_left _ (Nat.pow_pos (by decide))) (Nat.le_add_right _ _)
      have hln:(digs n).length<17592186044416:=by have:=digs_len_mono hnN;have:=HDG.out;omega
      have HM3:=lH hm3;have HLN:=lH hln;have HP9:=lH hp9;clear hm3 hnN hln hp9;go_wp2_with fail
      refine(scale_walk A' c' p d (digs n) w3 (by exact U32.below HM3.out HB3.out) (dig_digs n) HLN.out (by have:=HP9.out;omega) (by omega)).mono ?_;rintro e w4 ⟨v4,rfl,hi4,hb4⟩;rw[val_digs] at hi4;have HI4:=lH hi4;have HB4:=lH hb4;clear hi4 hb4;go_wp2_with fail
      have hex2:=extract_list R (q+1) R.size;rw[List.take_of_length_le (by rw[HRL.out];exact Nat.le_refl _)] at hex2;have hsz2:(R.extract (q+1) R.size).size=R.size-(q+1):=by rw[ByteArray.size_extract];omega
      have hb5:Below wr.heap.size wr w4:=HB3.out.trans (HB4.out.mono HB3.out.size)
      go_roundg ((R.extract (q+1) R.size).size)
      case measure=>rw[hg.out,hsz2];omega
      case rel=>
       refine⟨_,p*n+d,rfl,lH rfl,HI4,lH ?_,lH ?_,?_,lH (hrow.out.below hb5 hrow.out.lt),lH (hbw.out.trans (hb5.mono hbw.out.size))⟩
       ·intro c hc;rw[hex2] at hc;exact hRd.out c (List.mem_of_mem_drop hc)
       ·rw[hNr.out,hsz2,hex2,HDD.out,HP.out];have h1:=dv_append (R.data.toList.take (q+1)) (R.data.toList.drop (q+1));rw[List.take_append_drop,List.length_drop,HRL.out] at h1;rw[h1,Nat.mul_add, <- Nat.mul_assoc, <- Nat.pow_add,show R.size-(q+1)+ (q+1)=R.size by omega,Nat.add_assoc]
       ·rw[hsz2];omega
   ·have hR0:R.data.toList= []:=by
     apply List.eq_nil_of_length_eq_zero;rw[Array.length_toList];show R.size=0;omega
    have hR1:R.size=0:=by omega
    have hNn:N=n:=by
     have:=hNr.out;rw[hR0,hR1] at this;rw[this,Nat.pow_zero,Nat.one_mul];rfl
    have hd0:decide (0<R.size)=false:=decide_eq_false (by omega);have HNN:=lH hNn;clear hR0 hR1 hNn;go_wp2_with fail
    refine(signed_walk _ _ (digs n) _ hmag.out.isU32).mono ?_;rintro e w3 ⟨v3,rfl,hi3,hb3⟩;rw[val_digs] at hi3;obtain⟨s3,A3,l3,c3,rfl⟩:=hi3.shape;have r3:=hrow.out.below hb3 hrow.out.lt;have k1:=r3.at_ 0 rfl;have k2:=r3.at_ 1 rfl;have k3:=r3.free 0;have k4:=r3.free 1;have hres:=res_store hbw.out r3 (by simp) (by simp) (Nat.le_refl _) hb3 hi3;have HRES:=lH hres;clear r3 hi3 hb3 hres;go_wp2_with fail
    refine bodyPost_ret (v:= .tuple #[.agg #[.bool s3, .slice A3 l3 c3], .int .i64 0]) (by simp[results,Tryz.results148,go_sem,k1,k2]) rfl ?_;rw[HNN.out];exact⟨_,rfl,HRES.out.1,HRES.out.2⟩
end
section
open Go.RowKit
theorem parse_err(s:ByteArray)(w:World)(hs:s.size <= 65536)(hc:chk s.data.toList≠0):
  Calls Tryz.prog 148 #[.string s] w fun e w'=>∃v,e= .returned (.tuple #[v, .int .i64 (chk s.data.toList:Nat)]) /\ IsInt w' v 0 /\ Below w.heap.size w w':=by
 obtain⟨l,hl⟩:=eX (s.data.toList);have hcut:=cut_walk s;rw[<- hl] at hc hcut ⊢;have hsz:((s.size:Nat):Int) <= 65536:=by omega
 have fin:∀ (k:Nat),Calls Tryz.prog 148 #[.string s] w (fun e w'=>e= .returned (.tuple #[.agg #[.bool false, .slice none 0 0], .int .i64 (k:Nat)]) /\ Below w.heap.size w w') -> chk l=k ->
   Calls Tryz.prog 148 #[.string s] w fun e w'=>∃v,e= .returned (.tuple #[v, .int .i64 (chk l:Nat)]) /\ IsInt w' v 0 /\ Below w.heap.size w w':=by
  intro k h hk;refine h.mono ?_;rintro e w' ⟨rfl,hb⟩;exact⟨_,by rw[hk],zero_int _,hb⟩
 have hDl:(⟨(body l).toArray⟩:ByteArray).data.toList=body l:=by simp
 unfold chk at hc;split at hc
 ·rename_i h1;rw[h1] at hcut;exact fin 14 (parse_empty s _ w hsz hcut) (by unfold chk;rw[if_pos h1])
 rename_i h1;split at hc
 ·rename_i h2;exact fin 14 (parse_nodigit s ⟨(body l).toArray⟩ _ w hsz hcut (by rw[hDl];exact h1) (by rw[hDl];exact h2)) (by unfold chk;rw[if_neg h1,if_pos h2])
 rename_i h2;split at hc
 ·rename_i h3
  have h0:0<(⟨(body l).toArray⟩:ByteArray).size:=by
   show 0<(body l).toArray.size;rw[List.size_toArray];exact List.length_pos_iff.2 h1
  have hsize:(⟨(body l).toArray⟩:ByteArray).size=(body l).length:=by
   show(body l).toArray.size=_;rw[List.size_toArray]
  refine fin 3 (parse_form s ⟨(body l).toArray⟩ _ w hsz hcut (by rw[hDl];exact h1) (by rw[hDl];simpa using h2) h0 ?_ ?_) (by unfold chk;rw[if_neg h1,if_neg h2,if_pos h3])
  ·have h4:=h3.1;have h5:0<(body l).length:=by omega
   have e:(⟨(body l).toArray⟩:ByteArray)[0]=(body l)[0]:=by
    show(body l).toArray[0]'_=_;simp
   rw[e];rw[List.head?_eq_getElem?,List.getElem?_eq_getElem h5] at h4;simp only[Option.some.injEq] at h4;rw[h4];rfl
  ·rw[hsize]
   rcases Nat.lt_or_ge 1 (body l).length with h6 | h6
   ·left;omega
   ·right
    refine⟨by omega,?_⟩
    rcases h3.2 with h7 | h7
    ·omega
    ·exact decide_eq_true h7
 ·exact absurd rfl hc
theorem parse_ok(s:ByteArray)(a:Int)(w:World)(hs:s.size <= 65536)(ha:s=txt a)(hc:chk s.data.toList=0):
  Calls Tryz.prog 148 #[.string s] w fun e w'=>∃v,e= .returned (.tuple #[v, .int .i64 0]) /\ IsInt w' v a /\ Below w.heap.size w w':=by
 obtain⟨l,hl⟩:=eX (s.data.toList);have hcut:=cut_walk s;have hll:l.length=s.size:=by rw[hl,Array.length_toList];rfl
 rw[<- hl] at hc hcut;obtain⟨a',h1,h2,h3⟩:=chk_ok hc
 obtain rfl:a'=a:=by
  apply itoa_inj;rw[<- h1,hl,ha,txt_list]
 have hDl:(⟨(body l).toArray⟩:ByteArray).data.toList=body l:=by simp
 have hne:body l≠ []:=by
  intro e;have:=dec_pos a'.natAbs;rw[<- h2,e] at this;simp at this
 have hall:(body l).all isDg=true:=by
  rw[h2];exact List.all_eq_true.2 (dec_isDg _)
 have h0:0<(⟨(body l).toArray⟩:ByteArray).size:=by
  show 0<(body l).toArray.size;rw[List.size_toArray];exact List.length_pos_iff.2 hne
 have hsize:(⟨(body l).toArray⟩:ByteArray).size=(body l).length:=by
  show(body l).toArray.size=_;rw[List.size_toArray]
 have hble:(body l).length <= s.size:=by
  rw[<- hll];unfold body;split
  ·rw[List.length_tail];omega
  ·exact Nat.le_refl _
 have e:(⟨(body l).toArray⟩:ByteArray)[0]=(body l)[0]'(List.length_pos_iff.2 hne):=by
  show(body l).toArray[0]'_=_;simp
 have hg:=parse_good s ⟨(body l).toArray⟩ _ w (by omega) hcut (by rw[hDl];exact hne) (by rw[hDl];exact hall) h0 (by rw[hsize];omega) (by
  rw[e];have h5:(body l).head? =some ((body l)[0]'(List.length_pos_iff.2 hne)):=by rw[List.head?_eq_getElem?,List.getElem?_eq_getElem]
  by_cases h6:(body l)[0]'(List.length_pos_iff.2 hne)=48
  ·right
   unfold chk at hc;rw[if_neg hne,if_neg (by rw[hall];simp)] at hc
   have h7:¬((body l).head? =some 48 /\ (1<(body l).length \/ l.head? =some 45)):=by
    intro h8;rw[if_pos h8] at hc;omega
   rw[h5,h6] at h7;refine⟨by rw[h6];rfl,?_,?_⟩
   ·rw[hsize]
    rcases Nat.lt_or_ge 1 (body l).length with h9 | h9
    ·exact absurd ⟨rfl, .inl h9⟩ h7
    ·omega
   ·exact decide_eq_false (fun h9=>h7 ⟨rfl, .inr h9⟩)
  ·left
   rw[beq_eq_false_iff_ne];intro h7;apply h6;apply UInt8.toNat_inj.1;show _=48
   omega)
 refine hg.mono ?_;rintro e w' ⟨v,rfl,hv,hb⟩;refine⟨v,rfl,?_,hb⟩;rw[hDl,h2,dv_dec] at hv
 have:sgn (decide (l.head? =some 45)) a'.natAbs=a':=by
  by_cases hn:a'<0
  ·rw[decide_eq_true (h3.2 hn)];unfold sgn;simp;omega
  ·rw[decide_eq_false (fun h=>hn (h3.1 h))];unfold sgn;simp;omega
 rw[this] at hv;exact hv
end
end Go.Proofs.YtdefghfjhgmpfaaGreatDoor
