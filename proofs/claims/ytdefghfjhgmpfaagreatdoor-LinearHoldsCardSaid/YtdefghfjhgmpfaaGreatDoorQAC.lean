/- Parts of this proof: Math Base Trim Signed Scale. -/
import Derived.Test.YtdefghfjhgmpfaaGreatDoorProg
import Derived.WalkKit
import Derived.WalkLawsBesides
import Derived.WalkSpells
import Derived.Lib.Hide
import Derived.Handy
import Derived.BigQuiet
import Derived.Deep.QuietTactic
import Derived.Deep.RegionHeld3
import Derived.StillTailTactics
import Derived.Deep.RegionWith
import Derived.Deep.DeepCutAuto
import Derived.Deep.CutBlock
import Derived.Laws.OwnMore
namespace Go.Proofs.YtdefghfjhgmpfaaGreatDoor
section
def BB:Nat:=4294967296
theorem BB_eq:BB=4294967296:=rfl
def dg(l:List Nat)(k:Nat):Nat:=l.getD k 0
theorem dg_nil(k:Nat):dg [] k=0:=rfl
theorem dg_zero(d:Nat)(l:List Nat):dg (d::l) 0=d:=rfl
theorem dg_succ(d:Nat)(l:List Nat)(k:Nat):dg (d::l) (k+1)=dg l k:=rfl
theorem dg_ge{l:List Nat}{k:Nat}(h:l.length <= k):dg l k=0:=by
 unfold dg;rw[List.getD_eq_getElem?_getD,List.getElem?_eq_none h];rfl
theorem dg_lt{l:List Nat}{k:Nat}(h:k<l.length):dg l k=l[k]:=by
 unfold dg;rw[List.getD_eq_getElem?_getD,List.getElem?_eq_getElem h];rfl
theorem dg_take(l:List Nat)(n k:Nat):dg (l.take n) k=if k<n then dg l k else 0:=by
 unfold dg;simp only[List.getD_eq_getElem?_getD,List.getElem?_take];split <;> rfl
theorem dg_append(l m:List Nat)(k:Nat):dg (l++m) k=if k<l.length then dg l k else dg m (k-l.length):=by
 unfold dg;simp only[List.getD_eq_getElem?_getD];split
 ·rw[List.getElem?_append_left (by assumption)]
 ·rw[List.getElem?_append_right (by omega)]
theorem dg_set(l:List Nat)(i x k:Nat):dg (l.set i x) k=if i=k /\ k<l.length then x else dg l k:=by
 unfold dg;simp only[List.getD_eq_getElem?_getD,List.getElem?_set];by_cases h:i=k
 ·subst h;by_cases h2:i<l.length
  ·simp[h2]
  ·simp[h2]
 ·simp[h]
theorem dg_replicate(n x k:Nat):dg (List.replicate n x) k=if k<n then x else 0:=by
 unfold dg;simp only[List.getD_eq_getElem?_getD,List.getElem?_replicate];split <;> rfl
theorem ext_dg{l m:List Nat}(hl:l.length=m.length)(h:∀k,k<l.length -> dg l k=dg m k):l=m:=by
 apply List.ext_getElem hl;intro i h1 h2;have:=h i h1
 rwa [dg_lt h1,dg_lt h2] at this
def Dig(l:List Nat):Prop:=∀k,dg l k<4294967296
theorem Dig.nil:Dig []:=fun k=>by rw[dg_nil];omega
theorem Dig.take{l:List Nat}(h:Dig l)(n:Nat):Dig (l.take n):=fun k=>by rw[dg_take];split <;> first | exact h k | omega
theorem Dig.set{l:List Nat}(h:Dig l)(i x:Nat)(hx:x<4294967296):Dig (l.set i x):=fun k=>by rw[dg_set];split <;> first | exact h k | exact hx
theorem Dig.replicate(n:Nat):Dig (List.replicate n 0):=fun k=>by rw[dg_replicate];split <;> omega
theorem Dig.cons{d:Nat}{l:List Nat}(hd:d<4294967296)(h:Dig l):Dig (d::l):=fun k=>by
 cases k with
 | zero=>exact hd
 | succ k=>exact h k
theorem Dig.tail{d:Nat}{l:List Nat}(h:Dig (d::l)):Dig l:=fun k=>h (k+1)
theorem Dig.head{d:Nat}{l:List Nat}(h:Dig (d::l)):d<4294967296:=h 0
theorem Dig.append{l m:List Nat}(hl:Dig l)(hm:Dig m):Dig (l++m):=fun k=>by rw[dg_append];split;exact hl k;exact hm _
def val:List Nat -> Nat
 | []=>0
 | d::l=>d+BB*val l
theorem val_nil:val []=0:=rfl
theorem val_cons(d:Nat)(l:List Nat):val (d::l)=d+BB*val l:=rfl
theorem val_append(l m:List Nat):val (l++m)=val l+BB^l.length*val m:=by
 induction l with
 | nil=>simp[val]
 | cons d l ih=>simp only[List.cons_append,val,ih,List.length_cons,Nat.pow_succ];rw[Nat.mul_add, <- Nat.add_assoc];congr 1;rw[Nat.mul_comm (BB^l.length) BB,Nat.mul_assoc]
theorem val_replicate(n:Nat):val (List.replicate n 0)=0:=by
 induction n with
 | zero=>rfl
 | succ n ih=>simp[List.replicate_succ,val,ih]
theorem val_lt{l:List Nat}(h:Dig l):val l<BB^l.length:=by
 induction l with
 | nil=>simp[val]
 | cons d l ih=>
  have h1:=ih h.tail;have h2:=h.head;have h3:BB*val l+BB <= BB*BB^l.length:=by rw[<- Nat.mul_succ];exact Nat.mul_le_mul_left _ h1
  simp only[val,List.length_cons,Nat.pow_succ,Nat.mul_comm (BB^l.length) BB];simp only[BB_eq] at h3 ⊢;omega
theorem val_take_succ(l:List Nat)(k:Nat):val (l.take (k+1))=val (l.take k)+BB^k*dg l k:=by
 induction l generalizing k with
 | nil=>simp[val,dg_nil]
 | cons d l ih=>
  cases k with
  | zero=>simp[val,dg_zero]
  | succ k=>simp only[List.take_succ_cons,val,ih,dg_succ,Nat.pow_succ];rw[Nat.mul_add,Nat.mul_comm (BB^k) BB,Nat.mul_assoc];omega
theorem val_take_of_le{l:List Nat}{k:Nat}(h:l.length <= k):val (l.take k)=val l:=by rw[List.take_of_length_le h]
theorem val_inj{l m:List Nat}(hl:Dig l)(hm:Dig m)(hn:l.length=m.length)(h:val l=val m):l=m:=by
 induction l generalizing m with
 | nil=>cases m with
  | nil=>rfl
  | cons _ _=>simp at hn
 | cons d l ih=>cases m with
  | nil=>simp at hn
  | cons e m=>
   have h1:=hl.head;have h2:=hm.head;simp only[val,BB_eq] at h;have hde:d=e:=by omega
   have:val l=val m:=by omega
   rw[hde,ih hl.tail hm.tail (by simpa using hn) this]
def Can(l:List Nat):Prop:=Dig l /\ (0<l.length -> dg l (l.length-1)≠0)
theorem div_BB_lt{n:Nat}(h:0<n):n / BB<n:=Nat.div_lt_self h (by decide)
def digs(n:Nat):List Nat:=if _h:n=0 then [] else n%BB::digs (n / BB)
termination_by n
decreasing_by exact div_BB_lt (by omega)
theorem digs_zero:digs 0= []:=by unfold digs;simp
theorem digs_pos{n:Nat}(h:0<n):digs n=n%BB::digs (n / BB):=by rw[digs,dif_neg (by omega)]
theorem val_digs(n:Nat):val (digs n)=n:=by
 induction n using Nat.strongRecOn with
 | _ n ih=>
  by_cases h:n=0
  ·subst h;rw[digs_zero];rfl
  ·rw[digs_pos (by omega),val,ih _ (div_BB_lt (by omega))];exact Nat.mod_add_div n BB
theorem dig_digs(n:Nat):Dig (digs n):=by
 induction n using Nat.strongRecOn with
 | _ n ih=>
  by_cases h:n=0
  ·subst h;rw[digs_zero];exact Dig.nil
  ·rw[digs_pos (by omega)];exact Dig.cons (Nat.mod_lt _ (by decide)) (ih _ (div_BB_lt (by omega)))
theorem can_digs(n:Nat):Can (digs n):=by
 refine⟨dig_digs n,?_⟩
 induction n using Nat.strongRecOn with
 | _ n ih=>
  by_cases h:n=0
  ·subst h;rw[digs_zero];intro h;simp at h
  ·rw[digs_pos (by omega)];intro _;by_cases h2:n / BB=0
   ·rw[h2,digs_zero];simp only[List.length_cons,List.length_nil,Nat.zero_add,Nat.sub_self,dg_zero];have:=Nat.mod_add_div n BB;rw[h2] at this;simp only[Nat.mul_zero,Nat.add_zero] at this;omega
   ·have h4:0<(digs (n / BB)).length:=by rw[digs_pos (Nat.pos_of_ne_zero h2)];simp
    have h3:=ih _ (div_BB_lt (by omega)) h4;obtain⟨m,hm⟩:∃m,(digs (n / BB)).length=m+1:=⟨(digs (n / BB)).length-1,by omega⟩
    rw[hm] at h3;simp only[List.length_cons,hm,Nat.add_sub_cancel,dg_succ] at h3 ⊢;exact h3
theorem can_tail{d:Nat}{l:List Nat}(h:Can (d::l)):Can l:=by
 refine⟨h.1.tail,fun hl=> ?_⟩;have:=h.2 (by simp);obtain⟨m,hm⟩:∃m,l.length=m+1:=⟨l.length-1,by omega⟩
 simp only[List.length_cons,hm,Nat.add_sub_cancel,dg_succ] at this ⊢;exact this
theorem can_val_pos{l:List Nat}(h:Can l)(hl:0<l.length):BB^ (l.length-1) <= val l:=by
 induction l with
 | nil=>simp at hl
 | cons d l ih=>
  cases l with
  | nil=>
   have:=h.2 (by simp);simp only[List.length_cons,List.length_nil,Nat.zero_add,Nat.sub_self,dg_zero] at this;simp[val];omega
  | cons e l=>
   have:=ih (can_tail h) (by simp);simp only[List.length_cons,Nat.add_sub_cancel] at this ⊢;rw[val,Nat.pow_succ,Nat.mul_comm];have h2:BB*BB^l.length <= BB*val (e::l):=Nat.mul_le_mul_left _ this;omega
theorem can_len_le{l m:List Nat}(hl:Can l)(hm:Dig m)(h:val l <= val m):l.length <= m.length:=by
 rcases Nat.lt_or_ge m.length l.length with h1 | h1
 ·have h2:=can_val_pos hl (by omega);have h3:=val_lt hm;have h4:BB^m.length <= BB^ (l.length-1):=Nat.pow_le_pow_right (by decide) (by omega);omega
 ·exact h1
theorem can_unique{l m:List Nat}(hl:Can l)(hm:Can m)(h:val l=val m):l=m:=
 val_inj hl.1 hm.1 (Nat.le_antisymm (can_len_le hl hm.1 (by omega)) (can_len_le hm hl.1 (by omega))) h
theorem can_eq_digs{l:List Nat}(h:Can l):l=digs (val l):=can_unique h (can_digs _) (by rw[val_digs])
theorem digs_len_le{n k:Nat}(h:n<BB^k):(digs n).length <= k:=by
 rcases Nat.lt_or_ge k (digs n).length with h1 | h1
 ·have h2:=can_val_pos (can_digs n) (by omega);rw[val_digs] at h2;have h4:BB^k <= BB^ ((digs n).length-1):=Nat.pow_le_pow_right (by decide) (by omega);omega
 ·exact h1
theorem lt_pow_digs(n:Nat):n<BB^ (digs n).length:=by have:=val_lt (dig_digs n);rwa [val_digs] at this
theorem digs_len_mono{n m:Nat}(h:n <= m):(digs n).length <= (digs m).length:=digs_len_le (Nat.lt_of_le_of_lt h (lt_pow_digs m))
theorem digs_len_pos{n:Nat}:0<(digs n).length↔0<n:=by
 constructor
 ·intro h
  rcases Nat.eq_zero_or_pos n with h0 | h0
  ·subst h0;rw[digs_zero] at h;simp at h
  ·exact h0
 ·intro h;rw[digs_pos h];simp
theorem digs_len_zero{n:Nat}:(digs n).length=0↔n=0:=by
 have:= @digs_len_pos n;omega
theorem take_can{l:List Nat}{k:Nat}(hd:Dig l)(hk:k <= l.length)(hz:∀j,k <= j -> j<l.length -> dg l j=0)(hn:0<k -> dg l (k-1)≠0):l.take k=digs (val l):=by
 have hlen:(l.take k).length=k:=by rw[List.length_take];omega
 have hc:Can (l.take k):=by
  refine⟨hd.take k,fun h=> ?_⟩;rw[hlen] at h ⊢;rw[dg_take,if_pos (by omega)];exact hn h
 have hv:val (l.take k)=val l:=by
  have h1:∀i,k <= i -> val (l.take i)=val (l.take k):=by
   intro i hi
   induction i with
   | zero=>
    have:k=0:=by omega
    subst this;rfl
   | succ i ih=>
    by_cases h:k <= i
    ·rw[val_take_succ,ih h];by_cases h2:i<l.length
     ·rw[hz i h h2];simp
     ·rw[dg_ge (by omega)];simp
    ·have:k=i+1:=by omega
     subst this;rfl
  have:=h1 l.length hk
  rwa [List.take_of_length_le (Nat.le_refl _),eq_comm] at this
 rw[<- hv];exact can_eq_digs hc
theorem digs_val_take{l:List Nat}(hd:Dig l):(digs (val l)).length <= l.length /\ l.take (digs (val l)).length=digs (val l):=by
 have h1:(digs (val l)).length <= l.length:=digs_len_le (val_lt hd);refine⟨h1,?_⟩;have hv:=val_digs (val l)
 have ht:val l=val (l.take (digs (val l)).length)+BB^ (digs (val l)).length*val (l.drop (digs (val l)).length):=by
  have:=val_append (l.take (digs (val l)).length) (l.drop (digs (val l)).length);rw[List.take_append_drop,List.length_take,Nat.min_eq_left h1] at this;exact this
 have hlt:=lt_pow_digs (val l)
 have hz:val (l.drop (digs (val l)).length)=0:=by
  rcases Nat.eq_zero_or_pos (val (l.drop (digs (val l)).length)) with h0 | h0
  ·exact h0
  ·have:=Nat.mul_le_mul_left (BB^ (digs (val l)).length) h0;omega
 rw[hz,Nat.mul_zero,Nat.add_zero] at ht;exact val_inj (hd.take _) (dig_digs _) (by rw[List.length_take];omega) (by rw[hv];exact ht.symm)
theorem val_set_take(l:List Nat)(k x:Nat)(hk:k<l.length):val ((l.set k x).take (k+1))=val (l.take k)+BB^k*x:=by
 rw[val_take_succ,dg_set,if_pos ⟨rfl,hk⟩];congr 2;apply List.ext_getElem?;intro j;rw[List.getElem?_take,List.getElem?_take,List.getElem?_set];split
 ·rw[if_neg (by omega)]
 ·rfl
theorem pow_split(P s:Nat):P* (s%4294967296)+P*BB* (s / 4294967296)=P*s:=by
 rw[Nat.mul_assoc, <- Nat.mul_add,BB_eq,Nat.mod_add_div]
theorem plus_step{lo lx ly:List Nat}{k c s:Nat}(hk:k<lo.length)(h:val (lo.take k)+BB^k*c=val (lx.take k)+val (ly.take k))(hs:s=c+dg lx k+dg ly k):
  val ((lo.set k (s%4294967296)).take (k+1))+BB^ (k+1)* (s / 4294967296)=val (lx.take (k+1))+val (ly.take (k+1)):=by
 rw[val_set_take _ _ _ hk,val_take_succ,val_take_succ,Nat.pow_succ];have:=pow_split (BB^k) s;have e:BB^k*s=BB^k*c+BB^k*dg lx k+BB^k*dg ly k:=by rw[hs,Nat.mul_add,Nat.mul_add]
 omega
theorem minus_step{lo la lb:List Nat}{k c c' x:Nat}(hk:k<lo.length)(h:val (la.take k)+BB^k*c=val (lo.take k)+val (lb.take k))(hs:dg la k+4294967296*c'=x+c+dg lb k):
  val (la.take (k+1))+BB^ (k+1)*c'=val ((lo.set k x).take (k+1))+val (lb.take (k+1)):=by
 rw[val_set_take _ _ _ hk,val_take_succ,val_take_succ,Nat.pow_succ];have e:BB^k* (dg la k+4294967296*c')=BB^k* (x+c+dg lb k):=by rw[hs]
 rw[Nat.mul_add,Nat.mul_add,Nat.mul_add, <- Nat.mul_assoc] at e;simp only[<- BB_eq] at e;omega
theorem minus_end{lo la lb:List Nat}{c:Nat}(hlo:Dig lo)(hle:val lb <= val la)(hc:c <= 1)(h:val la+BB^lo.length*c=val lo+val lb):val lo=val la-val lb:=by
 have h1:=val_lt hlo
 rcases(show c=0 \/ c=1 by omega) with rfl | rfl <;> omega
theorem scale_step{lo l:List Nat}{k c b p s:Nat}(hk:k<lo.length)(h:val (lo.take k)+BB^k*c=b*val (l.take k)+p)(hs:s=c+dg l k*b):
  val ((lo.set k (s%4294967296)).take (k+1))+BB^ (k+1)* (s / 4294967296)=b*val (l.take (k+1))+p:=by
 rw[val_set_take _ _ _ hk,val_take_succ,Nat.pow_succ];have:=pow_split (BB^k) s;have e:BB^k*s=BB^k*c+b* (BB^k*dg l k):=by rw[hs,Nat.mul_add,Nat.mul_comm (dg l k) b,Nat.mul_left_comm]
 rw[Nat.mul_add];omega
theorem val_drop(l:List Nat)(k:Nat)(hk:k<l.length):val (l.drop k)=dg l k+BB*val (l.drop (k+1)):=by
 rw[List.drop_eq_getElem_cons hk,val,dg_lt hk]
theorem val_drop_set(l:List Nat)(k x:Nat)(hk:k<l.length):val ((l.set k x).drop k)=x+BB*val (l.drop (k+1)):=by
 rw[val_drop _ _ (by rw[List.length_set];exact hk),dg_set,if_pos ⟨rfl,hk⟩];congr 3;rw[List.drop_set];simp
theorem short_step{lo l:List Nat}{k r b:Nat}(hk:k<l.length)(hko:k<lo.length)(h:val (l.drop (k+1))=b*val (lo.drop (k+1))+r):
  val (l.drop k)=b*val ((lo.set k ((r*4294967296+dg l k) / b)).drop k)+ (r*4294967296+dg l k)%b:=by
 rw[val_drop _ _ hk,val_drop_set _ _ _ hko,h];have:=Nat.div_add_mod (r*4294967296+dg l k) b;simp only[<- BB_eq] at this ⊢;rw[Nat.mul_add,Nat.mul_add,Nat.mul_left_comm b BB];rw[Nat.mul_comm r BB] at this ⊢;omega
theorem short_lt{r b d:Nat}(hr:r<b)(hd:d<4294967296):(r*4294967296+d) / b<4294967296:=by
 refine Nat.div_lt_of_lt_mul ?_;have:(r+1)*4294967296 <= b*4294967296:=Nat.mul_le_mul_right _ hr;omega
def ordN(a b:Nat):Int:=if a<b then -1 else if a=b then 0 else 1
theorem val_lt_of_len{l m:List Nat}(hl:Dig l)(hm:Can m)(h:l.length<m.length):val l<val m:=by
 rcases Nat.lt_or_ge (val l) (val m) with h1 | h1
 ·exact h1
 ·have:=can_len_le hm hl h1;omega
theorem val_eq_of_dg{l m:List Nat}(hl:l.length=m.length)(h:∀j,j<l.length -> dg l j=dg m j):val l=val m:=by rw[ext_dg hl h]
theorem val_lt_of_dg{l m:List Nat}{k:Nat}(hdl:Dig l)(hlen:l.length=m.length)(hk:k<l.length)(h:∀j,k<j -> j<l.length -> dg l j=dg m j)(hlt:dg l k<dg m k):val l<val m:=by
 have hd:l.drop (k+1)=m.drop (k+1):=by
  apply ext_dg
  ·rw[List.length_drop,List.length_drop,hlen]
  ·intro j hj;rw[List.length_drop] at hj;have:=h (k+1+j) (by omega) (by omega);unfold dg at this ⊢
   simpa [List.getD_eq_getElem?_getD,List.getElem?_drop] using this
 have e1:val l=val (l.take k)+BB^k*val (l.drop k):=by
  have:=val_append (l.take k) (l.drop k)
  rwa [List.take_append_drop,List.length_take,Nat.min_eq_left (by omega)] at this
 have e2:val m=val (m.take k)+BB^k*val (m.drop k):=by
  have:=val_append (m.take k) (m.drop k)
  rwa [List.take_append_drop,List.length_take,Nat.min_eq_left (by omega)] at this
 have e3:val (l.drop k)+1 <= val (m.drop k):=by
  rw[val_drop l _ hk,val_drop m _ (by omega),hd];omega
 have e4:=val_lt (hdl.take k);rw[List.length_take,Nat.min_eq_left (by omega)] at e4;have e5:BB^k* (val (l.drop k)+1) <= BB^k*val (m.drop k):=Nat.mul_le_mul_left _ e3;rw[Nat.mul_add] at e5;omega
theorem pow_mod_room{y d:Nat}(hy:y<32):d*2^y%4294967296%2^y=0 /\ d*2^y%4294967296+2^y <= 4294967296:=by
 have e:(4294967296:Nat)=2^ (32-y)*2^y:=by rw[<- Nat.pow_add,show 32-y+y=32 by omega]
 have h1:d*2^y%4294967296=d%2^ (32-y)*2^y:=by rw[e,Nat.mul_mod_mul_right]
 rw[h1];refine⟨Nat.mul_mod_left _ _,?_⟩;have h2:d%2^ (32-y)<2^ (32-y):=Nat.mod_lt _ (Nat.two_pow_pos _);have h3:(d%2^ (32-y)+1)*2^y <= 2^ (32-y)*2^y:=Nat.mul_le_mul_right _ h2;rw[<- e,Nat.add_mul,Nat.one_mul] at h3;exact h3
theorem raised_step{lo l:List Nat}{k y s:Nat}(hk:k+1<lo.length)(hs:s=dg l k*2^y)(h:val (lo.take k)+BB^k*dg lo k=2^y*val (l.take k)):
  val (((lo.set k (dg lo k+s%4294967296)).set (k+1) (s / 4294967296)).take (k+1))+BB^ (k+1)*dg ((lo.set k (dg lo k+s%4294967296)).set (k+1) (s / 4294967296)) (k+1)=2^y*val (l.take (k+1)):=by
 rw[dg_set,if_pos ⟨rfl,by rw[List.length_set];exact hk⟩]
 have e1:((lo.set k (dg lo k+s%4294967296)).set (k+1) (s / 4294967296)).take (k+1)=(lo.set k (dg lo k+s%4294967296)).take (k+1):=by
  rw[List.take_set,List.set_eq_of_length_le];rw[List.length_take];omega
 rw[e1,val_set_take _ _ _ (by omega),val_take_succ,Nat.mul_add,Nat.mul_add,Nat.pow_succ];have:=pow_split (BB^k) s;have e2:BB^k*s=2^y* (BB^k*dg l k):=by rw[hs,Nat.mul_comm (dg l k),Nat.mul_left_comm]
 omega
theorem val_set(l:List Nat)(i x:Nat)(hi:i<l.length):val (l.set i x)+BB^i*dg l i=val l+BB^i*x:=by
 have e1:val (l.set i x)=val (l.take i)+BB^i*val ((l.set i x).drop i):=by
  have:=val_append ((l.set i x).take i) ((l.set i x).drop i);rw[List.take_append_drop,List.length_take,List.length_set,Nat.min_eq_left (by omega)] at this;rw[this,List.take_set,List.set_eq_of_length_le];rw[List.length_take];omega
 have e2:val l=val (l.take i)+BB^i*val (l.drop i):=by
  have:=val_append (l.take i) (l.drop i)
  rwa [List.take_append_drop,List.length_take,Nat.min_eq_left (by omega)] at this
 rw[e1,e2,val_drop_set _ _ _ hi,val_drop _ _ hi,Nat.mul_add,Nat.mul_add];omega
theorem mul_step{lo lb:List Nat}{i j c x s V:Nat}(hi:i+j<lo.length)(h:val lo+BB^ (i+j)*c=V+BB^i* (x*val (lb.take j)))(hs:s=c+ (x*dg lb j+dg lo (i+j))):
  val (lo.set (i+j) (s%4294967296))+BB^ (i+ (j+1))* (s / 4294967296)=V+BB^i* (x*val (lb.take (j+1))):=by
 have h1:=val_set lo (i+j) (s%4294967296) hi;have h2:=pow_split (BB^ (i+j)) s
 have e:BB^ (i+j)*s=BB^ (i+j)*c+ (BB^i* (x* (BB^j*dg lb j))+BB^ (i+j)*dg lo (i+j)):=by
  rw[hs,Nat.mul_add,Nat.mul_add,Nat.pow_add];congr 2;rw[Nat.mul_assoc,Nat.mul_left_comm (BB^j) x]
 rw[val_take_succ,Nat.mul_add,Nat.mul_add, <- Nat.add_assoc i j 1,Nat.pow_succ];omega
theorem mul_row{lo lb la:List Nat}{i c V:Nat}(hi:i+lb.length<lo.length)(hz:dg lo (i+lb.length)=0)(h:val lo+BB^ (i+lb.length)*c=V+BB^i* (dg la i*val (lb.take lb.length)))(hV:V=val (la.take i)*val lb):
  val (lo.set (i+lb.length) c)=val (la.take (i+1))*val lb:=by
 have h1:=val_set lo (i+lb.length) c hi;rw[hz,Nat.mul_zero,Nat.add_zero] at h1;rw[h1,h,hV,val_take_of_le (Nat.le_refl _),val_take_succ,Nat.add_mul,Nat.mul_assoc]
theorem lowered_digit{Q R a b:Nat}(hQR:Q*R=4294967296)(hQ:0<Q):b*4294967296 / Q%4294967296=R* (b%Q) /\ a / Q+R* (b%Q)=a / Q+b*4294967296 / Q%4294967296:=by
 have h1:b*4294967296 / Q=b*R:=by rw[<- hQR,Nat.mul_left_comm,Nat.mul_div_cancel_left _ hQ]
 have h2:b*R%4294967296=R* (b%Q):=by rw[<- hQR,Nat.mul_mod_mul_right,Nat.mul_comm]
 rw[h1,h2];exact⟨rfl,rfl⟩
theorem lowered_lt{Q R a b:Nat}(hQR:Q*R=4294967296)(hQ:0<Q)(ha:a<4294967296):a / Q<R /\ a / Q+R* (b%Q)<4294967296:=by
 have h1:a / Q<R:=Nat.div_lt_of_lt_mul (by rw[hQR];exact ha);have h2:b%Q<Q:=Nat.mod_lt _ hQ;have h3:R* (b%Q+1) <= R*Q:=Nat.mul_le_mul_left _ h2;rw[Nat.mul_comm R Q,hQR,Nat.mul_add] at h3;exact⟨h1,by omega⟩
theorem lowered_step{lo l:List Nat}{k Q R b0:Nat}(hk:k<lo.length)(hQR:Q*R=4294967296)(h:Q*val (lo.take k)+b0=val (l.take k)+BB^k* (dg l k%Q)):
  Q*val ((lo.set k (dg l k / Q+R* (dg l (k+1)%Q))).take (k+1))+b0=val (l.take (k+1))+BB^ (k+1)* (dg l (k+1)%Q):=by
 rw[val_set_take _ _ _ hk,val_take_succ,Nat.pow_succ,Nat.mul_add]
 have e1:Q* (BB^k* (dg l k / Q+R* (dg l (k+1)%Q)))=BB^k* (Q* (dg l k / Q))+BB^k* (BB* (dg l (k+1)%Q)):=by
  rw[Nat.mul_left_comm,Nat.mul_add,Nat.mul_add, <- Nat.mul_assoc Q R,hQR, <- BB_eq]
 have e2:BB^k*dg l k=BB^k* (Q* (dg l k / Q))+BB^k* (dg l k%Q):=by rw[<- Nat.mul_add,Nat.div_add_mod]
 rw[e1,e2,Nat.mul_assoc];omega
theorem lowered_end{lo l:List Nat}{Q:Nat}(hlen:lo.length=l.length)(hQ:0<Q)(h:Q*val (lo.take l.length)+dg l 0%Q=val (l.take l.length)+BB^l.length* (dg l l.length%Q)):val lo=val l / Q:=by
 rw[val_take_of_le (by omega),val_take_of_le (Nat.le_refl _),dg_ge (Nat.le_refl _),Nat.zero_mod,Nat.mul_zero,Nat.add_zero] at h;rw[<- h,Nat.mul_add_div hQ,Nat.div_eq_of_lt (Nat.mod_lt _ hQ),Nat.add_zero]
end
section
open Go.RowKit
def slen:Value -> Nat
 | .slice _ n _=>n
 | _=>0
theorem slen_slice(A:Option Addr)(n c:Nat):slen (.slice A n c)=n:=rfl
def BT(w:World)(b:Nat)(v:Value):Prop:=∃cs e fr,w.heap[b]? =some (.cells cs e fr) /\ ∀z,v= .int .u32 z -> e=160
theorem BT.of_eq{w w':World}{b:Nat}{v:Value}(h:BT w b v)(e:w'.heap[b]? =w.heap[b]?):BT w' b v:=by
 obtain⟨cs,t,fr,h1,h2⟩:=h;exact⟨cs,t,fr,e.trans h1,h2⟩
def Cells(w:World)(A:Option Addr)(n:Nat)(f:Nat -> Value):Prop:=
 n=0 \/ ∃b off,A=some ⟨b,off,none⟩ /\ (∀j,j<n -> w.cell? ⟨b,off+j,none⟩=some (f j)) /\ BT w b (f 0)
theorem Cells.at_{w:World}{A:Option Addr}{n:Nat}{f:Nat -> Value}(h:Cells w A n f)(hn:0<n):
  ∃b off,A=some ⟨b,off,none⟩ /\ b<w.heap.size /\ ∀j,j<n -> w.cell? ⟨b,off+j,none⟩=some (f j):=by
 rcases h with h | ⟨b,off,hA,hc,_⟩
 ·omega
 ·exact⟨b,off,hA,World.block_lt_of_cell? w _ (hc 0 hn),hc⟩
theorem Cells.below{w w':World}{A:Option Addr}{n:Nat}{f:Nat -> Value}(h:Cells w A n f)(hb:Below w.heap.size w w'):Cells w' A n f:=by
 rcases h with h | ⟨b,off,hA,hc,ht⟩
 ·exact .inl h
 ·refine .inr ⟨b,off,hA,fun j hj=>(hb.cell (World.block_lt_of_cell? w _ (hc j hj))).trans (hc j hj),ht.of_eq (hb.block b ?_)⟩;obtain⟨_,_,_,h1,_⟩:=ht;exact(Array.getElem?_eq_some_iff.1 h1).1
theorem Cells.take{w:World}{A:Option Addr}{n m:Nat}{f:Nat -> Value}(h:Cells w A n f)(hm:m <= n):Cells w A m f:=by
 rcases h with h | ⟨b,off,hA,hc,ht⟩
 ·exact .inl (by omega)
 ·exact .inr ⟨b,off,hA,fun j hj=>hc j (by omega),ht⟩
theorem Cells.congr{w:World}{A:Option Addr}{n:Nat}{f g:Nat -> Value}(h:Cells w A n f)(hfg:∀j,j<n -> f j=g j):Cells w A n g:=by
 rcases h with h | ⟨b,off,hA,hc,ht⟩
 ·exact .inl h
 ·rcases Nat.eq_zero_or_pos n with h0 | h0
  ·exact .inl h0
  ·exact .inr ⟨b,off,hA,fun j hj=>(hc j hj).trans (by rw[hfg j hj]),by rw[<- hfg 0 h0];exact ht⟩
def U32(w:World)(A:Option Addr)(l:List Nat):Prop:=Cells w A l.length (fun j=> .int .u32 (dg l j:Nat))
theorem U32.trimmed{w:World}{A:Option Addr}{l:List Nat}(h:U32 w A l)(hd:Dig l):U32 w A (digs (val l)):=by
 obtain⟨h1,h2⟩:=digs_val_take hd;refine(Cells.take h h1).congr fun j hj=> ?_
 rw[<- h2,dg_take,if_pos hj]
theorem U32.below{w w':World}{A:Option Addr}{l:List Nat}(h:U32 w A l)(hb:Below w.heap.size w w'):U32 w' A l:=Cells.below h hb
def IsU32(w:World)(v:Value)(l:List Nat):Prop:=∃A c,v= .slice A l.length c /\ l.length <= c /\ c <= maxLen /\ U32 w A l /\ Dig l
theorem IsU32.below{w w':World}{v:Value}{l:List Nat}(h:IsU32 w v l)(hb:Below w.heap.size w w'):IsU32 w' v l:=by
 obtain⟨A,c,hv,hl,hc,hu,hd⟩:=h;exact⟨A,c,hv,hl,hc,Cells.below hu hb,hd⟩
def Row(w:World)(g:Nat)(e:TypeId)(cs:List Value):Prop:=w.heap[g]? =some (.cells cs.toArray e (0,0))
section
variable {w w':World} {g:Nat} {e:TypeId} {cs:List Value}
theorem Row.lt(h:Row w g e cs):g<w.heap.size:=(Array.getElem?_eq_some_iff.1 h).1
theorem Row.cell(h:Row w g e cs)(j:Nat): w.cell? ⟨g,j,none⟩=cs[j]? :=by
 rw[cell_of_row w g j _ _ (0,0) h];simp
theorem Row.free(h:Row w g e cs)(j:Nat): w.frozen? ⟨g,j,none⟩=false:=frozen_of_row w g j _ _ h
theorem Row.set(h:Row w g e cs)(j:Nat)(v:Value):Row (w.setCell ⟨g,j,none⟩ v) g e (cs.set j v):=by
 unfold Row;rw[heap_setCell_same w g j _ _ _ h];simp
theorem Row.at_(h:Row w g e cs)(j:Nat){v:Value}(hv:cs[j]? =some v): w.cell? ⟨g,j,none⟩=some v:=by rw[h.cell,hv]
theorem Row.below(h:Row w g e cs){B:Nat}(hb:Below B w w')(hg:g<B):Row w' g e cs:=(hb.block g hg).trans h
theorem Row.made{base n:Nat}{z:Value}(h:w.ownsRow base e 1 (.slice (some ⟨g,0,none⟩) n n) n (madeCells #[z] n).toList):Row w g e (List.replicate n z):=by
 rcases h.2 with ⟨h',_⟩ | ⟨g',cap,cur,h',_,hg,_,_,hs,htake⟩
 ·simp at h'
 ·simp only[Value.slice.injEq,Option.some.injEq,Addr.mk.injEq,and_true,true_and] at h';obtain⟨rfl,rfl⟩:=h';unfold Row;rw[hg]
  have e1:cur.toList=List.replicate n z:=by
   rw[<- toList_madeCells_one z n, <- htake,List.take_of_length_le];rw[Array.length_toList,hs];omega
  rw[<- e1]
end
theorem heap_new(w:World)(o:Obj):(w.alloc o).heap[w.heap.size]? =some o:=heap_alloc_new w o
theorem heap_old(w:World)(o o':Obj)(k:Nat)(h:w.heap[k]? =some o'):(w.alloc o).heap[k]? =some o':=by
 rw[Below.heap_alloc w o k (Array.getElem?_eq_some_iff.1 h).1];exact h
theorem size_alloc(w:World)(o:Obj):(w.alloc o).heap.size=w.heap.size+1:=by simp
theorem boxes1(w:World)(o1:Obj):(w.alloc o1).heap[w.heap.size]? =some o1 /\ (w.alloc o1).heap.size=w.heap.size+1 /\ Below w.heap.size w (w.alloc o1):=
 ⟨heap_new _ _,size_alloc _ _,(Below.refl _ _).alloc (Nat.le_refl _) _⟩
theorem boxes2(w:World)(o1 o2:Obj):((w.alloc o1).alloc o2).heap[w.heap.size]? =some o1 /\ ((w.alloc o1).alloc o2).heap[w.heap.size+1]? =some o2 /\ ((w.alloc o1).alloc o2).heap.size=w.heap.size+2 /\ Below w.heap.size w ((w.alloc o1).alloc o2):=
 ⟨heap_old _ _ _ _ (heap_new _ _),by rw[<- size_alloc w o1];exact heap_new _ _,by rw[size_alloc,size_alloc],by go_grown⟩
theorem boxes3(w:World)(o1 o2 o3:Obj):(((w.alloc o1).alloc o2).alloc o3).heap[w.heap.size]? =some o1 /\ (((w.alloc o1).alloc o2).alloc o3).heap[w.heap.size+1]? =some o2 /\ (((w.alloc o1).alloc o2).alloc o3).heap[w.heap.size+2]? =some o3 /\
  (((w.alloc o1).alloc o2).alloc o3).heap.size=w.heap.size+3 /\ Below w.heap.size w (((w.alloc o1).alloc o2).alloc o3):=
 ⟨heap_old _ _ _ _ (heap_old _ _ _ _ (heap_new _ _)),heap_old _ _ _ _ (by rw[<- size_alloc w o1];exact heap_new _ _),by rw[show w.heap.size+2=((w.alloc o1).alloc o2).heap.size by rw[size_alloc,size_alloc]];exact heap_new _ _,
  by rw[size_alloc,size_alloc,size_alloc],by go_grown⟩
theorem wpList_mk{P:Program}(w:World){ops:Array Oper}{rest:List Oper}{o:Oper}{a:Act}{Q:Exit -> Act -> World -> Prop}
  (hg:o.guard=none) (l c:Operand) (t:TypeId) (hop:o.op=Op.makeSlice t l c)
  (e:TypeId) (i:TypeInfo) (z:Value) (h1:P.underlying t=some (.slice e)) (h2: P.info? e=some i) (h3:i.zero=some z) (h4:i.size=1) (hz:z.cells= #[z])
  (L C:Int) (n:Nat) (hl:a.eval l= .int .i64 L) (hc:a.eval c= .int .i64 C) (hL:L=(n:Int)) (hC:C=(n:Int)) (b2:i.bytes*n <= 281474976710656)
  (b3:n <= maxLen)
  (hK:∀w',Row w' w.heap.size e (List.replicate n z) -> Below w.heap.size w w' -> w.heap.size<w'.heap.size -> wpList P ops Q rest (a.put o.dst (.slice (some ⟨w.heap.size,0,none⟩) n n)) w'):
  wpList P ops Q (o::rest) a w:=by
 refine wpList_make_full w hg l c t hop w.heap.size e i z 1 h1 h2 h3 h4 .i64 .i64 L C n hl hc hL hC b2 b3 (Nat.le_refl _) ?_;intro w' hown hgr;rw[hz,Nat.mul_one] at hown;have hr:=Row.made hown;exact hK w' hr ((Below.refl _ _).grown hgr (Nat.le_refl _) (by simp)) hr.lt
def Row32(w:World)(g:Nat)(l:List Nat):Prop:=Row w g 160 (l.map (fun d=>Value.int .u32 (d:Nat)))
section
variable {w w':World} {g:Nat} {l:List Nat}
theorem Row32.lt(h:Row32 w g l):g<w.heap.size:=Row.lt h
theorem Row32.cell(h:Row32 w g l){j:Nat}(hj:j<l.length): w.cell? ⟨g,j,none⟩=some (.int .u32 (dg l j:Nat)):=by
 rw[Row.cell h,dg_lt hj];simp[hj]
theorem Row32.free(h:Row32 w g l)(j:Nat): w.frozen? ⟨g,j,none⟩=false:=Row.free h j
theorem Row32.set(h:Row32 w g l)(j x:Nat){v:Value}(hv:v= .int .u32 (x:Nat)):Row32 (w.setCell ⟨g,j,none⟩ v) g (l.set j x):=by
 subst hv;have:=Row.set h j (.int .u32 (x:Nat));unfold Row32
 rwa [List.map_set]
theorem Row32.u32(h:Row32 w g l):U32 w (some ⟨g,0,none⟩) l:=by
 rcases Nat.eq_zero_or_pos l.length with h0 | h0
 ·exact .inl h0
 ·exact .inr ⟨g,0,rfl,fun j hj=>by rw[Nat.zero_add];exact h.cell hj,_,_,_,h,fun _ _=>rfl⟩
theorem Row32.below(h:Row32 w g l){B:Nat}(hb:Below B w w')(hg:g<B):Row32 w' g l:=Row.below h hb hg
theorem Row32.made{n:Nat}(h:Row w g 160 (List.replicate n (Value.int .u32 0))):Row32 w g (List.replicate n 0):=by
 unfold Row32
 rwa [List.map_replicate]
end
theorem info32:(Tryz.prog.info? 160).map (fun i=>(i.zero,i.size,i.bytes))=some (some (.int .u32 0),1,4):=by kernel_rfl
theorem bbelow{B:Nat}{w w':World}(hb:Below B w w'):(∀b o,b<B -> w'.cell? ⟨b,o,none⟩= w.cell? ⟨b,o,none⟩) /\ (∀b o,b<B -> w'.frozen? ⟨b,o,none⟩= w.frozen? ⟨b,o,none⟩):=
 ⟨fun b o h=>hb.cell (p:=⟨b,o,none⟩) h,fun b o h=>hb.frozen (p:=⟨b,o,none⟩) h⟩
theorem nat_or_add(i a b:Nat)(ha:a%2^i=0)(hb:b<2^i):a ||| b=a+b:=by
 have hq:a=2^i* (a / 2^i):=by
  have:=Nat.div_add_mod a (2^i);omega
 rw[hq, <- Nat.two_pow_add_eq_or_of_lt hb (a / 2^i)]
theorem or64(i a b:Nat)(ha:a%2^i=0)(hb:b<2^i)(hs:a+b<18446744073709551616):bits .or .u64 (a:Int) (b:Int)=((a+b:Nat):Int):=by
 rw[u64_or_nat a b (by omega) (by omega),nat_or_add i a b ha hb]
theorem or32(i a b:Nat)(ha:a%2^i=0)(hb:b<2^i)(hs:a+b<4294967296):bits .or .u32 (a:Int) (b:Int)=((a+b:Nat):Int):=by
 rw[u32_or_nat a b (by omega) (by omega),nat_or_add i a b ha hb]
theorem bits_or_comm(k:IntKind)(x y:Int):bits .or k x y=bits .or k y x:=by simp only[bits,BitVec.or_comm]
theorem or_shl32(r d:Nat)(hr:r<4294967296)(hd:d<4294967296):bits .or .u64 ((r:Int)*4294967296) (d:Int)=((r*4294967296+d:Nat):Int):=by
 have:=or64 32 (r*4294967296) d (by omega) (by omega) (by omega);rw[<- this];simp
theorem Cells.kept{w w':World}{A:Option Addr}{n g:Nat}{e:TypeId}{f:Nat -> Value}{cs:List Value}(h:Cells w A n f)(hg:w.grownBy w' (some g))(hr:Row w g e cs)(hno:∀j,∀v ∈ cs,f j≠v):Cells w' A n f:=by
 rcases h with h | ⟨b,off,hA,hc,ht⟩
 ·exact .inl h
 ·rcases Nat.eq_zero_or_pos n with h0 | h0
  ·exact .inl h0
  have hb:b≠g:=by
   intro hb;subst hb;have hcj:=hc 0 h0;rw[hr.cell] at hcj;exact absurd rfl (hno 0 _ (List.mem_of_getElem? hcj))
  refine .inr ⟨b,off,hA,fun j hj=>hg.cell (hc j hj) (by simp;exact hb),ht.of_eq (hg.block b ?_ (by simp;exact hb))⟩;obtain⟨_,_,_,h1,_⟩:=ht;exact(Array.getElem?_eq_some_iff.1 h1).1
theorem Cells.grownBy'{w w':World}{b off n g:Nat}{f:Nat -> Value}(h:Cells w (some ⟨b,off,none⟩) n f)(hg:w.grownBy w' (some g))(hne:b≠g):Cells w' (some ⟨b,off,none⟩) n f:=by
 rcases h with h | ⟨b',off',hA,hc,ht⟩
 ·exact .inl h
 ·simp only[Option.some.injEq,Addr.mk.injEq,and_true] at hA;obtain⟨rfl,rfl⟩:=hA;refine .inr ⟨b,off,rfl,fun j hj=>hg.cell (hc j hj) (by simp;exact hne),ht.of_eq (hg.block b ?_ (by simp;exact hne))⟩;obtain⟨_,_,_,h1,_⟩:=ht;exact(Array.getElem?_eq_some_iff.1 h1).1
theorem U32.kept{w w':World}{A:Option Addr}{l:List Nat}{g:Nat}{e:TypeId}{cs:List Value}(h:U32 w A l)(hg:w.grownBy w' (some g))(hr:Row w g e cs)(hno:∀v ∈ cs,∀n:Int,v≠ .int .u32 n):U32 w' A l:=
 Cells.kept h hg hr (fun _ v hv he=>hno v hv _ he.symm)
theorem grownBy_set(w:World)(g i:Nat)(v:Value):w.grownBy (w.setCell ⟨g,i,none⟩ v) (some g):=
 ⟨rfl,rfl,rfl,by simp,fun k _ hk=>heap_setCell_other w ⟨g,i,none⟩ k v (fun e=>hk (by simp[e]))⟩
theorem grownBy_trans{w w' w'':World}{r:Option Nat}(h:w.grownBy w' r)(h':w'.grownBy w'' r):w.grownBy w'' r:=
 ⟨h'.os.trans h.os,h'.tape.trans h.tape,h'.output.trans h.output,Nat.le_trans h.size h'.size,fun k hk hr=>(h'.block k (Nat.lt_of_lt_of_le hk h.size) hr).trans (h.block k hk hr)⟩
theorem grownBy_set2(w:World)(g i j:Nat)(v u:Value):w.grownBy ((w.setCell ⟨g,i,none⟩ v).setCell ⟨g,j,none⟩ u) (some g):=grownBy_trans (grownBy_set _ _ _ _) (grownBy_set _ _ _ _)
theorem cell_far(w:World)(g i b o:Nat)(v:Value)(h:b≠g):(w.setCell ⟨g,i,none⟩ v).cell? ⟨b,o,none⟩= w.cell? ⟨b,o,none⟩:=
 World.cell?_setCell_other w ⟨g,i,none⟩ ⟨b,o,none⟩ v (fun e=>h (congrArg Addr.block e).symm)
theorem cell_far2(w:World)(g i j b o:Nat)(v u:Value)(h:b≠g):((w.setCell ⟨g,i,none⟩ v).setCell ⟨g,j,none⟩ u).cell? ⟨b,o,none⟩= w.cell? ⟨b,o,none⟩:=
 (cell_far _ g j b o u h).trans (cell_far w g i b o v h)
def Drew(w w':World):Prop:=∃n,w'=w.drewN n
theorem Drew.refl(w:World):Drew w w:=⟨0,rfl⟩
theorem Drew.mk(w:World)(n:Nat):Drew w (w.drewN n):=⟨n,rfl⟩
theorem below_drewN(B:Nat)(w:World)(n:Nat):Below B w (w.drewN n):=⟨rfl,rfl,rfl,Nat.le_refl _,fun _ _=>rfl⟩
theorem Drew.step{w w':World}(h:Drew w w')(n:Nat):Drew w (w'.drewN n):=by
 obtain⟨m,rfl⟩:=h;exact⟨m+n,by simp[World.drewN];try omega⟩
theorem Drew.below{w w':World}(h:Drew w w')(B:Nat):Below B w w':=by obtain⟨n,rfl⟩:=h;exact below_drewN B w n
theorem lH{p:Prop}(h:p):Hid p:=Lib.hid h
theorem eX{α:Sort _}(x:α):∃y,y=x:=⟨x,rfl⟩
theorem bT{w w' w'':World}(H:Hid (Below w.heap.size w w'))(h:Below w'.heap.size w' w''):Hid (Below w.heap.size w w''):=lH (H.out.trans (h.mono H.out.size))
theorem rW{w w':World}{g:Nat}{e:TypeId}{cs:List Value}(R:Hid (Row w g e cs))(h:Below w.heap.size w w'):Hid (Row w' g e cs):=lH (R.out.below h R.out.lt)
theorem bN(w:World)(o:Obj):Below w.heap.size w (w.alloc o):=(boxes1 w o).2.2
theorem bD{w w' w'':World}(h:Below w'.heap.size w' w'')(h2:Below w.heap.size w w':=by first | exact Below.refl _ _ | exact(Below.refl _ _).drew | exact below_drewN _ _ _ | exact bN _ _):Below w.heap.size w w'':=h2.trans (h.mono h2.size)
theorem kA{w w':World}{S:World -> Prop}(K:∀w',Below w.heap.size w w' -> S w')(h:Below w.heap.size w w':=by first | exact(Below.refl _ _).drew.trans (bN _ _) | exact bN _ _ | exact(bN _ _).drew):S w':=K _ h
theorem hN(w:World)(cs:List Value)(t:TypeId):Hid (Row (w.alloc (.cells cs.toArray t)) w.heap.size t cs):=lH (heap_new _ _)
theorem eN1(w:World)(a:List Value)(t:TypeId):∃W,W=w.alloc (.cells a.toArray t) /\ Hid (Row W w.heap.size t a) /\ Hid (Below w.heap.size w W):=by
  obtain⟨r0,_,h⟩:=boxes1 w (.cells a.toArray t)
  exact⟨_,rfl,lH r0,lH h⟩
theorem eN2(w:World)(a:List Value)(t:TypeId)(b:List Value)(u:TypeId):∃W,W=(w.alloc (.cells a.toArray t)).alloc (.cells b.toArray u) /\ Hid (Row W w.heap.size t a) /\ Hid (Row W (w.heap.size+1) u b) /\ Hid (Below w.heap.size w W):=by
  obtain⟨r0,r1,_,h⟩:=boxes2 w (.cells a.toArray t) (.cells b.toArray u)
  exact⟨_,rfl,lH r0,lH r1,lH h⟩
theorem eN3(w:World)(a:List Value)(t:TypeId)(b:List Value)(u:TypeId)(c:List Value)(v:TypeId):∃W,W=((w.alloc (.cells a.toArray t)).alloc (.cells b.toArray u)).alloc (.cells c.toArray v) /\ Hid (Row W w.heap.size t a) /\ Hid (Row W (w.heap.size+1) u b) /\ Hid (Row W (w.heap.size+1+1) v c) /\ Hid (Below w.heap.size w W):=by
  obtain⟨r0,r1,r2,_,h⟩:=boxes3 w (.cells a.toArray t) (.cells b.toArray u) (.cells c.toArray v)
  exact⟨_,rfl,lH r0,lH r1,lH r2,lH h⟩
section
variable {w:World} {g:Nat} {e:TypeId} {a b c d x y z u:Value}
theorem aT2{l:List Value}(h:Row w g e (a::b::l)): w.cell? ⟨g,0,none⟩=some a /\ w.cell? ⟨g,1,none⟩=some b:=⟨h.at_ 0 rfl,h.at_ 1 rfl⟩
theorem aT3{l:List Value}(h:Row w g e (a::b::c::l)): w.cell? ⟨g,0,none⟩=some a /\ w.cell? ⟨g,1,none⟩=some b /\ w.cell? ⟨g,2,none⟩=some c:=⟨h.at_ 0 rfl,h.at_ 1 rfl,h.at_ 2 rfl⟩
theorem aT4{l:List Value}(h:Row w g e (a::b::c::d::l)): w.cell? ⟨g,0,none⟩=some a /\ w.cell? ⟨g,1,none⟩=some b /\ w.cell? ⟨g,2,none⟩=some c /\ w.cell? ⟨g,3,none⟩=some d:=⟨h.at_ 0 rfl,h.at_ 1 rfl,h.at_ 2 rfl,h.at_ 3 rfl⟩
theorem aT8{l:List Value}(h:Row w g e (a::b::c::d::x::y::z::u::l)): w.cell? ⟨g,0,none⟩=some a /\ w.cell? ⟨g,1,none⟩=some b /\ w.cell? ⟨g,2,none⟩=some c /\ w.cell? ⟨g,3,none⟩=some d /\ w.cell? ⟨g,4,none⟩=some x /\ w.cell? ⟨g,5,none⟩=some y /\ w.cell? ⟨g,6,none⟩=some z /\ w.cell? ⟨g,7,none⟩=some u:=⟨h.at_ 0 rfl,h.at_ 1 rfl,h.at_ 2 rfl,h.at_ 3 rfl,h.at_ 4 rfl,h.at_ 5 rfl,h.at_ 6 rfl,h.at_ 7 rfl⟩
theorem aF2{l:List Value}(h:Row w g e (a::b::l)): w.cell? ⟨g,0,none⟩=some a /\ w.frozen? ⟨g,0,none⟩=false /\ w.cell? ⟨g,1,none⟩=some b /\ w.frozen? ⟨g,1,none⟩=false:=⟨h.at_ 0 rfl,h.free 0,h.at_ 1 rfl,h.free 1⟩
theorem aF3{l:List Value}(h:Row w g e (a::b::c::l)): w.cell? ⟨g,0,none⟩=some a /\ w.frozen? ⟨g,0,none⟩=false /\ w.cell? ⟨g,1,none⟩=some b /\ w.frozen? ⟨g,1,none⟩=false /\ w.cell? ⟨g,2,none⟩=some c /\ w.frozen? ⟨g,2,none⟩=false:=⟨h.at_ 0 rfl,h.free 0,h.at_ 1 rfl,h.free 1,h.at_ 2 rfl,h.free 2⟩
theorem aF4{l:List Value}(h:Row w g e (a::b::c::d::l)): w.cell? ⟨g,0,none⟩=some a /\ w.frozen? ⟨g,0,none⟩=false /\ w.cell? ⟨g,1,none⟩=some b /\ w.frozen? ⟨g,1,none⟩=false /\ w.cell? ⟨g,2,none⟩=some c /\ w.frozen? ⟨g,2,none⟩=false /\ w.cell? ⟨g,3,none⟩=some d /\ w.frozen? ⟨g,3,none⟩=false:=⟨h.at_ 0 rfl,h.free 0,h.at_ 1 rfl,h.free 1,h.at_ 2 rfl,h.free 2,h.at_ 3 rfl,h.free 3⟩
theorem aF5{l:List Value}(h:Row w g e (a::b::c::d::x::l)): w.cell? ⟨g,0,none⟩=some a /\ w.frozen? ⟨g,0,none⟩=false /\ w.cell? ⟨g,1,none⟩=some b /\ w.frozen? ⟨g,1,none⟩=false /\ w.cell? ⟨g,2,none⟩=some c /\ w.frozen? ⟨g,2,none⟩=false /\ w.cell? ⟨g,3,none⟩=some d /\ w.frozen? ⟨g,3,none⟩=false /\ w.cell? ⟨g,4,none⟩=some x /\ w.frozen? ⟨g,4,none⟩=false:=⟨h.at_ 0 rfl,h.free 0,h.at_ 1 rfl,h.free 1,h.at_ 2 rfl,h.free 2,h.at_ 3 rfl,h.free 3,h.at_ 4 rfl,h.free 4⟩
theorem aF8{l:List Value}(h:Row w g e (a::b::c::d::x::y::z::u::l)): w.cell? ⟨g,0,none⟩=some a /\ w.frozen? ⟨g,0,none⟩=false /\ w.cell? ⟨g,1,none⟩=some b /\ w.frozen? ⟨g,1,none⟩=false /\ w.cell? ⟨g,2,none⟩=some c /\ w.frozen? ⟨g,2,none⟩=false /\ w.cell? ⟨g,3,none⟩=some d /\ w.frozen? ⟨g,3,none⟩=false /\ w.cell? ⟨g,4,none⟩=some x /\ w.frozen? ⟨g,4,none⟩=false /\ w.cell? ⟨g,5,none⟩=some y /\ w.frozen? ⟨g,5,none⟩=false /\ w.cell? ⟨g,6,none⟩=some z /\ w.frozen? ⟨g,6,none⟩=false /\ w.cell? ⟨g,7,none⟩=some u /\ w.frozen? ⟨g,7,none⟩=false:=⟨h.at_ 0 rfl,h.free 0,h.at_ 1 rfl,h.free 1,h.at_ 2 rfl,h.free 2,h.at_ 3 rfl,h.free 3,h.at_ 4 rfl,h.free 4,h.at_ 5 rfl,h.free 5,h.at_ 6 rfl,h.free 6,h.at_ 7 rfl,h.free 7⟩
variable {n o:Nat} {S:World -> Prop}
theorem kN(h: w.cell? ⟨n,o,none⟩=some a):∀w',Below w.heap.size w w' -> w'.cell? ⟨n,o,none⟩=some a:=fun _ hb=>(hb.cell (World.block_lt_of_cell? w _ h)).trans h
theorem kC(h: w.cell? ⟨n,o,none⟩=some a)(r:∀w',Below w.heap.size w w' -> S w'):∀w',Below w.heap.size w w' -> w'.cell? ⟨n,o,none⟩=some a /\ S w':=fun _ hb=>⟨kN h _ hb,r _ hb⟩
end
theorem aI(i:Nat){w:World}{g:Nat}{e:TypeId}{cs:List Value}{v:Value}(R:Hid (Row w g e cs))(h:cs[i]? =some v:=by rfl): w.cell? ⟨g,i,none⟩=some v:=R.out.at_ i h
theorem rG(w:World):Hid (Below w.heap.size w w):=lH (Below.refl _ _)
theorem mZ{p:Prop}(h:p:=by first | (simp[intOf];done) | (simp[intOf];omega)):p:=h
end
section
open Go.RowKit
theorem trim_walk(A:Option Addr)(n c:Nat)(l:List Nat)(w:World)(hn:n=l.length)(hc:n <= c)(hm:c <= maxLen)(h:U32 w A l)(hd:Dig l):
  Calls Tryz.prog 156 #[.slice A n c] w fun e w'=>e= .returned (.slice A (digs (val l)).length c) /\ (digs (val l)).length <= l.length /\ w=w':=by
 unfold maxLen at hm;subst hn;obtain⟨fin,hfin⟩:∃fin:Nat -> Prop,∀k,fin k↔(k <= l.length /\ (∀j,k <= j -> j<l.length -> dg l j=0) /\ (0<k -> dg l (k-1)≠0)):=⟨_,fun _=>Iff.rfl⟩
 have key:Calls Tryz.prog 156 #[.slice A l.length c] w fun e w'=>(∃k,fin k /\ e= .returned (.slice A k c)) /\ w=w':=by
  have HF:=lH hfin;clear hfin;go_enter Tryz.func156,Tryz.ntmps156
  go_wp2
  go_loop [0] (fun v=>∃k,k <= l.length /\ v= .slice A k c /\ (∀j,k <= j -> j<l.length -> dg l j=0)) (fun v=>slen v)
  case atStart=>exact⟨l.length,Nat.le_refl _,rfl,fun j h1 h2=>absurd h1 (by omega)⟩
  case round=>
   obtain⟨k,hk,rfl,hz⟩:=hrel;have HZ:=lH hz;clear hz;by_cases h0:0<k
   ·obtain⟨b,off,rfl,hb,hcell⟩:=Cells.at_ h (by omega);have hc1:=hcell (k-1) (by omega);have H:=lH h;clear hcell h
    go_wp2
    ·have h0':(((dg l (k-1):Nat):Int)==0)=true:=by assumption
     have h00:dg l (k-1)=0:=by simpa using h0'
     go_round
     case rel=>
      refine⟨k-1,by omega,rfl,fun j h1 h2=> ?_⟩;by_cases hj:j=k-1
      ·rw[hj];exact h00
      ·exact HZ.out j (by omega) h2
     case measure=>simp only[slen_slice];omega
    ·have h0':(((dg l (k-1):Nat):Int)==0)=false:=by assumption
     go_ret
     exact⟨⟨k,(HF.out k).2 ⟨hk,HZ.out,fun _ h=>by rw[h] at h0';simp at h0'⟩,rfl⟩,rfl⟩
   ·obtain rfl:k=0:=by omega
    go_wp2
    go_ret
    exact⟨⟨0,(HF.out 0).2 ⟨hk,HZ.out,fun h=>absurd h (by omega)⟩,rfl⟩,rfl⟩
 refine key.mono ?_;rintro e w' ⟨⟨k,hk,he⟩,hw⟩;obtain⟨h1,h2,h3⟩:=(hfin k).1 hk;have ht:=take_can hd h1 h2 h3;have hl:(digs (val l)).length=k:=by rw[<- ht,List.length_take];omega
 exact⟨by rw[hl];exact he,by omega,hw⟩
end
section
open Go.RowKit
def IsMag(w:World)(v:Value)(n:Nat):Prop:=
 ∃A c,v= .slice A (digs n).length c /\ (digs n).length <= c /\ c <= maxLen /\ U32 w A (digs n)
def IsInt(w:World)(v:Value)(n:Int):Prop:=
 ∃A c,v= .agg #[.bool (decide (n<0)), .slice A (digs n.natAbs).length c] /\ (digs n.natAbs).length <= c /\ c <= maxLen /\ U32 w A (digs n.natAbs)
theorem IsMag.below{w w':World}{v:Value}{n:Nat}(h:IsMag w v n)(hb:Below w.heap.size w w'):IsMag w' v n:=by
 obtain⟨A,c,hv,hl,hc,hu⟩:=h;exact⟨A,c,hv,hl,hc,Cells.below hu hb⟩
theorem IsInt.below{w w':World}{v:Value}{n:Int}(h:IsInt w v n)(hb:Below w.heap.size w w'):IsInt w' v n:=by
 obtain⟨A,c,hv,hl,hc,hu⟩:=h;exact⟨A,c,hv,hl,hc,Cells.below hu hb⟩
theorem IsMag.isU32{w:World}{v:Value}{n:Nat}(h:IsMag w v n):IsU32 w v (digs n):=by
 obtain⟨A,c,hv,hl,hc,hu⟩:=h;exact⟨A,c,hv,hl,hc,hu,dig_digs n⟩
theorem IsInt.shape{w:World}{v:Value}{n:Int}(h:IsInt w v n):∃s A l c,v= .agg #[.bool s, .slice A l c]:=by
 obtain⟨A,c,hv,_⟩:=h;exact⟨_,_,_,_,hv⟩
theorem res_store{w W w2:World}{rb:Nat}{x y p q:Value}{n:Int}(hWB:Below w.heap.size w W)(r:Row w2 rb 103 [p,q])(hp:∀n:Int,p≠ .int .u32 n)(hq:∀n:Int,q≠ .int .u32 n)(hrb:w.heap.size <= rb)(hb2:Below W.heap.size W w2)(hi:IsInt w2 (.agg #[x,y]) n):
  IsInt ((w2.setCell ⟨rb,0,none⟩ x).setCell ⟨rb,1,none⟩ y) (.agg #[x,y]) n /\ Below w.heap.size w ((w2.setCell ⟨rb,0,none⟩ x).setCell ⟨rb,1,none⟩ y):=by
 obtain⟨A,c,hv,h1,h2,h3⟩:=hi;refine⟨⟨A,c,hv,h1,h2,h3.kept (grownBy_set2 _ _ _ _ _ _) r ?_⟩,?_⟩
 ·intro v hv n;simp only[List.mem_cons,List.not_mem_nil,or_false] at hv
  rcases hv with rfl | rfl
  ·exact hp n
  ·exact hq n
 ·have hbW2:Below w.heap.size w w2:=hWB.trans (hb2.mono hWB.size);exact(hbW2.setCell (p:=⟨rb,0,none⟩) hrb _).setCell (p:=⟨rb,1,none⟩) hrb _
def sgn(neg:Bool)(n:Nat):Int:=if neg then -(n:Int) else n
theorem sgn_natAbs(neg:Bool)(n:Nat):(sgn neg n).natAbs=n:=by unfold sgn;split <;> omega
theorem sgn_neg(neg:Bool)(n:Nat):decide (sgn neg n<0)=(neg && decide (0<n)):=by
 unfold sgn;cases neg <;> simp <;> omega
theorem sgn_mul(x y:Int):sgn (decide (x<0) !=decide (y<0)) (x.natAbs*y.natAbs)=x*y:=by
 obtain⟨a,rfl | rfl⟩:=Int.eq_nat_or_neg x <;> obtain⟨b,rfl | rfl⟩:=Int.eq_nat_or_neg y <;>
  rcases Nat.eq_zero_or_pos a with h | h <;> rcases Nat.eq_zero_or_pos b with h' | h' <;> simp[sgn,h,h',Int.natAbs_neg,Int.mul_neg,Int.neg_mul] <;> omega
theorem signed_walk(neg:Bool)(v:Value)(l:List Nat)(w:World)(h:IsU32 w v l):
  Calls Tryz.prog 140 #[.bool neg,v] w fun e w'=>∃v',e= .returned v' /\ IsInt w' v' (sgn neg (val l)) /\ Below w.heap.size w w':=by
 obtain⟨A,c,rfl,hl,hc,hu,hd⟩:=h;have HU:=lH hu;have h':=U32.below hu ((Below.refl _ w).alloc (Nat.le_refl _) (.cells #[.bool false, .slice none 0 0] 103));have H:=lH h';have HD:=lH hd;clear hu h' hd
 have key:Calls Tryz.prog 140 #[.bool neg, .slice A l.length c] w fun e w'=>e= .returned (.agg #[.bool (neg && decide (0<(digs (val l)).length)), .slice A (digs (val l)).length c]) /\
   w'=w.alloc (.cells #[.bool (neg && decide (0<(digs (val l)).length)), .slice A (digs (val l)).length c] 103):=by
  cases neg
  all_goals
   go_enter Tryz.func140,Tryz.ntmps140;go_wp2_with fail
   refine(trim_walk A _ c l _ rfl hl hc H.out HD.out).mono ?_;rintro e w1 ⟨rfl,h1,rfl⟩;go_wp2_with fail
   go_returns;exact⟨by simp,by simp⟩
 refine key.mono ?_;rintro e w' ⟨rfl,rfl⟩;refine⟨_,rfl,⟨A,c,?_,?_,hc,?_⟩,by go_grown⟩
 ·rw[sgn_natAbs,sgn_neg];simp only[digs_len_pos]
 ·rw[sgn_natAbs];have:=(digs_val_take HD.out).1;omega
 ·rw[sgn_natAbs];exact(HU.out.trimmed HD.out).below (by go_grown)
end
section
open Go.RowKit
theorem scale_walk(A:Option Addr)(ca by_ plus:Nat)(l:List Nat)(w:World)(ha:U32 w A l)(hda:Dig l)(hla:l.length<17592186044416)(hby:by_<4294967296)(hpl:plus<4294967296):
  Calls Tryz.prog 177 #[.slice A l.length ca, .int .u32 (by_:Nat), .int .u32 (plus:Nat)] w fun e w'=>∃v,e= .returned v /\ IsMag w' v (by_*val l+plus) /\ Below w.heap.size w w':=by
 obtain⟨i0,hi0,hz0,hz1,hz2⟩:=info_parts info32;have hby':((by_:Nat):Int)<4294967296:=by omega
 have hpl':((plus:Nat):Int)<4294967296:=by omega
 have HBY:=lH hby;clear hby hpl;go_enter Tryz.func177,Tryz.ntmps177
 go_wp2_with (at_make;refine wpList_mk _ rfl (.tmp 13) (.tmp 13) 101 rfl 160 i0 (.int .u32 0) Tryz.underlying101 hi0 hz0 hz1 rfl _ _ _ rfl rfl rfl rfl ?_ ?_ ?_)
 ·first | omega | (rw[hz2];omega)
 ·unfold maxLen;omega
 intro w1 hrow hb1 hs1;have hr:=Row32.made hrow;clear hrow;have HR:=lH hr;clear hr;go_wp2_with fail
 go_loopw [8,19] (fun cv iv wr=>∃ (k c:Nat) (lo:List Nat),k <= l.length /\ cv= .int .u64 c /\ iv= .int .i64 k /\ Row32 wr w.heap.size lo /\ lo.length=l.length+1 /\ Dig lo /\ ((c:Nat):Int)<4294967296 /\ Hid (val (lo.take k)+BB^k*c=by_*val (l.take k)+plus) /\ Below w.heap.size w wr)
  (fun _ iv _=>l.length-(intOf iv).toNat)
 case atStart=>exact⟨0,plus,_,Nat.zero_le _,rfl,rfl,HR.out,List.length_replicate,Dig.replicate _,hpl',by show _=_;simp[val],hb1⟩
 case round=>
  obtain⟨k,c,lo,hk,rfl,rfl,hrow,hlo,hdlo,hc1,hinv,hbw⟩:=hrel;have HDLO:=lH hdlo;clear hdlo;by_cases hkl:k<l.length
  ·obtain⟨b,off,rfl,hbb,hcell⟩:=Cells.at_ ha (by omega);have hcx:=hcell k hkl;have hbx:((dg l k:Nat):Int)<4294967296:=by have:=hda k;omega
   have hmul:((dg l k*by_:Nat):Int) <= 18446744065119617025:=by
    have:=Nat.mul_le_mul (show dg l k <= 4294967295 by omega) (show by_ <= 4294967295 by omega);omega
   have hm2:((dg l k:Nat):Int)* (by_:Nat) <= 18446744065119617025:=by rw[<- Int.natCast_mul];exact hmul
   have hm1:0 <= ((dg l k:Nat):Int)* (by_:Nat):=by rw[<- Int.natCast_mul];omega
   have hg:=hrow.cell (j:=k) (by omega);have hfr:=hrow.free k;have hcx':=((bbelow hbw).1 b (off+k) hbb).trans hcx;have HM:=lH hmul;clear hcell hcx hmul;go_wp2_with fail
   go_roundw
   case rel=>
    refine⟨k+1,(c+dg l k*by_) / 4294967296,lo.set k ((c+dg l k*by_)%4294967296),by omega,by simp,by simp,hrow.set k _ (by simp),by rw[List.length_set];exact hlo,HDLO.out.set _ _ (Nat.mod_lt _ (by omega)),?_,scale_step (by omega) hinv rfl,hbw.setCell (Nat.le_refl _) _⟩;have:=HM.out;omega
   case measure=>simp[intOf];omega
  ·obtain rfl:k=l.length:=by omega
   have hfr:=hrow.free l.length;have hg:=hrow.cell (j:=l.length) (by omega);go_wp2_with fail
   have hset:=hrow.set l.length c rfl;have hlen:(lo.set l.length c).length=l.length+1:=by rw[List.length_set];exact hlo
   have hds:Dig (lo.set l.length c):=HDLO.out.set _ _ (by omega);have h1:=val_set_take lo l.length c (by omega);rw[<- hlen,val_take_of_le (Nat.le_refl _),hinv.out,val_take_of_le (Nat.le_refl _)] at h1;have hbs:=hbw.setCell (p:=⟨w.heap.size,l.length,none⟩) (Nat.le_refl _) (Value.int .u32 (c:Nat));refine(trim_walk _ _ _ _ _ hlen.symm (Nat.le_refl _) (show l.length+1 <= maxLen by unfold maxLen;omega) hset.u32 hds).mono ?_;rintro e w2 ⟨rfl,hle2,rfl⟩;have HH:=lH h1;have HT:=lH (hset.u32.trimmed hds);have HB:=lH hbs;clear h1 hset hds hlen hbs;go_wp2_with fail
   go_returns;refine⟨_,rfl,⟨_,l.length+1,by rw[<- HH.out];rfl,?_,by unfold maxLen;omega,?_⟩,HB.out⟩
   ·rw[<- HH.out];rw[List.length_set,hlo] at hle2;exact hle2
   ·rw[<- HH.out];exact HT.out
end
end Go.Proofs.YtdefghfjhgmpfaaGreatDoor
