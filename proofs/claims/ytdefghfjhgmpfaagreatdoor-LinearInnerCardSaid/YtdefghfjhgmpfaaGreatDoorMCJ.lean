/- Parts of this proof: Repeat MoveM. -/
import Derived.Test.YtdefghfjhgmpfaaGreatDoorMAE
import Derived.Test.YtdefghfjhgmpfaaGreatDoorMAV
import Derived.Test.YtdefghfjhgmpfaaGreatDoorMCI
import Derived.Laws.CopyOwn
import Derived.Test.YtdefghfjhgmpfaaGreatDoorMAZ
namespace Go.Proofs.YtdefghfjhgmpfaaGreatDoor
open Go.Proofs.Tryz
section
open Go.RowKit
open Lp (RL upd eu)
theorem KJ{P:Program}(w:World)(E T ty F:TypeId)(hu:P.underlying E=some (.slice F))(Y:(P.info? F).map (·.size)=some 1)(g o h M:Nat)(a:Addr)(G R:Nat)(L:List Value)(t:TypeId)(O:Row w g t L)(cs:List Value)(X:cs.length=Nat.min G h)
  (Z:∀ (j:Nat) v,cs[j]? =some v -> w.cell? (a.add j)=some v) (U:o+cs.length <= L.length) (h1:∀v ∈ cs,v.oneCell'=true):
  ∃w',(Builtin.copy_ #[E,T] ty #[.slice (some ⟨g,o,none⟩) h M, .slice (some a) G R]).run P w= .ok (goInt cs.length) w' /\ Row w' g t (splice L o cs) /\ Below g w w':=by
 refine⟨_,run_copy_row (P:=P) w E T ty F g o h M a G R L.toArray t cs hu Y O X Z (by simpa using U) h1,?_,below_setRow (Below.refl _ _) (Nat.le_refl _) _⟩;show _=_
 simpa [splice] using setRow_heap w g _ _ t _ O
theorem KL{w:World}{g o:Nat}{s:ByteArray}(h: w.cell? ⟨g,o,none⟩=some (.string s)){j:Nat}{v:Value}(t: [Value.string s][j]? =some v): w.cell? ((⟨g,o,none⟩:Addr).add j)=some v:=by
 rcases j with _ | j
 ·simp at t;subst t;exact h
 ·simp at t
set_option maxRecDepth 100000 in
set_option maxHeartbeats 6400000 in
theorem Kt(gx ox c m:Nat)(s:ByteArray)(w:World)(hx: w.cell? ⟨gx,ox,none⟩=some (.string s))(ao:1 <= m)(hm:m <= 1000):
  Calls prog 41 #[.slice (some ⟨gx,ox,none⟩) 1 c, .int .i64 m] w fun e w'=>∃g,e= .returned (.slice (some ⟨g,0,none⟩) m m) /\ SK w' g m (fun _=>s) /\ w.heap.size <= g /\ Below w.heap.size w w':=by
 have HX:=lH hx;have aB:((m:Nat):Int) <= 1000:=oM
 have aD:(0:Int)<((m:Nat):Int):=oM
 have aA:decide (((m:Nat):Int)<0)=false:=decide_eq_false oM;obtain⟨iN,ar,aF,aG,aH⟩:=info_parts Ho;clear hx;go_enter func41,ntmps41;go_wp2_with fail
 have a5:=Tryz.bits_Mul 1 m dC oM w;rw[show 1*m / 18446744073709551616=0 by omega,show 1*m%18446744073709551616=m by omega] at a5;refine a5.mono ?_;rintro e G ⟨rfl,rfl⟩;clear a5;have ap:¬(9223372036854775807:Int)<((m:Nat):Int):=oM
 have aE:decide ((9223372036854775807:Int)<((m:Nat):Int))=false:=decide_eq_false ap;have aC:decide (9223372036854775807<m)=false:=decide_eq_false oM
 go_wp2_with (at_make;refine AJ G rfl (.tmp 29) (.tmp 29) rfl _ _ m rfl rfl rfl rfl oM ?_)
 intro w2 aq ab _;obtain⟨L0,aj,ag,_⟩:=aq;have F:=lH aj;have T:=lH ag;have M:=lH ab;have aa:=lH (cell_below M.o HX.o);obtain⟨E,af⟩:=eX (G.heap.size);have Z:Hid (G.heap.size <= E):=lH oM;rw[<- af] at F ⊢;clear ab aj ag af;obtain⟨w3,an,ah,ad⟩:=KJ (P:=prog) w2 22 22 3 30 underlying22 kR E 0 m m ⟨gx,ox,none⟩ 1 c L0 30 F.o [.string s] (by show 1=min 1 m;omega) (fun j v t=>KL aa.o t) (by have:=T.o;show 0+1 <= L0.length;omega) (fun v hv=>by rw[List.mem_singleton.1 hv];rfl);have ac:=M.o.trans (ad.mono Z.o);clear ad;obtain⟨L1,a2⟩:=eX (splice L0 0 [Value.string s]);have a0:Hid (m <= L1.length /\ L1[0]? =some (.string s)):=lH (by rw[a2,length_splice _ _ _ (by have:=T.o;simp;omega)];exact⟨T.o,by simp[splice]⟩);have a8:Hid (Row w3 E 30 L1):=lH (by rw[a2];exact ah);have a7:=lH ac;clear ah ac a2 F M T aa;go_wp2_with fail
 clear an
 go_loopw [8] (fun iv wr=>∃ (k:Nat) (L:List Value),1 <= k /\ k <= m /\ iv= .int .i64 k /\ Hid (Row wr E 30 L) /\ Hid (m <= L.length) /\ Hid (∀j,j<k -> L[j]? =some (.string s)) /\ Below G.heap.size G wr) (fun iv _=>m-(intOf iv).toNat)
 case atStart=>exact⟨1,_,Nat.le_refl _,ao,rfl,a8,lH a0.o.1,lH (fun j t=>by rw[show j=0 by omega];exact a0.o.2),a7.o⟩
 case round=>
  clear a8 a7 a0;obtain⟨k,L,av,ax,rfl,hr,hl,hs,hb⟩:=hrel;have F:=lH hr.o;have O:=lH hl.o;have U:=lH hs.o;have M:=lH hb;clear hr hl hs hb;by_cases az:((k:Nat):Int)<((m:Nat):Int)
  ·have ay:k<m:=oM
   have au:(0:Int) <= ((k:Nat):Int):=oM
   have aw:((k:Nat):Int) <= ((m:Nat):Int):=oM
   go_wp2_with fail
   refine kT (fun _=>True) (fun _=>false) kR ?_;refine jf (i:=0) (v:= ?_) (some 38) rfl (by rfl) kR kR kR kR (fun _ _ _ h=>h) (Or.inl ⟨by rfl,?_⟩) trivial ?_;rotate_left
   ·(intro w' _;go_simp;try with_reducible rfl)
   simp only[Act.put,List.setIfInBounds_toArray,List.set_cons_zero,List.set_cons_succ];refine jf (i:=1) (v:= ?_) (some 39) rfl (by rfl) kR kR kR kR (fun _ _ _ h=>h) (Or.inl ⟨by rfl,?_⟩) trivial ?_;rotate_left
   ·(intro w' _;go_simp;try with_reducible rfl)
   simp only[Act.put,List.setIfInBounds_toArray,List.set_cons_zero,List.set_cons_succ];refine jf (i:=2) (v:= ?_) (some 40) rfl (by rfl) kR kR kR kR (fun _ _ _ h=>h) (Or.inl ⟨by rfl,?_⟩) trivial ?_;rotate_left
   ·(intro w' _;go_simp;try with_reducible rfl)
   simp only[Act.put,List.setIfInBounds_toArray,List.set_cons_zero,List.set_cons_succ];refine jf (i:=3) (v:= .slice (some ⟨E,k,none⟩) (m-k) (m-k)) (some 41) rfl (by rfl) kR kR kR kR (fun _ _ _ h=>h) (Or.inl ⟨by rfl,?_⟩) trivial ?_
   ·(intro w' _;go_simp;try omega)
   simp only[Act.put,List.setIfInBounds_toArray,List.set_cons_zero,List.set_cons_succ];refine jf (i:=4) (v:= ?_) (some 42) rfl (by rfl) kR kR kR kR (fun _ _ _ h=>h) (Or.inl ⟨by rfl,?_⟩) trivial ?_;rotate_left
   ·(intro w' _;go_simp;try with_reducible rfl)
   simp only[Act.put,List.setIfInBounds_toArray,List.set_cons_zero,List.set_cons_succ];refine jf (i:=5) (v:= ?_) (some 43) rfl (by rfl) kR kR kR kR (fun _ _ _ h=>h) (Or.inl ⟨by rfl,?_⟩) trivial ?_;rotate_left
   ·(intro w' _;go_simp;try with_reducible rfl)
   simp only[Act.put,List.setIfInBounds_toArray,List.set_cons_zero,List.set_cons_succ];refine jf (i:=6) (v:= .slice (some ⟨E,0,none⟩) k m) (some 44) rfl (by rfl) kR kR kR kR (fun _ _ _ h=>h) (Or.inl ⟨by rfl,?_⟩) trivial ?_
   ·(intro w' _;go_simp;try omega)
   simp only[Act.put,List.setIfInBounds_toArray,List.set_cons_zero,List.set_cons_succ];obtain⟨cs,a4⟩:=eX (L.take (min k (m-k)));have a3:cs.length=min k (m-k):=by have:=O.o;rw[a4,List.length_take];omega
   have Y:Hid (∀ (j:Nat) (v:Value),cs[j]? =some v -> v=Value.string s /\ L[j]? =some v):=lH (fun j v t=>by
    have h1:=(List.getElem?_eq_some_iff.1 t).1;rw[a3] at h1;rw[a4,List.getElem?_take_of_lt h1] at t;rw[U.o j oM] at t
    exact⟨by simpa using t.symm,by rw[U.o j oM];exact t⟩)
   have R:=lH a3;clear a4 a3;refine rD 7 (fun K hK=> ?_);refine step_copy_splice rfl (.tmp 41) (.tmp 44) 22 22 rfl 30 underlying22 kR _ _ (m-k) (m-k) k m rfl rfl E k L 30 F.o cs (by rw[R.o]) (fun _=>⟨rfl,_,rfl,fun j v t=>by rw[add0];exact F.o.at_ j (Y.o j v t).2⟩) (by have:=R.o;have:=O.o;omega) (fun v hv=>by obtain⟨j,t⟩:=List.getElem?_of_mem hv;rw[(Y.o j v t).1];rfl) G.heap.size G M.o.drew Z.o ?_;intro w4 ai ae;show K (Act.put _ (some 45) _) w4;have am:Hid (Row w4 E 30 (splice L k cs)):=ai;have al:Hid (m <= (splice L k cs).length):=lH (by rw[length_splice _ _ _ (by have:=R.o;have:=O.o;omega)];exact O.o)
   have a9:Hid (∀j,j<k+cs.length -> (splice L k cs)[j]? =some (.string s)):=lH (fun j t=>by
    have hl:=O.o;by_cases e:j<k
    ·unfold splice;rw[List.getElem?_append_left (by rw[List.length_take];omega),List.getElem?_take_of_lt e];exact U.o j e
    ·have h1:j-k<cs.length:=oM
     have h2:cs[j-k]? =some cs[j-k]:=List.getElem?_eq_getElem h1;unfold splice
     rw[List.getElem?_append_right (by rw[List.length_take];omega),List.length_take,show j-min k L.length=j-k by omega,List.getElem?_append_left h1,h2,(Y.o _ _ h2).1])
   have ak:=lH ae;obtain⟨X,a6⟩:=eX (cs.length);have a1:Hid (0<X /\ k+X <= m):=lH (by rw[a6,R.o];omega);rw[<- a6] at a9 ⊢;clear ai ae a6;refine hK.out _ _ (fun _=>trivial) ?_;clear hK K;simp only[Act.put,List.setIfInBounds_toArray,List.set_cons_zero,List.set_cons_succ];refine jf (i:=8) (v:= .int .i64 ((k+X:Nat):Int)) (some 46) rfl (by rfl) kR kR kR kR (fun _ _ _ h=>h) (Or.inl ⟨by rfl,?_⟩) trivial ?_
   ·(intro w' _;have:=a1.o;go_simp;rw[IntWalk.i64_in _ oM])
   simp only[Act.put,List.setIfInBounds_toArray,List.set_cons_zero,List.set_cons_succ];refine jf (i:=9) (v:= ?_) (some 8) rfl (by rfl) kR kR kR kR (fun _ _ _ h=>h) (Or.inl ⟨by rfl,?_⟩) trivial ?_;rotate_left
   ·(intro w' _;go_simp;try with_reducible rfl)
   simp only[Act.put,List.setIfInBounds_toArray,List.set_cons_zero,List.set_cons_succ];refine dN ?_ _;go_wp2_with fail
   go_roundw
   case rel=>exact⟨k+X,_,by omega,a1.o.2,rfl,am,al,a9,ak.o⟩
   case measure=>have:=a1.o;simp[intOf];omega
  ·obtain rfl:k=m:=oM
   go_wp2_with fail
   go_returns;exact⟨E,rfl,⟨L,F.o,O.o,U.o⟩,Z.o,M.o⟩
end
section
open Go.RowKit
open Lp (RL upd eu eB sumTo sumTo_congr)
theorem Ko(a b:Nat)(f:Nat -> Rat):sumTo (a+b) f=sumTo a f+sumTo b (fun i=>f (a+i)):=by
 induction b with
 | zero=>simp only[Nat.add_zero,sumTo];grind
 | succ b h=>rw[<- Nat.add_assoc];simp only[sumTo];rw[h];grind
def rot(m k i:Nat):Nat:=if i<m-k then i+k else i-(m-k)
theorem Kv{m k:Nat}(G:k <= m)(g:Nat -> Rat):sumTo m (fun i=>g (rot m k i))=sumTo m g:=by
 have h1:sumTo m (fun i=>g (rot m k i))=sumTo ((m-k)+k) (fun i=>g (rot m k i)):=by rw[show m-k+k=m by omega]
 have t:sumTo m g=sumTo (k+ (m-k)) g:=by rw[show k+ (m-k)=m by omega]
 rw[h1,t,Ko,Ko];have E:sumTo (m-k) (fun i=>g (rot m k i))=sumTo (m-k) (fun i=>g (k+i)):=sumTo_congr fun i h=>by unfold rot;rw[if_pos h,Nat.add_comm]
 have F:sumTo k (fun i=>g (rot m k (m-k+i)))=sumTo k g:=sumTo_congr fun i h=>by unfold rot;rw[if_neg oM,show m-k+i-(m-k)=i by omega]
 rw[E,F];grind
theorem Kr{m k i:Nat}(t:k <= m)(h:i<m):rot m k i<m:=by unfold rot;split <;> omega
def del(k i:Nat):Nat:=if i<k then i else i+1
theorem KU{m k:Nat}(M:k<m)(g:Nat -> Rat):sumTo m g=sumTo (m-1) (fun i=>g (del k i))+g k:=by
 have h1:sumTo m g=sumTo (k+ (1+ (m-1-k))) g:=by rw[show k+ (1+ (m-1-k))=m by omega]
 have t:sumTo (m-1) (fun i=>g (del k i))=sumTo (k+ (m-1-k)) (fun i=>g (del k i)):=by rw[show k+ (m-1-k)=m-1 by omega]
 rw[h1,t,Ko,Ko,Ko];have E:sumTo k (fun i=>g (del k i))=sumTo k g:=sumTo_congr fun i h=>by unfold del;rw[if_pos h]
 have F:sumTo (m-1-k) (fun i=>g (del k (k+i)))=sumTo (m-1-k) (fun i=>g (k+ (1+i))):=sumTo_congr fun i h=>by unfold del;rw[if_neg oM,show k+i+1=k+ (1+i) by omega]
 have G:sumTo 1 (fun i=>g (k+i))=g k:=by simp only[sumTo,Nat.add_zero];grind
 rw[E,F,G];grind
section
variable {m n k:Nat} {kk kk':Int} {A:Nat -> Nat -> Rat} {b c x y d x' y' d':Nat -> Rat} {q q' f:Rat}
theorem KM(G:1 <= kk /\ kk <= 3)(M:1 <= kk' /\ kk' <= 3)(h:kI m n kk A b c q x y d)(t:kI m n kk' A b c q' x' y' d'):kk=kk' /\ (kk=1 -> q=q'):=by
 have E:kk=1 \/ kk=2 \/ kk=3:=oM
 have F:kk'=1 \/ kk'=2 \/ kk'=3:=oM
 rcases E with e | e | e <;> rcases F with e' | e' | e'
 ·exact⟨by omega,fun _=>(h.1 e).eq (t.1 e')⟩
 ·exact((t.2.1 e').no (h.1 e).holds).elim
 ·exact((t.2.2 e').no (h.1 e)).elim
 ·exact((h.2.1 e).no (t.1 e').holds).elim
 ·exact⟨by omega,fun _=>by omega⟩
 ·exact((h.2.1 e).no (t.2.2 e').holds).elim
 ·exact((h.2.2 e).no (t.1 e')).elim
 ·exact((t.2.1 e').no (h.2.2 e).holds).elim
 ·exact⟨by omega,fun _=>by omega⟩
def scA(k:Nat)(f:Rat)(A:Nat -> Nat -> Rat)(i j:Nat):Rat:=if i=k then A i j*f else A i j
def scB(k:Nat)(f:Rat)(b:Nat -> Rat)(i:Nat):Rat:=if i=k then b i*f else b i
def scY(k:Nat)(f:Rat)(y:Nat -> Rat)(i:Nat):Rat:=if i=k then y i / f else y i
theorem Kw(h:f≠0)(g:Nat -> Rat):eB m (scY k f y) (scB k f g)=eB m y g:=sumTo_congr fun i _=>by
 unfold scY scB;by_cases e:i=k
 ·rw[if_pos e,if_pos e,Rat.div_def];have:=Rat.mul_inv_cancel f h;grind
 ·rw[if_neg e,if_neg e]
theorem Ky(i:Nat)(x:Nat -> Rat):eB n (scA k f A i) x=if i=k then eB n (A i) x*f else eB n (A i) x:=by
 by_cases e:i=k
 ·rw[if_pos e,show eB n (A i) x*f=f*sumTo n (fun j=>A i j*x j) by unfold eB;grind, <- Lp.mR];exact sumTo_congr fun j _=>by unfold scA;rw[if_pos e];grind
 ·rw[if_neg e];exact sumTo_congr fun j _=>by unfold scA;rw[if_neg e]
theorem Kz(t:0<f)(h:Lp.jC m n A b x):Lp.jC m n (scA k f A) (scB k f b) x:=fun i E=>by
 rw[Ky];have:=h i E;unfold scB;split
 ·exact Rat.mul_le_mul_of_nonneg_right this (Rat.le_of_lt t)
 ·exact this
theorem KA(E:0<f)(h:Lp.jc m n A y c):Lp.jc m n (scA k f A) (scY k f y) c:=by
 have F:f≠0:=by grind
 refine⟨fun i t=> ?_,fun j G=> ?_⟩
 ·unfold scY;split
  ·rw[Rat.div_def];exact Rat.mul_nonneg (h.pos i t) (Rat.le_of_lt (Rat.inv_pos.2 E))
  ·exact h.pos i t
 ·have e:(fun i=>scA k f A i j)=scB k f (fun i=>A i j):=rfl;rw[e,Kw F];exact h.sum j G
theorem KV(t:0<f)(h:kI m n kk A b c q x y d):kI m n kk (scA k f A) (scB k f b) c q x (scY k f y) d:=by
 have E:f≠0:=by grind
 refine⟨fun e=> ?_,fun e=> ?_,fun e=> ?_⟩
 ·have h:=h.1 e;exact⟨KA t h.du,by rw[Kw E];exact h.bound,Kz t h.holds,h.value⟩
 ·have h:=h.2.1 e;exact⟨KA t h.du,by rw[Kw E];exact h.bound⟩
 ·have h:=h.2.2 e;refine⟨Kz t h.holds,fun i F=> ?_,h.up⟩;rw[Ky];split
  ·have h1:=Rat.mul_le_mul_of_nonneg_right (h.ray i F) (Rat.le_of_lt t);rw[Rat.zero_mul] at h1;exact h1
  ·exact h.ray i F
theorem KW(E:k <= m)(h:kI m n kk A b c q x y d):kI m n kk (fun i=>A (rot m k i)) (fun i=>b (rot m k i)) c q x (fun i=>y (rot m k i)) d:=by
 have O:∀ (y:Nat -> Rat),Lp.jc m n A y c -> Lp.jc m n (fun i=>A (rot m k i)) (fun i=>y (rot m k i)) c:=fun y h=>⟨fun i t=>h.pos _ (Kr E t),fun j F=>by
  rw[<- h.sum j F];exact Kv E (fun i=>y i*A i j)⟩
 have G:∀y,eB m (fun i=>y (rot m k i)) (fun i=>b (rot m k i))=eB m y b:=fun y=>Kv E (fun i=>y i*b i)
 refine⟨fun e=> ?_,fun e=> ?_,fun e=> ?_⟩
 ·have h:=h.1 e;exact⟨O _ h.du,by rw[G];exact h.bound,fun i t=>h.holds _ (Kr E t),h.value⟩
 ·have h:=h.2.1 e;refine⟨⟨fun i t=>h.du.pos _ (Kr E t),fun j F=> ?_⟩,by rw[G];exact h.bound⟩;have M:=h.du.sum j F;rw[<- M];exact Kv E (fun i=>y i*A i j)
 ·have h:=h.2.2 e;exact⟨fun i t=>h.holds _ (Kr E t),fun i t=>h.ray _ (Kr E t),h.up⟩
theorem KX(R:k<m)(T:1 <= kk /\ kk <= 3)(h:kI m n kk A b c q x y d)(M:kI (m-1) n kk' (fun i=>A (del k i)) (fun i=>b (del k i)) c q' x' y' d'):
  (kk'=2 -> kk=2) /\ (kk'=1 -> kk=2 \/ (kk=1 /\ q <= q')):=by
 have G:∀i,i<m-1 -> del k i<m:=fun i F=>by unfold del;split <;> omega
 have sub:∀ {x},Lp.jC m n A b x -> Lp.jC (m-1) n (fun i=>A (del k i)) (fun i=>b (del k i)) x:=fun h i F=>h _ (G i F)
 refine⟨fun e=> ?_,fun e=> ?_⟩
 ·have h1:=M.2.1 e;have t:kk=1 \/ kk=2 \/ kk=3:=oM
  rcases t with t | t | t
  ·exact(h1.no (sub (h.1 t).holds)).elim
  ·exact t
  ·exact(h1.no (sub (h.2.2 t).holds)).elim
 ·have h1:=M.1 e;have t:kk=1 \/ kk=2 \/ kk=3:=oM
  rcases t with t | t | t
  ·have E:=h.1 t;have O:=h1.le (sub E.holds);rw[E.value] at O;exact .inr ⟨t,O⟩
  ·exact .inl t
  ·have E:=h.2.2 t;exact(Lp.Unb.no ⟨sub E.holds,fun i F=>E.ray _ (G i F),E.up⟩ h1).elim
end
end
end Go.Proofs.YtdefghfjhgmpfaaGreatDoor
