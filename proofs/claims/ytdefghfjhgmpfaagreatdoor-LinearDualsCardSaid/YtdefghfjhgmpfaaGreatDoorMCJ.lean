/- Parts of this proof: Repeat MoveM. -/
import Derived.Test.YtdefghfjhgmpfaaGreatDoorMAE
import Derived.Test.YtdefghfjhgmpfaaGreatDoorMAV
import Derived.Test.YtdefghfjhgmpfaaGreatDoorMCI
import Derived.Laws.CopyOwn
import Derived.Test.YtdefghfjhgmpfaaGreatDoorMAZ
namespace Go.Proofs.YtdefghfjhgmpfaaGreatDoor
open Go.Proofs.Tryz
section
open Go.RowKit
open Lp (RL upd eu)
theorem KJ{P:Program}(w:World)(r O ty C:TypeId)(W:P.underlying r=some (.slice C))(U:(P.info? C).map (·.size)=some 1)(g o h F:Nat)(a:Addr)(E M:Nat)(L:List Value)(t:TypeId)(G:Row w g t L)(cs:List Value)(T:cs.length=Nat.min E h)
  (V:∀ (j:Nat) v,cs[j]? =some v -> w.cell? (a.add j)=some v) (R:o+cs.length <= L.length) (h1:∀v ∈ cs,v.oneCell'=true):
  ∃w',(Builtin.copy_ #[r,O] ty #[.slice (some ⟨g,o,none⟩) h F, .slice (some a) E M]).run P w= .ok (goInt cs.length) w' /\ Row w' g t (splice L o cs) /\ Below g w w':=by
 refine⟨_,run_copy_row (P:=P) w r O ty C g o h F a E M L.toArray t cs W U G T V (by simpa using R) h1,?_,below_setRow (Below.refl _ _) (Nat.le_refl _) _⟩;show _=_
 simpa [splice] using setRow_heap w g _ _ t _ G
theorem KL{w:World}{g o:Nat}{s:ByteArray}(h: w.cell? ⟨g,o,none⟩=some (.string s)){j:Nat}{v:Value}(r: [Value.string s][j]? =some v): w.cell? ((⟨g,o,none⟩:Addr).add j)=some v:=by
 rcases j with _ | j
 ·simp at r;subst r;exact h
 ·simp at r
set_option maxRecDepth 100000 in
set_option maxHeartbeats 6400000 in
theorem Kt(gx ox c m:Nat)(s:ByteArray)(w:World)(hx: w.cell? ⟨gx,ox,none⟩=some (.string s))(am:1 <= m)(hm:m <= 1000):
  Calls prog 41 #[.slice (some ⟨gx,ox,none⟩) 1 c, .int .i64 m] w fun e w'=>∃g,e= .returned (.slice (some ⟨g,0,none⟩) m m) /\ SK w' g m (fun _=>s) /\ w.heap.size <= g /\ Below w.heap.size w w':=by
 have HX:=lH hx;have az:((m:Nat):Int) <= 1000:=oM
 have aB:(0:Int)<((m:Nat):Int):=oM
 have ay:decide (((m:Nat):Int)<0)=false:=decide_eq_false oM;obtain⟨iN,ap,aD,aE,aF⟩:=info_parts Ho;clear hx;go_enter func41,ntmps41;go_wp2_with fail
 have a3:=Tryz.bits_Mul 1 m dC oM w;rw[show 1*m / 18446744073709551616=0 by omega,show 1*m%18446744073709551616=m by omega] at a3;refine a3.mono ?_;rintro e E ⟨rfl,rfl⟩;clear a3;have an:¬(9223372036854775807:Int)<((m:Nat):Int):=oM
 have aC:decide ((9223372036854775807:Int)<((m:Nat):Int))=false:=decide_eq_false an;have aA:decide (9223372036854775807<m)=false:=decide_eq_false oM
 go_wp2_with (at_make;refine AJ E rfl (.tmp 29) (.tmp 29) rfl _ _ m rfl rfl rfl rfl oM ?_)
 intro w2 ao a9 _;obtain⟨Y,ah,ae,_⟩:=ao;have C:=lH ah;have O:=lH ae;have F:=lH a9;have a8:=lH (cell_below F.o HX.o);obtain⟨t,ad⟩:=eX (E.heap.size);have V:Hid (E.heap.size <= t):=lH oM;rw[<- ad] at C ⊢;clear a9 ah ae ad;obtain⟨w3,al,af,ab⟩:=KJ (P:=prog) w2 22 22 3 30 underlying22 kR t 0 m m ⟨gx,ox,none⟩ 1 c Y 30 C.o [.string s] (by show 1=min 1 m;omega) (fun j v r=>KL a8.o r) (by have:=O.o;show 0+1 <= Y.length;omega) (fun v hv=>by rw[List.mem_singleton.1 hv];rfl);have aa:=F.o.trans (ab.mono V.o);clear ab;obtain⟨Z,a0⟩:=eX (splice Y 0 [Value.string s]);have W:Hid (m <= Z.length /\ Z[0]? =some (.string s)):=lH (by rw[a0,length_splice _ _ _ (by have:=O.o;simp;omega)];exact⟨O.o,by simp[splice]⟩);have a6:Hid (Row w3 t 30 Z):=lH (by rw[a0];exact af);have a5:=lH aa;clear af aa a0 C F O a8;go_wp2_with fail
 clear al
 go_loopw [8] (fun iv wr=>∃ (k:Nat) (L:List Value),1 <= k /\ k <= m /\ iv= .int .i64 k /\ Hid (Row wr t 30 L) /\ Hid (m <= L.length) /\ Hid (∀j,j<k -> L[j]? =some (.string s)) /\ Below E.heap.size E wr) (fun iv _=>m-(intOf iv).toNat)
 case atStart=>exact⟨1,_,Nat.le_refl _,am,rfl,a6,lH W.o.1,lH (fun j r=>by rw[show j=0 by omega];exact W.o.2),a5.o⟩
 case round=>
  clear a6 a5 W;obtain⟨k,L,ar,av,rfl,hr,hl,hs,hb⟩:=hrel;have C:=lH hr.o;have G:=lH hl.o;have R:=lH hs.o;have F:=lH hb;clear hr hl hs hb;by_cases ax:((k:Nat):Int)<((m:Nat):Int)
  ·have aw:k<m:=oM
   have aq:(0:Int) <= ((k:Nat):Int):=oM
   have au:((k:Nat):Int) <= ((m:Nat):Int):=oM
   go_wp2_with fail
   refine kT (fun _=>True) (fun _=>false) kR ?_;refine jf (i:=0) (v:= ?_) (some 38) rfl (by rfl) kR kR kR kR (fun _ _ _ h=>h) (Or.inl ⟨by rfl,?_⟩) trivial ?_;rotate_left
   ·(intro w' _;go_simp;try with_reducible rfl)
   simp only[Act.put,List.setIfInBounds_toArray,List.set_cons_zero,List.set_cons_succ];refine jf (i:=1) (v:= ?_) (some 39) rfl (by rfl) kR kR kR kR (fun _ _ _ h=>h) (Or.inl ⟨by rfl,?_⟩) trivial ?_;rotate_left
   ·(intro w' _;go_simp;try with_reducible rfl)
   simp only[Act.put,List.setIfInBounds_toArray,List.set_cons_zero,List.set_cons_succ];refine jf (i:=2) (v:= ?_) (some 40) rfl (by rfl) kR kR kR kR (fun _ _ _ h=>h) (Or.inl ⟨by rfl,?_⟩) trivial ?_;rotate_left
   ·(intro w' _;go_simp;try with_reducible rfl)
   simp only[Act.put,List.setIfInBounds_toArray,List.set_cons_zero,List.set_cons_succ];refine jf (i:=3) (v:= .slice (some ⟨t,k,none⟩) (m-k) (m-k)) (some 41) rfl (by rfl) kR kR kR kR (fun _ _ _ h=>h) (Or.inl ⟨by rfl,?_⟩) trivial ?_
   ·(intro w' _;go_simp;try omega)
   simp only[Act.put,List.setIfInBounds_toArray,List.set_cons_zero,List.set_cons_succ];refine jf (i:=4) (v:= ?_) (some 42) rfl (by rfl) kR kR kR kR (fun _ _ _ h=>h) (Or.inl ⟨by rfl,?_⟩) trivial ?_;rotate_left
   ·(intro w' _;go_simp;try with_reducible rfl)
   simp only[Act.put,List.setIfInBounds_toArray,List.set_cons_zero,List.set_cons_succ];refine jf (i:=5) (v:= ?_) (some 43) rfl (by rfl) kR kR kR kR (fun _ _ _ h=>h) (Or.inl ⟨by rfl,?_⟩) trivial ?_;rotate_left
   ·(intro w' _;go_simp;try with_reducible rfl)
   simp only[Act.put,List.setIfInBounds_toArray,List.set_cons_zero,List.set_cons_succ];refine jf (i:=6) (v:= .slice (some ⟨t,0,none⟩) k m) (some 44) rfl (by rfl) kR kR kR kR (fun _ _ _ h=>h) (Or.inl ⟨by rfl,?_⟩) trivial ?_
   ·(intro w' _;go_simp;try omega)
   simp only[Act.put,List.setIfInBounds_toArray,List.set_cons_zero,List.set_cons_succ];obtain⟨cs,a2⟩:=eX (L.take (min k (m-k)));have a1:cs.length=min k (m-k):=by have:=G.o;rw[a2,List.length_take];omega
   have U:Hid (∀ (j:Nat) (v:Value),cs[j]? =some v -> v=Value.string s /\ L[j]? =some v):=lH (fun j v r=>by
    have h1:=(List.getElem?_eq_some_iff.1 r).1;rw[a1] at h1;rw[a2,List.getElem?_take_of_lt h1] at r;rw[R.o j oM] at r
    exact⟨by simpa using r.symm,by rw[R.o j oM];exact r⟩)
   have M:=lH a1;clear a2 a1;refine rD 7 (fun K hK=> ?_);refine step_copy_splice rfl (.tmp 41) (.tmp 44) 22 22 rfl 30 underlying22 kR _ _ (m-k) (m-k) k m rfl rfl t k L 30 C.o cs (by rw[M.o]) (fun _=>⟨rfl,_,rfl,fun j v r=>by rw[add0];exact C.o.at_ j (U.o j v r).2⟩) (by have:=M.o;have:=G.o;omega) (fun v hv=>by obtain⟨j,r⟩:=List.getElem?_of_mem hv;rw[(U.o j v r).1];rfl) E.heap.size E F.o.drew V.o ?_;intro w4 ag ac;show K (Act.put _ (some 45) _) w4;have ak:Hid (Row w4 t 30 (splice L k cs)):=ag;have aj:Hid (m <= (splice L k cs).length):=lH (by rw[length_splice _ _ _ (by have:=M.o;have:=G.o;omega)];exact G.o)
   have a7:Hid (∀j,j<k+cs.length -> (splice L k cs)[j]? =some (.string s)):=lH (fun j r=>by
    have hl:=G.o;by_cases e:j<k
    ·unfold splice;rw[List.getElem?_append_left (by rw[List.length_take];omega),List.getElem?_take_of_lt e];exact R.o j e
    ·have h1:j-k<cs.length:=oM
     have h2:cs[j-k]? =some cs[j-k]:=List.getElem?_eq_getElem h1;unfold splice
     rw[List.getElem?_append_right (by rw[List.length_take];omega),List.length_take,show j-min k L.length=j-k by omega,List.getElem?_append_left h1,h2,(U.o _ _ h2).1])
   have ai:=lH ac;obtain⟨T,a4⟩:=eX (cs.length);have X:Hid (0<T /\ k+T <= m):=lH (by rw[a4,M.o];omega);rw[<- a4] at a7 ⊢;clear ag ac a4;refine hK.out _ _ (fun _=>trivial) ?_;clear hK K;simp only[Act.put,List.setIfInBounds_toArray,List.set_cons_zero,List.set_cons_succ];refine jf (i:=8) (v:= .int .i64 ((k+T:Nat):Int)) (some 46) rfl (by rfl) kR kR kR kR (fun _ _ _ h=>h) (Or.inl ⟨by rfl,?_⟩) trivial ?_
   ·(intro w' _;have:=X.o;go_simp;rw[IntWalk.i64_in _ oM])
   simp only[Act.put,List.setIfInBounds_toArray,List.set_cons_zero,List.set_cons_succ];refine jf (i:=9) (v:= ?_) (some 8) rfl (by rfl) kR kR kR kR (fun _ _ _ h=>h) (Or.inl ⟨by rfl,?_⟩) trivial ?_;rotate_left
   ·(intro w' _;go_simp;try with_reducible rfl)
   simp only[Act.put,List.setIfInBounds_toArray,List.set_cons_zero,List.set_cons_succ];refine dN ?_ _;go_wp2_with fail
   go_roundw
   case rel=>exact⟨k+T,_,by omega,X.o.2,rfl,ak,aj,a7,ai.o⟩
   case measure=>have:=X.o;simp[intOf];omega
  ·obtain rfl:k=m:=oM
   go_wp2_with fail
   go_returns;exact⟨t,rfl,⟨L,C.o,G.o,R.o⟩,V.o,F.o⟩
end
section
open Go.RowKit
open Lp (RL upd eu eB sumTo sumTo_congr)
theorem Ko(a b:Nat)(f:Nat -> Rat):sumTo (a+b) f=sumTo a f+sumTo b (fun i=>f (a+i)):=by
 induction b with
 | zero=>simp only[Nat.add_zero,sumTo];grind
 | succ b h=>rw[<- Nat.add_assoc];simp only[sumTo];rw[h];grind
def rot(m k i:Nat):Nat:=if i<m-k then i+k else i-(m-k)
theorem Kv{m k:Nat}(E:k <= m)(g:Nat -> Rat):sumTo m (fun i=>g (rot m k i))=sumTo m g:=by
 have h1:sumTo m (fun i=>g (rot m k i))=sumTo ((m-k)+k) (fun i=>g (rot m k i)):=by rw[show m-k+k=m by omega]
 have r:sumTo m g=sumTo (k+ (m-k)) g:=by rw[show k+ (m-k)=m by omega]
 rw[h1,r,Ko,Ko];have t:sumTo (m-k) (fun i=>g (rot m k i))=sumTo (m-k) (fun i=>g (k+i)):=sumTo_congr fun i h=>by unfold rot;rw[if_pos h,Nat.add_comm]
 have C:sumTo k (fun i=>g (rot m k (m-k+i)))=sumTo k g:=sumTo_congr fun i h=>by unfold rot;rw[if_neg oM,show m-k+i-(m-k)=i by omega]
 rw[t,C];grind
theorem Kr{m k i:Nat}(r:k <= m)(h:i<m):rot m k i<m:=by unfold rot;split <;> omega
def del(k i:Nat):Nat:=if i<k then i else i+1
theorem KU{m k:Nat}(F:k<m)(g:Nat -> Rat):sumTo m g=sumTo (m-1) (fun i=>g (del k i))+g k:=by
 have h1:sumTo m g=sumTo (k+ (1+ (m-1-k))) g:=by rw[show k+ (1+ (m-1-k))=m by omega]
 have r:sumTo (m-1) (fun i=>g (del k i))=sumTo (k+ (m-1-k)) (fun i=>g (del k i)):=by rw[show k+ (m-1-k)=m-1 by omega]
 rw[h1,r,Ko,Ko,Ko];have t:sumTo k (fun i=>g (del k i))=sumTo k g:=sumTo_congr fun i h=>by unfold del;rw[if_pos h]
 have C:sumTo (m-1-k) (fun i=>g (del k (k+i)))=sumTo (m-1-k) (fun i=>g (k+ (1+i))):=sumTo_congr fun i h=>by unfold del;rw[if_neg oM,show k+i+1=k+ (1+i) by omega]
 have E:sumTo 1 (fun i=>g (k+i))=g k:=by simp only[sumTo,Nat.add_zero];grind
 rw[t,C,E];grind
section
variable {m n k:Nat} {kk kk':Int} {A:Nat -> Nat -> Rat} {b c x y d x' y' d':Nat -> Rat} {q q' f:Rat}
theorem KM(E:1 <= kk /\ kk <= 3)(F:1 <= kk' /\ kk' <= 3)(h:kI m n kk A b c q x y d)(r:kI m n kk' A b c q' x' y' d'):kk=kk' /\ (kk=1 -> q=q'):=by
 have t:kk=1 \/ kk=2 \/ kk=3:=oM
 have C:kk'=1 \/ kk'=2 \/ kk'=3:=oM
 rcases t with e | e | e <;> rcases C with e' | e' | e'
 ·exact⟨by omega,fun _=>(h.1 e).eq (r.1 e')⟩
 ·exact((r.2.1 e').no (h.1 e).holds).elim
 ·exact((r.2.2 e').no (h.1 e)).elim
 ·exact((h.2.1 e).no (r.1 e').holds).elim
 ·exact⟨by omega,fun _=>by omega⟩
 ·exact((h.2.1 e).no (r.2.2 e').holds).elim
 ·exact((h.2.2 e).no (r.1 e')).elim
 ·exact((r.2.1 e').no (h.2.2 e).holds).elim
 ·exact⟨by omega,fun _=>by omega⟩
def scA(k:Nat)(f:Rat)(A:Nat -> Nat -> Rat)(i j:Nat):Rat:=if i=k then A i j*f else A i j
def scB(k:Nat)(f:Rat)(b:Nat -> Rat)(i:Nat):Rat:=if i=k then b i*f else b i
def scY(k:Nat)(f:Rat)(y:Nat -> Rat)(i:Nat):Rat:=if i=k then y i / f else y i
theorem Kw(h:f≠0)(g:Nat -> Rat):eB m (scY k f y) (scB k f g)=eB m y g:=sumTo_congr fun i _=>by
 unfold scY scB;by_cases e:i=k
 ·rw[if_pos e,if_pos e,Rat.div_def];have:=Rat.mul_inv_cancel f h;grind
 ·rw[if_neg e,if_neg e]
theorem Ky(i:Nat)(x:Nat -> Rat):eB n (scA k f A i) x=if i=k then eB n (A i) x*f else eB n (A i) x:=by
 by_cases e:i=k
 ·rw[if_pos e,show eB n (A i) x*f=f*sumTo n (fun j=>A i j*x j) by unfold eB;grind, <- Lp.mR];exact sumTo_congr fun j _=>by unfold scA;rw[if_pos e];grind
 ·rw[if_neg e];exact sumTo_congr fun j _=>by unfold scA;rw[if_neg e]
theorem Kz(r:0<f)(h:Lp.jC m n A b x):Lp.jC m n (scA k f A) (scB k f b) x:=fun i t=>by
 rw[Ky];have:=h i t;unfold scB;split
 ·exact Rat.mul_le_mul_of_nonneg_right this (Rat.le_of_lt r)
 ·exact this
theorem KA(t:0<f)(h:Lp.jc m n A y c):Lp.jc m n (scA k f A) (scY k f y) c:=by
 have C:f≠0:=by grind
 refine⟨fun i r=> ?_,fun j E=> ?_⟩
 ·unfold scY;split
  ·rw[Rat.div_def];exact Rat.mul_nonneg (h.pos i r) (Rat.le_of_lt (Rat.inv_pos.2 t))
  ·exact h.pos i r
 ·have e:(fun i=>scA k f A i j)=scB k f (fun i=>A i j):=rfl;rw[e,Kw C];exact h.sum j E
theorem KV(r:0<f)(h:kI m n kk A b c q x y d):kI m n kk (scA k f A) (scB k f b) c q x (scY k f y) d:=by
 have t:f≠0:=by grind
 refine⟨fun e=> ?_,fun e=> ?_,fun e=> ?_⟩
 ·have h:=h.1 e;exact⟨KA r h.du,by rw[Kw t];exact h.bound,Kz r h.holds,h.value⟩
 ·have h:=h.2.1 e;exact⟨KA r h.du,by rw[Kw t];exact h.bound⟩
 ·have h:=h.2.2 e;refine⟨Kz r h.holds,fun i C=> ?_,h.up⟩;rw[Ky];split
  ·have h1:=Rat.mul_le_mul_of_nonneg_right (h.ray i C) (Rat.le_of_lt r);rw[Rat.zero_mul] at h1;exact h1
  ·exact h.ray i C
theorem KW(t:k <= m)(h:kI m n kk A b c q x y d):kI m n kk (fun i=>A (rot m k i)) (fun i=>b (rot m k i)) c q x (fun i=>y (rot m k i)) d:=by
 have G:∀ (y:Nat -> Rat),Lp.jc m n A y c -> Lp.jc m n (fun i=>A (rot m k i)) (fun i=>y (rot m k i)) c:=fun y h=>⟨fun i r=>h.pos _ (Kr t r),fun j C=>by
  rw[<- h.sum j C];exact Kv t (fun i=>y i*A i j)⟩
 have E:∀y,eB m (fun i=>y (rot m k i)) (fun i=>b (rot m k i))=eB m y b:=fun y=>Kv t (fun i=>y i*b i)
 refine⟨fun e=> ?_,fun e=> ?_,fun e=> ?_⟩
 ·have h:=h.1 e;exact⟨G _ h.du,by rw[E];exact h.bound,fun i r=>h.holds _ (Kr t r),h.value⟩
 ·have h:=h.2.1 e;refine⟨⟨fun i r=>h.du.pos _ (Kr t r),fun j C=> ?_⟩,by rw[E];exact h.bound⟩;have F:=h.du.sum j C;rw[<- F];exact Kv t (fun i=>y i*A i j)
 ·have h:=h.2.2 e;exact⟨fun i r=>h.holds _ (Kr t r),fun i r=>h.ray _ (Kr t r),h.up⟩
theorem KX(M:k<m)(O:1 <= kk /\ kk <= 3)(h:kI m n kk A b c q x y d)(F:kI (m-1) n kk' (fun i=>A (del k i)) (fun i=>b (del k i)) c q' x' y' d'):
  (kk'=2 -> kk=2) /\ (kk'=1 -> kk=2 \/ (kk=1 /\ q <= q')):=by
 have E:∀i,i<m-1 -> del k i<m:=fun i C=>by unfold del;split <;> omega
 have sub:∀ {x},Lp.jC m n A b x -> Lp.jC (m-1) n (fun i=>A (del k i)) (fun i=>b (del k i)) x:=fun h i C=>h _ (E i C)
 refine⟨fun e=> ?_,fun e=> ?_⟩
 ·have h1:=F.2.1 e;have r:kk=1 \/ kk=2 \/ kk=3:=oM
  rcases r with r | r | r
  ·exact(h1.no (sub (h.1 r).holds)).elim
  ·exact r
  ·exact(h1.no (sub (h.2.2 r).holds)).elim
 ·have h1:=F.1 e;have r:kk=1 \/ kk=2 \/ kk=3:=oM
  rcases r with r | r | r
  ·have t:=h.1 r;have G:=h1.le (sub t.holds);rw[t.value] at G;exact .inr ⟨r,G⟩
  ·exact .inl r
  ·have t:=h.2.2 r;exact(Lp.Unb.no ⟨sub t.holds,fun i C=>t.ray _ (E i C),t.up⟩ h1).elim
end
end
end Go.Proofs.YtdefghfjhgmpfaaGreatDoor
