/- Parts of this proof: InnM TStrict Held4. -/
import Derived.Test.YtdefghfjhgmpfaaGreatDoorMCJ
import Derived.Test.YtdefghfjhgmpfaaGreatDoorMAE
import Derived.Test.YtdefghfjhgmpfaaGreatDoorMBM
namespace Go.Proofs.YtdefghfjhgmpfaaGreatDoor
open Go.Proofs.Tryz
section
open Go.RowKit
open Lp (RL upd eu eB sumTo sumTo_congr)
def inA(m n:Nat)(A:Nat -> Nat -> Rat)(i j:Nat):Rat:=if i<m then(if j<n then A i j else 1) else(if j<n then 0 else 1)
def inB(m:Nat)(b:Nat -> Rat)(i:Nat):Rat:=if i<m then b i else 1
def inC(n j:Nat):Rat:=if j<n then 0 else 1
section
variable {m n:Nat} {kk:Int} {A:Nat -> Nat -> Rat} {b x y d:Nat -> Rat} {q:Rat}
theorem Og{i:Nat}(h:i<m)(x:Nat -> Rat):eB (n+1) (inA m n A i) x=eB n (A i) x+x n:=by
 show sumTo n (fun k=>inA m n A i k*x k)+inA m n A i n*x n=_;have h1:sumTo n (fun k=>inA m n A i k*x k)=eB n (A i) x:=sumTo_congr fun k E=>by unfold inA;rw[if_pos h,if_pos E]
 have t:inA m n A i n=1:=by unfold inA;rw[if_pos h,if_neg oM]
 rw[h1,t];grind
theorem Oh(f x:Nat -> Rat)(h:∀j,j<n -> f j=0)(h1:f n=1):eB (n+1) f x=x n:=by
 show sumTo n (fun k=>f k*x k)+f n*x n=_;rw[Lp.iX (fun k t=>by rw[h k t];grind),h1];grind
theorem Oi(x:Nat -> Rat):eB (n+1) (inA m n A m) x=x n:=Oh _ _ (fun j h=>by unfold inA;rw[if_neg oM,if_pos h]) (by unfold inA;rw[if_neg oM,if_neg oM])
theorem Oj(x:Nat -> Rat):eB (n+1) (inC n) x=x n:=Oh _ _ (fun j h=>by unfold inC;rw[if_pos h]) (by unfold inC;rw[if_neg oM])
theorem Ow(m:Nat)(b:Nat -> Rat):∃t:Rat,t <= 1 /\ ∀i,i<m -> t <= b i:=by
 induction m with
 | zero=>exact⟨1,Rat.le_refl,fun i E=>absurd E oM⟩
 | succ m M=>
  obtain⟨t,h1,G⟩:=M;by_cases h:t <= b m
  ·exact⟨t,h1,fun i E=>by by_cases e:i=m;(· rw[e];exact h);exact G i oM⟩
  ·exact⟨b m,by grind,fun i E=>by by_cases e:i=m;(· rw[e];exact Rat.le_refl);have:=G i oM;grind⟩
theorem Ox(M:1 <= kk /\ kk <= 3)(h:kI (m+1) (n+1) kk (inA m n A) (inB m b) (inC n) q x y d):kk=1:=by
 have O:kk=1 \/ kk=2 \/ kk=3:=oM
 rcases O with e | e | e
 ·exact e
 ·obtain⟨t,h1,R⟩:=Ow m b;refine((h.2.1 e).no (x:=fun j=>if j<n then 0 else t) fun i X=> ?_).elim;by_cases G:i<m
  ·rw[Og G];have h0:eB n (A i) (fun j=>if j<n then 0 else t)=0:=Lp.iX fun k M=>by show A i k* (if k<n then 0 else t)=0;rw[if_pos M];grind
   have E:inB m b i=b i:=by unfold inB;rw[if_pos G]
   rw[h0,if_neg oM,E];have:=R i G;grind
  ·obtain rfl:i=m:=oM
   have E:inB i b i=1:=by unfold inB;rw[if_neg oM]
   rw[Oi,if_neg oM,E];exact h1
 ·have E:=h.2.2 e;have T:=E.ray m oM;have U:=E.up;rw[Oi] at T;rw[Oj] at U;grind
theorem Oy(h:Lp.Opt (m+1) (n+1) (inA m n A) (inB m b) (inC n) q x y)(M:0<q):∀i,i<m -> eB n (A i) x<b i:=fun i t=>by
 have h1:=h.value;rw[Oj] at h1;have E:=h.holds i oM;have G:inB m b i=b i:=by unfold inB;rw[if_pos t]
 rw[Og t,G] at E;grind
end
end
section
open Go.RowKit
open Lp (RL upd eu)
def Om(m n:Nat)(A:Nat -> Nat -> Rat)(b x:Nat -> Rat):Prop:=∀i,i<m -> Lp.eB n (A i) x<b i
theorem OA{a b:Rat}:0 <= jq a b↔¬a<b:=by
 unfold jq;by_cases h:a<b
 ·rw[if_pos h];exact⟨fun t=>absurd t dC,fun t=>absurd h t⟩
 ·rw[if_neg h];refine⟨fun _=>h,fun _=> ?_⟩;split <;> decide
set_option maxRecDepth 100000 in
set_option maxHeartbeats 3200000 in
theorem OC(va vr:Value)(n m:Nat)(k:Nat -> Nat)(s:Nat -> ByteArray)(t:Nat -> Nat -> ByteArray)(b:Nat -> ByteArray)(x:Nat -> Rat)(A:Nat -> Nat -> Rat)(bq:Nat -> Rat)(Ka Kb O:Nat)(w:World)(ha:TS w va n s)(hr:fZ w vr m k t b)(hs:∀j,j<n -> s j=eF (x j))(ab:∀i,i<m -> k i=n)(ht:∀i,i<m -> ∀j,j<n -> t i j=eF (A i j))(a7:∀i,i<m -> b i=eF (bq i))(an:n <= 1000000000)(ao:m <= 1000000000)(ac:∀i,i<m -> ∀j,j<n -> RL Ka (A i j))(ae:∀j,j<n -> RL Kb (x j))(ad:∀i,i<m -> RL O (bq i))(R:1+n* (Ka+Kb+1) <= O /\ Ka <= O /\ Kb <= O)(hk:4*O <= 4000000)(hz:Om m n A bq x):
  Calls prog 40 #[va,vr] w fun e w'=>e= .returned (.bool true) /\ Below w.heap.size w w':=by
 obtain⟨AX,c,rfl,_,_⟩:=ha.shape;obtain⟨AR,cR,rfl,_,_⟩:=hr.shape;have HX:=lH (ha.congr hs);have HR:=lH hr;have HT:=lH (And.intro ab (And.intro ht a7));have a3:=lH ac;have a4:=lH ae;have ag:=lH ad;have HK:=lH (And.intro R hk);have HN:=lH an;have HZ:=lH hz;clear ha hr hs ab ht a7 ac ae ad R hk hz;go_enter func40,ntmps40;go_wp2_with fail
 go_loopw [5] (fun iv wr=>∃q:Nat,q <= m /\ iv= .int .i64 q /\ Below w.heap.size w wr)
  (fun iv _=>m-(intOf iv).toNat)
 case atStart=>exact⟨0,Nat.zero_le _,rfl,Below.refl _ _⟩
 case round=>
  obtain⟨q,hq,rfl,a8⟩:=hrel;have G:=lH a8;clear a8;by_cases ap:((q:Nat):Int)<((m:Nat):Int)
  ·have T:q<m:=oM
   obtain⟨gR,oR,rfl,aa⟩:=HR.o.at_ oM;obtain⟨u,a9,a2,a1⟩:=aa q T;rw[HT.o.1 q T] at a1;rw[HT.o.2.2 q T] at a2;obtain⟨Y,y,rfl,_,_⟩:=a1.shape;have ah:=lH ((a1.congr (HT.o.2.1 q T)).below G.o);have C1:=lH (cell_below G.o a9);have C2:=lH (cell_below G.o a2);have af:Hid (RL O (Lp.eB n (A q) x)):=lH ((jy (a3.o q T) a4.o n (Nat.le_refl _)).mono HK.o.1.1);clear aa a9 a2 a1;obtain⟨zb,a0⟩:∃z:Bool,z=decide (0 <= jq (Lp.eB n (A q) x) (bq q)):=⟨_,rfl⟩
   have ai:=lH (HX.o.below G.o);go_wp2_with fail
   have M:=rG wr;have aj:=eG C1.o;have a5:=C1.o;have ak:=eG C2.o;have a6:=C2.o;have U:=lH (kC a5 (kN a6));clear aj a5 ak a6;refine rL U.o (fun i=>false) ?_;have E:=U.o _ M.o;refine tKs 0 12 E ?_;refine tKs 1 13 E ?_;refine tKs 2 14 E ?_;refine tKs 3 15 E ?_;refine tKs 4 16 E ?_;refine tKs 5 17 E ?_;refine tKs 7 19 E ?_;refine tKs 8 20 E ?_;refine tKs 9 21 E ?_;refine tKs 10 22 E ?_;refine tKs 11 23 E ?_;refine rD 6 (fun K R=> ?_);go_simp;refine(ul _ _ n n (A q) x Ka Kb O _ (by exact ah.o) (by exact ai.o) (Nat.le_refl _) HN.o (a3.o q T) a4.o HK.o.1 HK.o.2).mono ?_;rintro e w3 ⟨rfl,X⟩;have X:Below wr.heap.size wr w3:=bD X;replace G:=bT G X;replace M:=bT M X;clear E X;have E:=U.o _ M.o;refine kH R E ?_;clear R K;refine rD 12 (fun K R=> ?_);go_simp;refine(H8 (Lp.eB n (A q) x) (bq q) O _ af.o (ag.o q T) HK.o.2).mono ?_;rintro e w4 ⟨rfl,Z⟩;have Z:Below w3.heap.size w3 w4:=bD Z;replace G:=bT G Z;replace M:=bT M Z;clear E Z;have E:=U.o _ M.o;refine kH R E ?_;clear R K;refine jf (i:=13) (v:= .bool zb) (some 25) rfl (by rfl) kR kR kR kR (fun _ _ _ h=>h) (Or.inl ⟨by rfl,?_⟩) E ?_
   ·(intro w' al;clear al;go_simp;(first | done | (rw[a0];done) | (rw[a0];rfl) | (simp[a0];done)))
   simp only[Act.put,List.setIfInBounds_toArray,List.set_cons_zero,List.set_cons_succ];refine dN ?_ _;clear E U M;have am:zb=false:=a0.trans (decide_eq_false (fun h=>OA.1 h (HZ.o q T)));clear a0;subst am;go_wp2_with fail
   go_roundw
   case rel=>exact⟨q+1,by omega,by go_num,G.o⟩
   case measure=>exact mZ
  ·obtain rfl:m=q:=oM
   go_wp2_with fail
   go_returns;exact⟨rfl,G.o⟩
end
section
open Go.RowKit
theorem OO{p:Prop}(h:p):Hid p:=lH h
structure EvZ (i:Nat) (p:Prop):Prop where
 mk:: (evz:p)
theorem onZ(i:Nat){p:Prop}(h:EvZ i p):p:=h.evz
section
variable {P:Program} {ops:Array Oper} {Q:Exit -> Act -> World -> Prop} {md:Region.Mode} {S:World -> Prop} {late:Nat -> Bool} {oi:Oper} {v:Value} {fuel:Nat} {listed:Array Bool} {a b:Act} {w:World}
theorem OY(i:Nat)(d:Nat)(E:S w)(h:gF P md ops Q S late fuel (listed.setIfInBounds i true) b w)(X:(Region.ready md ops listed).contains i=true:=by decide+kernel)(U:ops[i]? =some oi:=by rfl)(Z:YieldsIf P ops S oi v a:=by exact Or.inl ⟨by rfl,by intro w' G;(try dsimp only at G);go_simp;try with_reducible rfl⟩)
  (M:a.put (some d) v=b:=by(try simp only[Act.put,List.setIfInBounds_toArray,List.set_cons_zero,List.set_cons_succ]);rfl) (O:oi.dst=some d:=by rfl)
  (Y:Region.noSelect ops=true:=by kernel_rfl) (T:Region.free md ops listed i=true:=by kernel_rfl) (R:qz md ops late listed i=true:=by decide+kernel)
  (t:∀c a w,Q (.panic c) (a.put oi.dst v) w -> Q (.panic c) a w:=by exact fun _ _ _ h=>h):gF P md ops Q S late (fuel+1) listed a w:=jf (some d) U O Y T X R t Z E (by rw[M];exact h)
theorem OZ(i:Nat)(B:List Nat)(d:Nat)(E:S w)(h:gF P md ops Q S late fuel (listed.setIfInBounds i true) b w)(X:(Region.ready md ops listed).contains i=true:=by decide+kernel)(U:ops[i]? =some oi:=by rfl)(Z:YieldsIf P ops S oi v a:=by exact Or.inl ⟨by rfl,by intro w' G;(try dsimp only at G);go_simp;try with_reducible rfl⟩)
  (M:a.put (some d) v=b:=by(try simp only[Act.put,List.setIfInBounds_toArray,List.set_cons_zero,List.set_cons_succ]);rfl) (O:oi.dst=some d:=by rfl)
  (Y:Region.noSelect ops=true:=by kernel_rfl) (T:Region.free md ops listed i=true:=by kernel_rfl) (R:uP md ops late listed i B=true:=by decide+kernel)
  (t:∀c a w,Q (.panic c) (a.put oi.dst v) w -> Q (.panic c) a w:=by exact fun _ _ _ h=>h):gF P md ops Q S late (fuel+1) listed a w:=Er B (some d) U O Y T X R t Z E (by rw[M];exact h)
theorem P5(i:Nat)(d:Nat)(h:gF P md ops Q S late fuel (listed.setIfInBounds i true) b w)(T:(Region.ready md ops listed).contains i=true:=by decide+kernel)(O:ops[i]? =some oi:=by rfl)(X:YieldsIf P ops (fun _=>True) oi v a:=by exact Or.inl ⟨by rfl,by intro w' _;go_simp;try with_reducible rfl⟩)
  (E:a.put (some d) v=b:=by(try simp only[Act.put,List.setIfInBounds_toArray,List.set_cons_zero,List.set_cons_succ]);rfl) (G:oi.dst=some d:=by rfl)
  (U:Region.noSelect ops=true:=by kernel_rfl) (M:Region.free md ops listed i=true:=by kernel_rfl) (R:late i=true:=by rfl)
  (t:∀c a w,Q (.panic c) (a.put oi.dst v) w -> Q (.panic c) a w:=by exact fun _ _ _ h=>h):gF P md ops Q S late (fuel+1) listed a w:=Eo (some d) O G U M T R t X (by rw[E];exact h)
theorem OP(rs:List Nat)(h:gG P md ops Q S late fuel listed a w rs)(E:Region.ready md ops listed=rs:=by decide+kernel)(t:rs≠ []:=by simp):gF P md ops Q S late (fuel+1) listed a w:=lw E t h
theorem OU(h:Q .normal a w)(fuel:Nat)(t:Region.ready md ops listed= []:=by decide+kernel):gF P md ops Q S late fuel listed a w:=Em t h fuel
theorem OX(i:Nat){rs:List Nat}(G:ops[i]? =some oi)(h:∀t:Act -> World -> Prop,Shut (∀a w,(late i=false -> S w) -> gF P md ops Q S late fuel (listed.setIfInBounds i true) a w -> t a w) -> EvZ i (if Region.wanted oi (yielded ops a.tmps)=true then Oper.wp P oi a w t Q else t (a.put oi.dst undef) w))
  (M:gG P md ops Q S late fuel listed a w rs):gG P md ops Q S late fuel listed a w (i::rs):=gG.cons G (fun K E=>(h K E).evz) M
theorem OV{c:Prop}{S:World -> Prop}{B K:Act -> World -> Prop}(t:Shut (∀a w,(c -> S w) -> B a w -> K a w)){a:Act}{w:World}(h:S w)(r:B a w):K a w:=t.out _ _ (fun _=>h) r
theorem OT{S:World -> Prop}{B K:Act -> World -> Prop}{c:Bool}(t:Shut (∀a w,(c=false -> S w) -> B a w -> K a w)){a:Act}{w:World}(r:B a w)(h:c=false -> False:=by intro h;simp at h):K a w:=t.out _ _ (fun e=>(h e).elim) r
end
end
end Go.Proofs.YtdefghfjhgmpfaaGreatDoor
