/- Parts of this proof: ReadM Held Held2 Held3 Sq Digits Knuth. -/
import Derived.Test.YtokagbahdkfagaaGreatDoorMAD
import Derived.Lib.IndexMore
import Derived.Lib.SlTrimSet
import Derived.Lib.Strings
import Derived.Test.YtokagbahdkfagaaGreatDoorMAC
import Derived.Deep.RegionHeld3
import Derived.Test.YtokagbahdkfagaaGreatDoorMAB
import Derived.Shelf.Strings.SlTrimAscii
namespace Go.Proofs.YtokagbahdkfagaaGreatDoor
open Tryz
section
theorem wB(l:List UInt8):(fO l= [] -> Lib.index l [47]= -1) /\ (fO l≠ [] -> Lib.index l [47]=((fM l).length:Nat)):=by
 induction l with
 | nil=>exact⟨fun _=>rfl,fun h=>absurd rfl h⟩
 | cons c l C=>
  by_cases r:c=47
  ·subst r;refine⟨fun h=> ?_,fun _=> ?_⟩
   ·simp[fO] at h
   ·simp[Lib.index,fM]
  ·have t:(c !=47)=true:=by simpa using r
   have h1:fO (c::l)=fO l:=by unfold fO;rw[List.dropWhile_cons,t];rfl
   have E:fM (c::l)=c::fM l:=by unfold fM;rw[List.takeWhile_cons,t];rfl
   have G:([47]:List UInt8).isPrefixOf (c::l)=false:=by
    simp only[List.isPrefixOf,Bool.and_true,beq_eq_false_iff_ne];exact fun e=>r e.symm
   rw[h1,E];unfold Lib.index;rw[G];refine⟨fun h=> ?_,fun h=> ?_⟩
   ·rw[C.1 h];rfl
   ·rw[C.2 h];rw[if_neg (by simp),if_neg (by simp only[beq_iff_eq];omega)];simp
theorem CU(l:List UInt8):Lib.cut l [47]=(fM l,fZ l,decide (fO l≠ [])):=by
 unfold Lib.cut;by_cases h:fO l= []
 ·rw[(wB l).1 h,if_neg (by omega),qB h];have:fZ l= []:=by unfold fZ;rw[h];rfl
  rw[this,decide_eq_false (by simpa using h)]
 ·rw[(wB l).2 h,if_pos (by omega),decide_eq_true h]
  have t:∀a b l:List UInt8,l=a++47::b -> l.take a.length=a /\ l.drop (a.length+1)=b:=by
   intro a b l e;subst e;simp
  obtain⟨h1,r⟩:=t _ _ _ (sW h);rw[Int.toNat_natCast,h1];show(fM l,l.drop ((fM l).length+1),true)=_;rw[r]
theorem CV(l:List UInt8):Lib.trimPrefix l [45]=body l:=by
 unfold Lib.trimPrefix Lib.hasPrefix body;cases l with
 | nil=>rfl
 | cons c l=>
  by_cases h:c=45
  ·subst h;simp
  ·rw[if_neg (by simp[List.isPrefixOf];exact fun e=>h e.symm),if_neg (by simpa using h)]
theorem wI{α:Type}{p:α -> Bool}{l:List α}(h:∀c ∈ l.dropWhile p,p c=true):∀c ∈ l,p c=true:=by
 induction l with
 | nil=>intro c r;cases r
 | cons a l C=>
  by_cases t:p a=true
  ·rw[List.dropWhile_cons,if_pos t] at h;intro c r
   rcases List.mem_cons.1 r with rfl | r
   ·exact t
   ·exact C h c r
  ·rw[List.dropWhile_cons,if_neg t] at h;exact absurd (h a (by simp)) t
theorem CW{α:Type}{p:α -> Bool}{l:List α}(h:∀c ∈ l,p c=true):l.dropWhile p= []:=by
 induction l with
 | nil=>rfl
 | cons a l t=>rw[List.dropWhile_cons,if_pos (h a (by simp))];exact t fun c r=>h c (by simp[r])
theorem wJ(l cs:List UInt8):Lib.trimS l cs= []↔∀c ∈ l,cs.contains c=true:=by
 unfold Lib.trimS Lib.trimLeftS Lib.trimRightS;constructor
 ·intro h;have h1:∀c ∈ (l.reverse.dropWhile (cs.contains ·)).reverse,cs.contains c=true:=wI (fun c r=>by rw[h] at r;cases r)
  have t:=wI (p:=(cs.contains ·)) (l:=l.reverse) (fun c r=>h1 c (List.mem_reverse.2 r));exact fun c r=>t c (List.mem_reverse.2 r)
 ·intro h;rw[CW (l:=l.reverse) (fun c r=>h c (List.mem_reverse.1 r))];rfl
def nZ:List UInt8:=[48,49,50,51,52,53,54,55,56,57]
theorem wK(c:UInt8):nZ.contains c=gu c:=by
 rw[Bool.eq_iff_iff,lM,List.contains_iff_mem];unfold nZ;simp only[List.mem_cons,List.not_mem_nil,or_false];constructor
 ·rintro(rfl | rfl | rfl | rfl | rfl | rfl | rfl | rfl | rfl | rfl) <;> decide
 ·intro h;have r:c.toNat=48 \/ c.toNat=49 \/ c.toNat=50 \/ c.toNat=51 \/ c.toNat=52 \/ c.toNat=53 \/ c.toNat=54 \/ c.toNat=55 \/ c.toNat=56 \/ c.toNat=57:=by omega
  have e:∀d:UInt8,c.toNat=d.toNat -> c=d:=fun d h=>UInt8.toNat_inj.1 h
  rcases r with h | h | h | h | h | h | h | h | h | h
  ·exact .inl (e 48 h)
  ·exact .inr (.inl (e 49 h))
  ·exact .inr (.inr (.inl (e 50 h)))
  ·exact .inr (.inr (.inr (.inl (e 51 h))))
  ·exact .inr (.inr (.inr (.inr (.inl (e 52 h)))))
  ·exact .inr (.inr (.inr (.inr (.inr (.inl (e 53 h))))))
  ·exact .inr (.inr (.inr (.inr (.inr (.inr (.inl (e 54 h)))))))
  ·exact .inr (.inr (.inr (.inr (.inr (.inr (.inr (.inl (e 55 h))))))))
  ·exact .inr (.inr (.inr (.inr (.inr (.inr (.inr (.inr (.inl (e 56 h)))))))))
  ·exact .inr (.inr (.inr (.inr (.inr (.inr (.inr (.inr (.inr (e 57 h)))))))))
theorem wL(l:List UInt8):Lib.trimS l nZ= []↔l.all gu=true:=by
 rw[wJ,List.all_eq_true];exact⟨fun h c r=>by rw[<- wK];exact h c r,fun h c r=>by rw[wK];exact h c r⟩
theorem wM(l:List UInt8):Lib.trimS l [48]= []↔l.all (· ==48)=true:=by
 rw[wJ,List.all_eq_true];refine⟨fun h c r=> ?_,fun h c r=> ?_⟩
 ·have:=h c r;simpa using this
 ·have:=h c r;simpa using this
def dgs(l:List UInt8):Bool:=decide (l≠ []) && l.all gu
theorem wN{l:List UInt8}(h:dgs (body l)=false):chk l=14:=by
 unfold dgs at h;unfold chk;by_cases h1:body l= []
 ·rw[if_pos h1]
 ·rw[if_neg h1];rw[decide_eq_true h1,Bool.true_and] at h;rw[if_pos h]
theorem oZ{l:List UInt8}(h:dgs (body l)=true):chk l=0 \/ chk l=3:=by
 unfold dgs at h;rw[Bool.and_eq_true,decide_eq_true_iff] at h;unfold chk;rw[if_neg h.1,if_neg (by rw[h.2];simp)];split <;> simp
theorem tC{l:List UInt8}(h:dgs (body l)=true):chk l≠14:=by rcases oZ h with h | h <;> omega
theorem tF{l:List UInt8}(h:dgs (body (fM l))=false \/ (fO l≠ [] /\ dgs (fZ l)=false)):fo l=14:=by
 unfold fo;by_cases r:fO l= []
 ·rw[if_pos r]
  rcases h with h | h
  ·rw[qB r] at h;exact wN h
  ·exact absurd r h.1
 ·rw[if_neg r,if_pos]
  rcases h with h | h
  ·exact .inl (wN h)
  ·have h:=h.2;unfold dgs at h;by_cases h1:fZ l= []
   ·exact .inr (.inl h1)
   ·rw[decide_eq_true h1,Bool.true_and] at h;exact .inr (.inr h)
theorem tH{l:List UInt8}(h:dgs l=true):¬(l= [] \/ l.all gu=false):=by
 unfold dgs at h;rw[Bool.and_eq_true,decide_eq_true_iff] at h;rintro(e | e)
 ·exact h.1 e
 ·rw[h.2] at e;cases e
theorem CX{l:List UInt8}(h:dgs (body (fM l))=true)(t:fO l≠ [])(r:dgs (fZ l)=true)(C:(fZ l).all (· ==48)=true):fo l=19:=by
 unfold fo;rw[if_neg t,if_neg (fun e=>e.elim (tC h) (tH r)),if_pos C]
theorem wO{l:List UInt8}(h:fO l= []):fo l=chk (fM l):=by rw[wu h,qB h]
theorem CY{l:List UInt8}(h:dgs (body (fM l))=true)(E:fO l≠ [])(C:dgs (fZ l)=true)(G:(fZ l).all (· ==48)=false)(t:chk (fM l)≠0):fo l=3:=by
 unfold fo;rw[if_neg E,if_neg (fun e=>e.elim (tC h) (tH C)),if_neg (by rw[G];simp),if_pos]
 rcases oZ h with r | r
 ·exact absurd r t
 ·exact .inl r
theorem wP{l:List UInt8}(h:dgs l=true):body l=l /\ l.head? ≠some 45:=by
 unfold dgs at h;rw[Bool.and_eq_true] at h;have t:=List.all_eq_true.1 h.2
 have r: l.head? ≠some 45:=by
  intro e;cases l with
  | nil=>cases e
  | cons c l=>
   have r:c=45:=by simpa using e
   have:=lM.1 (t c (by simp));rw[r] at this;simp at this
 exact⟨by unfold body;rw[if_neg r],r⟩
theorem wR{l:List UInt8}(h:dgs l=true)(t:l.all (· ==48)=false):chk l=0↔ l.head? ≠some 48:=by
 obtain⟨h1,C⟩:=wP h;unfold dgs at h;rw[Bool.and_eq_true,decide_eq_true_iff] at h;unfold chk;rw[h1,if_neg h.1,if_neg (by rw[h.2];simp)];by_cases e: l.head? =some 48
 ·have r:1<l.length:=by
   cases l with
   | nil=>cases e
   | cons c l=>
    cases l with
    | nil=>
     have:c=48:=by simpa using e
     subst this;simp at t
    | cons d l=>simp
  rw[if_pos ⟨e, .inl r⟩];simp[e]
 ·rw[if_neg (fun h=>e h.1)];simp[e]
theorem CZ{l:List UInt8}(h:dgs l=true)(h0: l.head? ≠some 48):dv l=1↔l= [49]:=by
 unfold dgs at h;rw[Bool.and_eq_true,decide_eq_true_iff] at h;have r:=sP l h.1 (List.all_eq_true.1 h.2) (fun e=>absurd e h0);constructor
 ·intro e;rw[e] at r;rw[<- r];simp[Lib.decDigits]
 ·intro e;rw[e];rfl
theorem qC{l:List UInt8}(h:dgs (body (fM l))=true)(G:fO l≠ [])(r:dgs (fZ l)=true)(t:(fZ l).all (· ==48)=false)(h0:chk (fM l)=0):
  fo l=if chk (fZ l)≠0 \/ dv (fZ l)=1 \/ Nat.gcd (dv (body (fM l))) (dv (fZ l))≠1 then 3 else 0:=by
 unfold fo;rw[if_neg G,if_neg (fun e=>e.elim (tC h) (tH r)),if_neg (by rw[t];simp)];by_cases e:(fZ l).head? =some 48
 ·rw[if_pos (.inr (.inl e)),if_pos (.inl (fun e'=>(wR r t).1 e' e))]
 ·have C:=(wR r t).2 e;have E:=CZ r e;congr 1;rw[C,E,h0];simp[e]
end
section
open Go.RowKit
section
variable {P:Program} {ops:Array Oper} {Q:Exit -> Act -> World -> Prop} {md:Region.Mode} {S:World -> Prop} {late:Nat -> Bool}
def jm(md:Region.Mode)(ops:Array Oper)(j i:Nat):Bool:=
 match ops[j]? with
 | some o=>o.after.any fun e=>Region.binds md e && e.on==i
 | none=>false
def p8(md:Region.Mode)(ops:Array Oper)(late:Nat -> Bool)(listed:Array Bool)(i:Nat):Bool:=
 !late i && (List.range ops.size).all fun j=> !late j || listed.getD j true || jm md ops j i || (List.range ops.size).any fun k=> !listed.getD k true && jm md ops k i && jm md ops j k
theorem p9{listed:Array Bool}{i j:Nat}(M:j ∈ Region.ready md ops listed)(h:jm md ops j i=true)(t:listed.getD i true=false):False:=by
 obtain⟨_,o,R,C⟩:=mem_ready.1 M;unfold jm at h;rw[R] at h;simp only[Array.any_eq_true,Bool.and_eq_true,beq_iff_eq] at h;obtain⟨n,O,E,G⟩:=h;have h1:=C _ (Array.getElem_mem O) E;rw[G] at h1
 rcases Nat.lt_or_ge i listed.size with r | r
 ·simp[r] at t h1;rw[t] at h1;cases h1
 ·simp[Array.getElem?_eq_none r] at h1
def fP(P:Program)(md:Region.Mode)(ops:Array Oper)(Q:Exit -> Act -> World -> Prop)(S:World -> Prop)(late:Nat -> Bool):Nat -> Array Bool -> Act -> World -> Prop
 | 0,listed,a,w=>Region.ready md ops listed= [] /\ Q .normal a w
 | fuel+1,listed,a,w=>
  (Region.ready md ops listed= [] -> Q .normal a w) /\
  ∀i ∈ Region.ready md ops listed,wpOp P ops Q i (fun a' w'=>(late i=false -> S w') /\ fP P md ops Q S late fuel (listed.setIfInBounds i true) a' w') a w
theorem wT:∀ (fuel:Nat) (listed:Array Bool) (a:Act) (w:World),fP P md ops Q S late fuel listed a w -> wpAny P md ops Q fuel listed a w
 | 0,_,_,_,h=>h
 | fuel+1,_,_,_,h=>⟨h.1,fun i t=>wpOp_mono (fun a' w' r=>wT fuel _ a' w' r.2) (h.2 i t)⟩
theorem D5{i:Nat}{oi:Oper}{v:Value}(Y:ops[i]? =some oi)(a3:∀ (j:Nat) (o:Oper) cs b,ops[j]? =some o -> o.op≠ .select cs b)
  (hQ:∀c a w,Q (.panic c) (a.put oi.dst v) w -> Q (.panic c) a w) (ae:late i=false):
  ∀ (fuel:Nat) (listed:Array Bool) (a:Act) (w:World),
   (∀j M,ops[j]? =some M -> j≠i -> listed.getD j true=false -> (∀e ∈ M.after,Region.binds md e=true -> e.on≠i) -> oi.apart ops M=true) ->
   (∀j,j<ops.size -> late j=true -> listed.getD j true=false -> jm md ops j i=true \/ ∃k,listed.getD k true=false /\ jm md ops k i=true /\ jm md ops j k=true) ->
   i ∈ Region.ready md ops listed -> YieldsIf P ops S oi v a -> S w ->
   fP P md ops Q S late fuel (listed.setIfInBounds i true) (a.put oi.dst v) w -> fP P md ops Q S late (fuel+1) listed a w:=by
 intro fuel
 induction fuel with
 | zero=>
  intro listed a w _ _ C V O H;refine⟨fun h=>(by rw[h] at C;cases C),fun j G=> ?_⟩;by_cases r:j=i
  ·subst r;exact V.wpOp Y O ⟨fun _=>O,H⟩
  ·have:=ready_mono G r;rw[H.1] at this;cases this
 | succ fuel ih=>
  intro listed a w a1 a2 C V O H;have U:=(mem_ready.1 C).1;refine⟨fun h=>(by rw[h] at C;cases C),fun j G=> ?_⟩;by_cases r:j=i
  ·subst r;exact V.wpOp Y O ⟨fun _=>O,H⟩
  ·have h1:=H.2 j (ready_mono G r);obtain⟨Z,M,T,a4⟩:=mem_ready.1 G
   have a7:late j=false:=by
    rcases X:late j with _ | _
    ·rfl
    ·rcases a2 j (Array.getElem?_eq_some_iff.1 T).1 X Z with h | ⟨k,t,_,h⟩
     ·exact(p9 G h U).elim
     ·exact(p9 G h t).elim
   have ad:∀e ∈ M.after,Region.binds md e=true -> e.on≠i:=fun e he X a5=>by
    have h1:=a4 e he X;have h0:=(mem_ready.1 C).1;rw[a5] at h1
    rcases Nat.lt_or_ge i listed.size with W | W
    ·simp[W] at h0 h1;rw[h0] at h1;cases h1
    ·simp[Array.getElem?_eq_none W] at h1
   have h2:=wpOp_putIf T (a1 j M T r Z ad) (fun cs b=>a3 i oi cs b Y) (fun cs b=>a3 j M cs b T) hQ V h1
   have a0:∀k,(listed.setIfInBounds j true).getD k true=false -> listed.getD k true=false:=fun k t=>by
    by_cases R:j=k
    ·subst R;exact Z
    ·rw[getD_set_ne true R] at t;exact t
   have a6:∀k ok,ops[k]? =some ok -> k≠i -> (listed.setIfInBounds j true).getD k true=false ->
     (∀e ∈ ok.after,Region.binds md e=true -> e.on≠i) -> oi.apart ops ok=true:=fun k ok t a8 U ac=>
    a1 k ok t a8 (a0 k U) ac
   have a9:∀m,m<ops.size -> late m=true -> (listed.setIfInBounds j true).getD m true=false -> jm md ops m i=true \/ ∃k,(listed.setIfInBounds j true).getD k true=false /\ jm md ops k i=true /\ jm md ops m k=true:=fun m aa hm ab=>by
    rcases a2 m aa hm (a0 m ab) with h | ⟨k,t,E,h4⟩
    ·exact .inl h
    ·refine .inr ⟨k,?_,E,h4⟩;have R:j≠k:=fun e=>by subst e;exact p9 G E U
     rw[getD_set_ne true R];exact t
   refine wpOp_mono (fun a' w' E=>⟨E.2.1,ih (listed.setIfInBounds j true) a' w' a6 a9 (ready_mono C (Ne.symm r)) E.1 (E.2.1 a7) ?_⟩) h2;rw[Array.setIfInBounds_comm _ _ r];exact E.2.2
theorem l5{i:Nat}{oi:Oper}{v:Value}{fuel:Nat}{listed:Array Bool}{a:Act}{w:World}(t:ops[i]? =some oi)
  (X:Region.noSelect ops=true) (T:Region.free md ops listed i=true) (W:(Region.ready md ops listed).contains i=true) (r:p8 md ops late listed i=true)
  (G:∀c a w,Q (.panic c) (a.put oi.dst v) w -> Q (.panic c) a w) (Z:YieldsIf P ops S oi v a) (M:S w)
  (h:fP P md ops Q S late fuel (listed.setIfInBounds i true) (a.put oi.dst v) w):fP P md ops Q S late (fuel+1) listed a w:=by
 unfold p8 at r;simp only[Bool.and_eq_true,Bool.not_eq_true',List.all_eq_true,List.mem_range,Bool.or_eq_true,List.any_eq_true] at r;obtain⟨O,R⟩:=r;refine D5 t (Region.noSelect_spec X) G O fuel listed a w (Region.free_spec t T) (fun j V U Y=> ?_) (by simpa using W) Z M h
 ·rcases R j V with ((h1 | h1) | h1) | ⟨k,_,⟨h1,C⟩,E⟩
  ·rw[U] at h1;cases h1
  ·rw[Y] at h1;cases h1
  ·exact .inl h1
  ·exact .inr ⟨k,by simpa using h1,C,E⟩
theorem jd{i:Nat}{oi:Oper}{v:Value}{fuel:Nat}{listed:Array Bool}{a:Act}{w:World}(d:Option Nat)(M:ops[i]? =some oi)(C:oi.dst=d)
  (R:Region.noSelect ops=true) (G:Region.free md ops listed i=true) (O:(Region.ready md ops listed).contains i=true) (E:p8 md ops late listed i=true)
  (r:∀c a w,Q (.panic c) (a.put oi.dst v) w -> Q (.panic c) a w) (T:YieldsIf P ops S oi v a) (t:S w)
  (h:fP P md ops Q S late fuel (listed.setIfInBounds i true) (a.put d v) w):fP P md ops Q S late (fuel+1) listed a w:=
 l5 M R G O E r T t (C ▸ h)
def eY(P:Program)(md:Region.Mode)(ops:Array Oper)(Q:Exit -> Act -> World -> Prop)(S:World -> Prop)(late:Nat -> Bool)(fuel:Nat)(listed:Array Bool)(a:Act)(w:World)(rs:List Nat):Prop:=
 ∀i ∈ rs,wpOp P ops Q i (fun a' w'=>(late i=false -> S w') /\ fP P md ops Q S late fuel (listed.setIfInBounds i true) a' w') a w
theorem eY.nil{fuel:Nat}{listed:Array Bool}{a:Act}{w:World}:eY P md ops Q S late fuel listed a w []:=fun _ h=>by cases h
theorem eY.cons{fuel:Nat}{listed:Array Bool}{a:Act}{w:World}{i:Nat}{o:Oper}{rs:List Nat}(M:ops[i]? =some o)
  (h:∀r:Act -> World -> Prop,Shut (∀a w,(late i=false -> S w) -> fP P md ops Q S late fuel (listed.setIfInBounds i true) a w -> r a w) -> if Region.wanted o (yielded ops a.tmps)=true then Oper.wp P o a w r Q else r (a.put o.dst undef) w)
  (O:eY P md ops Q S late fuel listed a w rs):eY P md ops Q S late fuel listed a w (i::rs):=fun j t=>by
 rcases List.mem_cons.1 t with rfl | t
 ·exact wpOp_step M (fun r C=>h r (fun a w E G=>C a w ⟨E,G⟩))
 ·exact O j t
theorem iN{rs:List Nat}{fuel:Nat}{listed:Array Bool}{a:Act}{w:World}(r:Region.ready md ops listed=rs)(t:rs≠ [])
  (h:eY P md ops Q S late fuel listed a w rs):fP P md ops Q S late (fuel+1) listed a w:=⟨fun h0=>absurd (r ▸ h0) t,r ▸ h⟩
theorem D7{listed:Array Bool}{a:Act}{w:World}(r:Region.ready md ops listed= [])(h:Q .normal a w):
  ∀fuel,fP P md ops Q S late fuel listed a w
 | 0=>⟨r,h⟩
 | _+1=>⟨fun _=>h,by rw[r];simp⟩
theorem iC{t:Nat}{a:Act}{w:World}(S:World -> Prop)(late:Nat -> Bool)(r:P.follows .mixedOrders=true)
  (h:fP P .any ops Q S late ops.size (Array.replicate ops.size false) a w.drew):(Code.region t ops true).wp P Q a w:=
 wp_region_any r (wT _ _ _ _ h)
end
end
section
open Go.RowKit
section
variable {P:Program} {ops:Array Oper} {Q:Exit -> Act -> World -> Prop} {md:Region.Mode} {S:World -> Prop} {late:Nat -> Bool}
theorem D8{i:Nat}{oi:Oper}{v:Value}(T:ops[i]? =some oi)(Z:∀ (j:Nat) (o:Oper) cs b,ops[j]? =some o -> o.op≠ .select cs b)
  (hQ:∀c a w,Q (.panic c) (a.put oi.dst v) w -> Q (.panic c) a w) (a6:late i=true):
  ∀ (fuel:Nat) (listed:Array Bool) (a:Act) (w:World),
   (∀j C,ops[j]? =some C -> j≠i -> listed.getD j true=false -> (∀e ∈ C.after,Region.binds md e=true -> e.on≠i) -> oi.apart ops C=true) ->
   i ∈ Region.ready md ops listed -> YieldsIf P ops (fun _=>True) oi v a ->
   fP P md ops Q S late fuel (listed.setIfInBounds i true) (a.put oi.dst v) w -> fP P md ops Q S late (fuel+1) listed a w:=by
 intro fuel;have Y:¬late i=false:=by rw[a6];decide
 induction fuel with
 | zero=>
  intro listed a w _ t M H;refine⟨fun h=>(by rw[h] at t;cases t),fun j E=> ?_⟩;by_cases r:j=i
  ·subst r;exact M.wpOp T trivial ⟨fun h=>absurd h Y,H⟩
  ·have:=ready_mono E r;rw[H.1] at this;cases this
 | succ fuel ih=>
  intro listed a w V t M H;have a0:=(mem_ready.1 t).1;refine⟨fun h=>(by rw[h] at t;cases t),fun j E=> ?_⟩;by_cases r:j=i
  ·subst r;exact M.wpOp T trivial ⟨fun h=>absurd h Y,H⟩
  ·have h1:=H.2 j (ready_mono E r);obtain⟨X,C,U,a1⟩:=mem_ready.1 E
   have a8:∀e ∈ C.after,Region.binds md e=true -> e.on≠i:=fun e he hb a3=>by
    have h1:=a1 e he hb;have h0:=(mem_ready.1 t).1;rw[a3] at h1
    rcases Nat.lt_or_ge i listed.size with O | O
    ·simp[O] at h0 h1;rw[h0] at h1;cases h1
    ·simp[Array.getElem?_eq_none O] at h1
   have h2:=wpOp_putIf U (V j C U r X a8) (fun cs b=>Z i oi cs b T) (fun cs b=>Z j C cs b U) hQ M h1
   have a2:∀k,(listed.setIfInBounds j true).getD k true=false -> listed.getD k true=false:=fun k G=>by
    by_cases W:j=k
    ·subst W;exact X
    ·rw[getD_set_ne true W] at G;exact G
   have a4:∀k ok,ops[k]? =some ok -> k≠i -> (listed.setIfInBounds j true).getD k true=false ->
     (∀e ∈ ok.after,Region.binds md e=true -> e.on≠i) -> oi.apart ops ok=true:=fun k ok G a5 a0 a7=>
    V k ok G a5 (a2 k a0) a7
   refine wpOp_mono (fun a' w' R=>⟨R.2.1,ih (listed.setIfInBounds j true) a' w' a4 (ready_mono t (Ne.symm r)) R.1 ?_⟩) h2;rw[Array.setIfInBounds_comm _ _ r];exact R.2.2
theorem D9{i:Nat}{oi:Oper}{v:Value}{fuel:Nat}{listed:Array Bool}{a:Act}{w:World}(d:Option Nat)(r:ops[i]? =some oi)(C:oi.dst=d)
  (O:Region.noSelect ops=true) (E:Region.free md ops listed i=true) (M:(Region.ready md ops listed).contains i=true) (G:late i=true)
  (t:∀c a w,Q (.panic c) (a.put oi.dst v) w -> Q (.panic c) a w) (R:YieldsIf P ops (fun _=>True) oi v a)
  (h:fP P md ops Q S late fuel (listed.setIfInBounds i true) (a.put d v) w):fP P md ops Q S late (fuel+1) listed a w:=
 D8 r (Region.noSelect_spec O) t G fuel listed a w (Region.free_spec r E) (by simpa using M) R (C ▸ h)
end
end
section
open Go.RowKit
section
variable {P:Program} {ops:Array Oper} {Q:Exit -> Act -> World -> Prop} {md:Region.Mode} {S:World -> Prop} {late:Nat -> Bool}
def tJ(md:Region.Mode)(ops:Array Oper)(late:Nat -> Bool)(listed:Array Bool)(i:Nat)(B:List Nat):Bool:=
 !late i && B.contains i && B.all (fun b=> !listed.getD b true && (b==i || B.any fun k=>jm md ops b k)) && (List.range ops.size).all fun j=> !late j || listed.getD j true || B.any fun k=>jm md ops j k
theorem Da{i:Nat}{oi:Oper}{v:Value}(B:List Nat)(X:ops[i]? =some oi)(a4:∀ (j:Nat) (o:Oper) cs b,ops[j]? =some o -> o.op≠ .select cs b)
  (hQ:∀c a w,Q (.panic c) (a.put oi.dst v) w -> Q (.panic c) a w) (aj:late i=false) (a6:∀b ∈ B,b≠i -> ∃k ∈ B,jm md ops b k=true):
  ∀ (fuel:Nat) (listed:Array Bool) (a:Act) (w:World),
   (∀j E,ops[j]? =some E -> j≠i -> listed.getD j true=false -> (∀e ∈ E.after,Region.binds md e=true -> e.on≠i) -> oi.apart ops E=true) ->
   (∀b ∈ B,listed.getD b true=false) ->
   (∀j,j<ops.size -> late j=true -> listed.getD j true=false -> ∃k ∈ B,jm md ops j k=true) ->
   i ∈ Region.ready md ops listed -> YieldsIf P ops S oi v a -> S w ->
   fP P md ops Q S late fuel (listed.setIfInBounds i true) (a.put oi.dst v) w -> fP P md ops Q S late (fuel+1) listed a w:=by
 intro fuel
 induction fuel with
 | zero=>
  intro listed a w _ _ _ C U O H;refine⟨fun h=>(by rw[h] at C;cases C),fun j M=> ?_⟩;by_cases r:j=i
  ·subst r;exact U.wpOp X O ⟨fun _=>O,H⟩
  ·have:=ready_mono M r;rw[H.1] at this;cases this
 | succ fuel ih=>
  intro listed a w a1 W a3 C U O H;have a5:=(mem_ready.1 C).1;refine⟨fun h=>(by rw[h] at C;cases C),fun j M=> ?_⟩;by_cases r:j=i
  ·subst r;exact U.wpOp X O ⟨fun _=>O,H⟩
  ·have h1:=H.2 j (ready_mono M r);obtain⟨Y,E,T,a8⟩:=mem_ready.1 M
   have ab:j ∉ B:=fun Z=>by
    obtain⟨k,t,hw⟩:=a6 j Z r;exact p9 M hw (W k t)
   have ad:late j=false:=by
    rcases G:late j with _ | _
    ·rfl
    ·obtain⟨k,t,hw⟩:=a3 j (Array.getElem?_eq_some_iff.1 T).1 G Y;exact(p9 M hw (W k t)).elim
   have ai:∀e ∈ E.after,Region.binds md e=true -> e.on≠i:=fun e he G a9=>by
    have h1:=a8 e he G;have h0:=(mem_ready.1 C).1;rw[a9] at h1
    rcases Nat.lt_or_ge i listed.size with V | V
    ·simp[V] at h0 h1;rw[h0] at h1;cases h1
    ·simp[Array.getElem?_eq_none V] at h1
   have h2:=wpOp_putIf T (a1 j E T r Y ai) (fun cs b=>a4 i oi cs b X) (fun cs b=>a4 j E cs b T) hQ U h1
   have a0:∀k,(listed.setIfInBounds j true).getD k true=false -> listed.getD k true=false:=fun k t=>by
    by_cases a2:j=k
    ·subst a2;exact Y
    ·rw[getD_set_ne true a2] at t;exact t
   have aa:∀k ok,ops[k]? =some ok -> k≠i -> (listed.setIfInBounds j true).getD k true=false ->
     (∀e ∈ ok.after,Region.binds md e=true -> e.on≠i) -> oi.apart ops ok=true:=fun k ok t ae a5 ah=>
    a1 k ok t ae (a0 k a5) ah
   have a7:∀b ∈ B,(listed.setIfInBounds j true).getD b true=false:=fun b G=>by
    have ac:j≠b:=by rintro rfl;exact ab G
    rw[getD_set_ne true ac];exact W b G
   refine wpOp_mono (fun a' w' R=>⟨R.2.1,ih (listed.setIfInBounds j true) a' w' aa a7 (fun m af Z ag=>a3 m af Z (a0 m ag)) (ready_mono C (Ne.symm r)) R.1 (R.2.1 ad) ?_⟩) h2;rw[Array.setIfInBounds_comm _ _ r];exact R.2.2
theorem qF{i:Nat}{oi:Oper}{v:Value}{fuel:Nat}{listed:Array Bool}{a:Act}{w:World}(B:List Nat)(d:Option Nat)(E:ops[i]? =some oi)(O:oi.dst=d)
  (Z:Region.noSelect ops=true) (U:Region.free md ops listed i=true) (Y:(Region.ready md ops listed).contains i=true) (t:tJ md ops late listed i B=true)
  (G:∀c a w,Q (.panic c) (a.put oi.dst v) w -> Q (.panic c) a w) (hy:YieldsIf P ops S oi v a) (M:S w)
  (h:fP P md ops Q S late fuel (listed.setIfInBounds i true) (a.put d v) w):fP P md ops Q S late (fuel+1) listed a w:=by
 unfold tJ at t;simp only[Bool.and_eq_true,Bool.not_eq_true',List.all_eq_true,List.mem_range,Bool.or_eq_true,List.any_eq_true,beq_iff_eq] at t;obtain⟨⟨⟨R,_⟩,C⟩,T⟩:=t;refine Da B E (Region.noSelect_spec Z) G R (fun b r X=> ?_) fuel listed a w (Region.free_spec E U) (fun b r=>(C b r).1) (fun j W V a0=> ?_) (by simpa using Y) hy M (O ▸ h)
 ·rcases(C b r).2 with h1 | h1
  ·exact absurd h1 X
  ·exact h1
 ·rcases T j W with (h1 | h1) | h1
  ·rw[V] at h1;cases h1
  ·rw[a0] at h1;cases h1
  ·exact h1
end
end
section
open Go.RowKit
section
variable {P:Program} {ops:Array Oper} {Q:Exit -> Act -> World -> Prop} {md:Region.Mode} {S:World -> Prop} {late:Nat -> Bool} {oi:Oper} {v:Value} {fuel:Nat} {listed:Array Bool} {a b:Act} {w:World}
theorem tB(i:Nat)(B:List Nat)(d:Option Nat)(t:S w)(h:fP P md ops Q S late fuel (listed.setIfInBounds i true) b w)(R:ops[i]? =some oi:=by rfl)(V:YieldsIf P ops S oi v a:=by exact Or.inl ⟨by rfl,by intro w' C;(try dsimp only at C);go_simp;try with_reducible rfl⟩)
    (E:a.put d v=b:=by(try simp only[Act.put,List.setIfInBounds_toArray,List.set_cons_zero,List.set_cons_succ]);rfl) (G:oi.dst=d:=by rfl)
    (U:Region.noSelect ops=true:=by kernel_rfl) (O:Region.free md ops listed i=true:=by kernel_rfl) (T:(Region.ready md ops listed).contains i=true:=by kernel_rfl) (M:tJ md ops late listed i B=true:=by kernel_rfl)
    (r:∀c a w,Q (.panic c) (a.put oi.dst v) w -> Q (.panic c) a w:=by exact fun _ _ _ h=>h):fP P md ops Q S late (fuel+1) listed a w:=qF B d R G U O T M r V t (by rw[E];exact h)
theorem rD(i:Nat)(h:∀r:Act -> World -> Prop,Shut (∀a w,(late i=false -> S w) -> fP P md ops Q S late fuel (listed.setIfInBounds i true) a w -> r a w) -> if Region.wanted oi (yielded ops a.tmps)=true then Oper.wp P oi a w r Q else r (a.put oi.dst undef) w)
    (C:Region.ready md ops listed= [i]:=by kernel_rfl) (t:ops[i]? =some oi:=by rfl):fP P md ops Q S late (fuel+1) listed a w:=iN C (by simp) (eY.cons t h eY.nil)
theorem dN(h:Q .normal a w)(fuel:Nat)(r:Region.ready md ops listed= []:=by kernel_rfl):fP P md ops Q S late fuel listed a w:=D7 r h fuel
theorem rL{t:Nat}{w0:World}(_:∀w',Below w0.heap.size w0 w' -> S w')(late:Nat -> Bool)(h:fP P .any ops Q S late ops.size (Array.replicate ops.size false) a w.drew)(r:P.follows .mixedOrders=true:=by kernel_rfl):(Code.region t ops true).wp P Q a w:=iC S late r h
theorem tKs(i:Nat)(d:Nat)(t:S w)(h:fP P md ops Q S late fuel (listed.setIfInBounds i true) b w)(R:ops[i]? =some oi:=by rfl)(V:YieldsIf P ops S oi v a:=by exact Or.inl ⟨by rfl,by intro w' C;(try dsimp only at C);go_simp;try with_reducible rfl⟩)
    (E:a.put (some d) v=b:=by(try simp only[Act.put,List.setIfInBounds_toArray,List.set_cons_zero,List.set_cons_succ]);rfl) (G:oi.dst=some d:=by rfl)
    (U:Region.noSelect ops=true:=by kernel_rfl) (O:Region.free md ops listed i=true:=by kernel_rfl) (T:(Region.ready md ops listed).contains i=true:=by kernel_rfl) (M:p8 md ops late listed i=true:=by kernel_rfl)
    (r:∀c a w,Q (.panic c) (a.put oi.dst v) w -> Q (.panic c) a w:=by exact fun _ _ _ h=>h):fP P md ops Q S late (fuel+1) listed a w:=jd (some d) R G U O T M r V t (by rw[E];exact h)
theorem tUs(i:Nat)(d:Nat)(t:S w)(h:fP P md ops Q S late fuel (listed.setIfInBounds i true) b w)(O:ops[i]? =some oi:=by rfl)(U:YieldsIf P ops S oi undef a:=by exact Or.inr ⟨by rfl,rfl⟩)
    (C:a.put (some d) undef=b:=by(try simp only[Act.put,List.setIfInBounds_toArray,List.set_cons_zero,List.set_cons_succ]);rfl) (E:oi.dst=some d:=by rfl)
    (T:Region.noSelect ops=true:=by kernel_rfl) (M:Region.free md ops listed i=true:=by kernel_rfl) (R:(Region.ready md ops listed).contains i=true:=by kernel_rfl) (G:p8 md ops late listed i=true:=by kernel_rfl)
    (r:∀c a w,Q (.panic c) (a.put oi.dst undef) w -> Q (.panic c) a w:=by exact fun _ _ _ h=>h):fP P md ops Q S late (fuel+1) listed a w:=jd (some d) O E T M R G r U t (by rw[C];exact h)
theorem tWs(i:Nat)(d:Nat)(h:fP P md ops Q S late fuel (listed.setIfInBounds i true) b w)(G:ops[i]? =some oi:=by rfl)(T:YieldsIf P ops (fun _=>True) oi v a:=by exact Or.inl ⟨by rfl,by intro w' _;go_simp;try with_reducible rfl⟩)
    (t:a.put (some d) v=b:=by(try simp only[Act.put,List.setIfInBounds_toArray,List.set_cons_zero,List.set_cons_succ]);rfl) (C:oi.dst=some d:=by rfl)
    (R:Region.noSelect ops=true:=by kernel_rfl) (E:Region.free md ops listed i=true:=by kernel_rfl) (O:(Region.ready md ops listed).contains i=true:=by kernel_rfl) (M:late i=true:=by rfl)
    (r:∀c a w,Q (.panic c) (a.put oi.dst v) w -> Q (.panic c) a w:=by exact fun _ _ _ h=>h):fP P md ops Q S late (fuel+1) listed a w:=D9 (some d) G C R E O M r T (by rw[t];exact h)
theorem kH{c:Prop}{S:World -> Prop}{B K:Act -> World -> Prop}(t:Shut (∀a w,(c -> S w) -> B a w -> K a w)){a:Act}{w:World}(h:S w)(r:B a w):K a w:=t.out _ _ (fun _=>h) r
theorem kL{S:World -> Prop}{B K:Act -> World -> Prop}{c:Bool}(t:Shut (∀a w,(c=false -> S w) -> B a w -> K a w)){a:Act}{w:World}(r:B a w)(h:c=false -> False:=by intro h;simp at h):K a w:=t.out _ _ (fun x=>(h x).elim) r
end
end
section
open Go.RowKit
theorem Db(s:ByteArray)(w:World)(h:s.size <= 9223372036854775807):
  Calls prog 122 #[.string s, .string ⟨#[48,49,50,51,52,53,54,55,56,57]⟩] w fun e w'=>e= .returned (.string ⟨(Lib.trimS s.data.toList nZ).toArray⟩) /\ Below w.heap.size w w':=
 Any.strings_Trim_laid Tryz.vv kR s ⟨#[48,49,50,51,52,53,54,55,56,57]⟩ w h dC (ascii_of_all dC)
theorem Dc(s:ByteArray)(w:World)(h:s.size <= 9223372036854775807):
  Calls prog 122 #[.string s, .string ⟨#[48]⟩] w fun e w'=>e= .returned (.string ⟨(Lib.trimS s.data.toList [48]).toArray⟩) /\ Below w.heap.size w w':=
 Any.strings_Trim_laid Tryz.vv kR s ⟨#[48]⟩ w h dC (ascii_of_all dC)
set_option maxRecDepth 100000 in
set_option maxHeartbeats 3200000 in
theorem tK(s:ByteArray)(w:World)(X:s.size <= 9223372036854775807):
  Calls prog 120 #[.string s] w fun e w'=>e= .returned (.bool (dgs s.data.toList)) /\ Below w.heap.size w w':=by
 obtain⟨l,C⟩:=eX (s.data.toList);have M:=lH C;have R:=lH (fun w=>Db s w X);rw[<- C];by_cases h0:l= []
 ·subst h0
  have Y:s=⟨#[]⟩:=by
   cases s with
   | mk d=>congr 1;exact Array.toList_inj.1 M.o.symm
  subst Y;clear C M R;go_enter func120,ntmps120;go_wp2_with fail
  go_returns;exact⟨rfl,Below.refl _ _⟩
 ·obtain⟨T,U⟩:=mG (D:=s) (by rw[<- C];exact h0);clear C;go_enter func120,ntmps120;go_wp2_with fail
  refine(R.o _).mono ?_;rintro e w1 ⟨rfl,E⟩;rw[<- M.o];by_cases h:l.all gu=true
  ·have r:=(wL l).2 h;rw[r];have O:=lH E;have G:Hid (dgs l=true):=lH (by unfold dgs;rw[h,decide_eq_true h0];rfl);clear E r h T U h0;go_wp2_with fail
   go_returns;exact⟨by rw[G.o];rfl,O.o⟩
  ·have r:Lib.trimS l nZ≠ []:=fun e=>h ((wL l).1 e)
   obtain⟨t,V⟩:=eX (Lib.trimS l nZ);rw[<- V] at r ⊢;obtain⟨Z,h4⟩:=mG (D:=⟨t.toArray⟩) (by simpa using r);have O:=lH E;have G:Hid (dgs l=false):=lH (by unfold dgs;rw[Bool.not_eq_true] at h;rw[h,Bool.and_false]);have W:Hid (t.isEmpty=false):=lH (by simpa using r);clear E h T U h0 V r;go_wp2_with fail
   go_returns;refine⟨?_,O.o⟩;rw[G.o];show Ending.returned (.bool t.isEmpty)=_;rw[W.o]
end
section
def sv(l:List Nat)(i:Nat):Nat -> Nat
 | 0=>0
 | j+1=>sv l i j+BB^j*dg l (i+j)
theorem wU(l:List Nat)(i:Nat):sv l i 0=0:=rfl
theorem gG(l:List Nat)(i j:Nat):sv l i (j+1)=sv l i j+BB^j*dg l (i+j):=rfl
theorem lN{l:List Nat}(h:Dig l)(i j:Nat):sv l i j<BB^j:=by
 induction j with
 | zero=>simp[sv]
 | succ j t=>
  rw[gG,Nat.pow_succ];have h1:dg l (i+j)+1 <= BB:=by have:=h (i+j);simp only[iy];omega
  have r:=Nat.mul_le_mul_left (BB^j) h1;rw[Nat.mul_add] at r;omega
theorem tL{l m:List Nat}{i j:Nat}(h:∀t,t<j -> dg l (i+t)=dg m (i+t)):sv l i j=sv m i j:=by
 induction j with
 | zero=>rfl
 | succ j r=>rw[gG,gG,r (fun t C=>h t (by omega)),h j (by omega)]
theorem De(l:List Nat)(i j k x:Nat)(h:i+j <= k):sv (l.set k x) i j=sv l i j:=
 tL fun t r=>by rw[iM,if_neg (by omega)]
theorem pg(l:List Nat)(i j x:Nat)(h:i+j<l.length):sv (l.set (i+j) x) i (j+1)=sv l i j+BB^j*x:=by
 rw[gG,De _ _ _ _ _ (Nat.le_refl _),iM,if_pos ⟨rfl,h⟩]
theorem Df(l:List Nat)(j:Nat):sv l 0 j=val (l.take j):=by
 induction j with
 | zero=>simp[sv,val]
 | succ j h=>rw[gG,iB,h,Nat.zero_add]
theorem Dg{U V h t r C E:Nat}(R:U=h*r+C)(T:C<r)(W:V=t*r+E)(M:0<t):U / V <= h / t:=by
 rw[Nat.le_div_iff_mul_le M];have h1:U / V*V <= U:=Nat.div_mul_le_self _ _;have O:U / V* (t*r) <= U / V*V:=Nat.mul_le_mul_left _ (by omega)
 have G:U / V*t*r<(h+1)*r:=by
  rw[Nat.mul_assoc,Nat.add_mul,Nat.one_mul];omega
 have:=Nat.lt_of_mul_lt_mul_right G;omega
theorem Dh{U V q P r t H h:Nat}(M:U=H*P+r)(O:r<P)(R:V=h*P+t)(C:0<V)(E:H<q*h):U / V<q:=by
 rw[Nat.div_lt_iff_lt_mul C];have h1:(H+1)*P <= q*h*P:=Nat.mul_le_mul_right _ E;have G:q* (h*P) <= q*V:=Nat.mul_le_mul_left _ (by omega);rw[Nat.add_mul,Nat.one_mul,Nat.mul_assoc] at h1;omega
theorem wV{U V q r P C t H h:Nat}(M:U=H*P+C)(O:V=h*P+t)(T:t<P)(R:0<V)(W:q*h+r <= H)(X:q <= h+r+1):q <= U / V+1:=by
 rcases q with _ | q
 ·exact Nat.zero_le _
 ·have:q <= U / V:=by
   rw[Nat.le_div_iff_mul_le R,M,O];have h1:q* (h*P+t) <= q* (h*P)+q*P:=by rw[Nat.mul_add];have:=Nat.mul_le_mul_left q (Nat.le_of_lt T);omega
   have E:q*P <= (h+r)*P:=Nat.mul_le_mul_right _ (by omega);have G:((q+1)*h+r)*P <= H*P:=Nat.mul_le_mul_right _ W;rw[Nat.add_mul,Nat.add_mul,Nat.one_mul,Nat.add_mul,Nat.mul_assoc] at G;rw[Nat.add_mul] at E;omega
  omega
theorem wW{q t y0 r h:Nat}(e:q*t+r=h):q* (t*4294967296+y0)+r*4294967296=h*4294967296+q*y0:=by
 rw[Nat.mul_add, <- Nat.mul_assoc, <- e,Nat.add_mul];generalize q*t=a;generalize q*y0=b;omega
theorem Di{_r t b c h r:Nat}(C:c+r=h+b)(E:r+t<b):h+t<c:=by omega
theorem Dj{q C y0 r h t:Nat}(e:q*C+r=h)(E:r*4294967296+t<q*y0):h*4294967296+t<q* (C*4294967296+y0):=
 Di (_r:=r) (wW (y0:=y0) e) E
theorem Dk{q t y0 r h C:Nat}(e:q*t+r=h)(G:q*y0 <= r*4294967296+C):q* (t*4294967296+y0)+0 <= h*4294967296+C:=by
 have E:=wW (y0:=y0) e;generalize q* (t*4294967296+y0)=c at*;generalize q*y0=b at*;clear e;omega
theorem Dl{q h y0:Nat}(r:q<4294967296)(t:2147483648 <= h):q <= h*4294967296+y0+0+1:=by omega
theorem wX{q r t h:Nat}(C:0<q)(e:q*t+r=h):(q-1)*t+ (r+t)=h:=by
 obtain⟨n,rfl⟩:∃n,q=n+1:=⟨q-1,by omega⟩
 rw[Nat.add_sub_cancel];rw[Nat.add_mul,Nat.one_mul] at e;omega
structure Est (D x0 y0 y1 h:Nat):Prop where
 start:D <= h / y1
 far:∀q r,q*y1+r=h -> 4294967296 <= r -> q<4294967296 /\ q <= D+1
 big:∀q,4294967296 <= q -> D <= q-1
 down:∀q r,q*y1+r=h -> r*4294967296+x0<q*y0 -> D <= q-1 /\ 0<q
 up:∀q r,q*y1+r=h -> q*y0 <= r*4294967296+x0 -> q<4294967296 -> q <= D+1
 lt:D<4294967296
theorem Dm{t lv:List Nat}{i m V Z M y0 C h:Nat}(T:Dig t)(X:Dig lv)(h0:V=dg t (i+m))(h1:Z=dg t (i+ (m+1)))(W:M=dg t (i+ (m+2)))(k0:y0=dg lv m)(k1:C=dg lv (m+1))
  (hh:h=M*4294967296+Z) (a3:2147483648 <= C) (a2:sv t i (m+3)<BB*sv lv 0 (m+2)):Est (sv t i (m+3) / sv lv 0 (m+2)) V y0 C h /\ 0<sv lv 0 (m+2):=by
 have U:BB^ (m+1)=BB^m*4294967296:=by rw[Nat.pow_succ, <- iy]
 have p2:BB^ (m+2)=BB^m*4294967296*4294967296:=by rw[Nat.pow_succ,U, <- iy]
 have eU:sv t i (m+3)=(h*4294967296+V)*BB^m+sv t i m:=by
  rw[gG,gG,gG, <- h0, <- h1, <- W,hh,p2,U];generalize BB^m=P;generalize sv t i m=R;grind
 have a0:sv t i (m+3)=h*BB^ (m+1)+sv t i (m+1):=by
  rw[gG t i (m+2),gG t i (m+1), <- h1, <- W,hh,p2,U];generalize BB^m=P;generalize sv t i (m+1)=R;grind
 have eV:sv lv 0 (m+2)=(C*4294967296+y0)*BB^m+sv lv 0 m:=by
  rw[gG,gG,Nat.zero_add,Nat.zero_add, <- k0, <- k1,U];generalize BB^m=P;generalize sv lv 0 m=R;grind
 have O:sv lv 0 (m+2)=C*BB^ (m+1)+sv lv 0 (m+1):=by
  rw[gG lv 0 (m+1),Nat.zero_add, <- k1,Nat.mul_comm C,Nat.add_comm]
 have lU:=lN T i m;have a5:=lN T i (m+1);have lV:=lN X 0 m;have a6:=lN X 0 (m+1);have hP:0<BB^ (m+1):=Nat.pow_pos (by decide)
 have E:0<sv lv 0 (m+2):=by
  rw[O];have:=Nat.mul_pos (show 0<C by omega) hP;omega
 have a4:M <= C:=by
  have g1:M*BB^ (m+2) <= sv t i (m+3):=by rw[gG t i (m+2), <- W,Nat.mul_comm];omega
  have g2:sv lv 0 (m+2)<(C+1)*BB^ (m+1):=by rw[O,Nat.add_mul,Nat.one_mul];omega
  have g3:M*BB^ (m+2)<(C+1)*BB^ (m+2):=by
   rw[Nat.pow_succ BB (m+1), <- Nat.mul_assoc, <- Nat.mul_assoc];have g4:=Nat.mul_lt_mul_of_pos_left g2 (show 0<BB by decide);rw[Nat.mul_comm BB ((C+1)*_)] at g4;rw[Nat.pow_succ BB (m+1), <- Nat.mul_assoc] at g1;omega
  have:=Nat.lt_of_mul_lt_mul_right g3;omega
 have a8:Z<4294967296:=by rw[h1];exact T _
 have a7:V<4294967296:=by rw[h0];exact T _
 have a9:y0<4294967296:=by rw[k0];exact X _
 have a1:sv t i (m+3) / sv lv 0 (m+2)<4294967296:=by
  rw[Nat.div_lt_iff_lt_mul E];exact a2
 refine⟨⟨Dg a0 a5 O (by omega),?_,?_,?_,?_,a1⟩,E⟩
 ·intro q r e hr
  have G:q<4294967296:=by
   rcases Nat.lt_or_ge q 4294967296 with g | g
   ·exact g
   ·have g1:=Nat.mul_le_mul_right C g;have g2:=Nat.mul_le_mul_right 4294967296 a4;omega
  exact⟨G,wV a0 O a6 E (r:=r) (by omega) (by omega)⟩
 ·intro q G;exact Nat.le_sub_one_of_lt (Nat.lt_of_lt_of_le a1 G)
 ·intro q r e Y;have:=Dh (q:=q) eU lU eV E (Dj e Y);exact⟨Nat.le_sub_one_of_lt this,Nat.lt_of_le_of_lt (Nat.zero_le _) this⟩
 ·intro q r e Y G;exact wV eU eV lV E (r:=0) (Dk e Y) (Dl G a3)
theorem Dn{lo l0 lv:List Nat}{i j c b b' q x s:Nat}(t:i+j<lo.length)(h:sv l0 i j+BB^j* (c+b)=sv lo i j+q*sv lv 0 j)(C:s=c+q*dg lv j)
  (E:dg l0 (i+j)+4294967296*b'=x+b+s%4294967296):
  sv l0 i (j+1)+BB^ (j+1)* (s / 4294967296+b')=sv (lo.set (i+j) x) i (j+1)+q*sv lv 0 (j+1):=by
 rw[pg _ _ _ _ t,gG,gG,Nat.zero_add,Nat.pow_succ];have h1:=kK (BB^j) s;have G:BB^j*s=BB^j*c+q* (BB^j*dg lv j):=by rw[C,Nat.mul_add,Nat.mul_left_comm]
 have r:BB^j* (dg l0 (i+j)+4294967296*b')=BB^j* (x+b+s%4294967296):=by rw[E]
 rw[Nat.mul_add,Nat.mul_add,Nat.mul_add, <- Nat.mul_assoc, <- iy] at r;rw[Nat.mul_add (BB^j*BB),Nat.mul_add q];rw[Nat.mul_add] at h;simp only[<- iy] at*;omega
theorem Dp{lo l0 lv:List Nat}{i j c s:Nat}(r:i+j<lo.length)(h:sv lo i j+BB^j*c=sv l0 i j+sv lv 0 j)(t:s=c+ (dg l0 (i+j)+dg lv j)):
  sv (lo.set (i+j) (s%4294967296)) i (j+1)+BB^ (j+1)* (s / 4294967296)=sv l0 i (j+1)+sv lv 0 (j+1):=by
 rw[pg _ _ _ _ r,gG,gG,Nat.zero_add,Nat.pow_succ];have h1:=kK (BB^j) s;have C:BB^j*s=BB^j*c+BB^j*dg l0 (i+j)+BB^j*dg lv j:=by rw[t,Nat.mul_add,Nat.mul_add];omega
 omega
theorem Dq{U V q S:Nat}(t:0<V)(h:U=S+q*V)(C:U / V <= q):q=U / V /\ S=U%V:=by
 have h1:q <= U / V:=by rw[Nat.le_div_iff_mul_le t];omega
 have r:q=U / V:=Nat.le_antisymm h1 C;refine⟨r,?_⟩;have:=Nat.div_add_mod U V;rw[<- r,Nat.mul_comm] at this;omega
theorem Dr{U V q S T X ov:Nat}(t:0<V)(h:U+X=S+q*V)(Z:S<X)(a1:V<X)(hq:q <= U / V+1)(E:T+X*ov=S+V)(a0:T<X):q-1=U / V /\ T=U%V /\ 0<q:=by
 have h1:U<q*V:=by omega
 have O:U / V<q:=by rw[Nat.div_lt_iff_lt_mul t];exact h1
 have r:q=U / V+1:=by omega
 have R:=Nat.div_add_mod U V;have W:=Nat.mod_lt U t;have Y:q*V=V* (U / V)+V:=by rw[r,Nat.add_mul,Nat.one_mul,Nat.mul_comm]
 have M:ov=1:=by
  rcases Nat.lt_or_ge ov 1 with G | G
  ·have:ov=0:=by omega
   subst this;omega
  ·rcases Nat.lt_or_ge 1 ov with C | C
   ·have:=Nat.mul_le_mul_left X C;omega
   ·omega
 subst M;rw[Nat.mul_one] at E;exact⟨by rw[r,Nat.add_sub_cancel],by omega,by rw[r];exact Nat.succ_pos _⟩
theorem Dt(lo r lv:List Nat){i m q x c b:Nat}(t:i+m<lo.length)(h:sv r i m+BB^m* (c+b)=sv lo i m+q*sv lv 0 m)(C:dg r (i+m)=x+b+c):
  sv r i (m+1)=sv (lo.set (i+m) x) i (m+1)+q*sv lv 0 m:=by
 rw[pg _ _ _ _ t,gG,C];rw[Nat.mul_add] at h;rw[Nat.mul_add,Nat.mul_add];omega
theorem Du(lo r lv:List Nat){i m q x c b:Nat}(t:i+m<lo.length)(h:sv r i m+BB^m* (c+b)=sv lo i m+q*sv lv 0 m)(C:dg r (i+m)+4294967296=x+b+c):
  sv r i (m+1)+BB^ (m+1)=sv (lo.set (i+m) x) i (m+1)+q*sv lv 0 m:=by
 rw[pg _ _ _ _ t,gG,Nat.pow_succ];have e:BB^m* (dg r (i+m)+4294967296)=BB^m* (x+b+c):=by rw[C]
 rw[<- iy,Nat.mul_add,Nat.mul_add,Nat.mul_add] at e;rw[Nat.mul_add] at h;omega
theorem Dv(lo l1 lv:List Nat){i m c s:Nat}(r:i+m<lo.length)(h:sv lo i m+BB^m*c=sv l1 i m+sv lv 0 m)(t:s=dg l1 (i+m)+c):
  sv (lo.set (i+m) (s%4294967296)) i (m+1)+BB^ (m+1)* (s / 4294967296)=sv l1 i (m+1)+sv lv 0 m:=by
 rw[pg _ _ _ _ r,gG,Nat.pow_succ];have h1:=kK (BB^m) s;have C:BB^m*s=BB^m*dg l1 (i+m)+BB^m*c:=by rw[t,Nat.mul_add]
 omega
end
end Go.Proofs.YtokagbahdkfagaaGreatDoor
