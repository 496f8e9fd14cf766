/- Parts of this proof: ReadM Held Held2 Held3 Sq Digits Knuth. -/
import Derived.Test.YtdefghfjhgmpfaaGreatDoorMAD
import Derived.Lib.IndexMore
import Derived.Lib.SlTrimSet
import Derived.Lib.Strings
import Derived.Test.YtdefghfjhgmpfaaGreatDoorMAC
import Derived.Deep.RegionHeld3
import Derived.Test.YtdefghfjhgmpfaaGreatDoorMAB
import Derived.Shelf.Strings.SlTrimAscii
namespace Go.Proofs.YtdefghfjhgmpfaaGreatDoor
open Tryz
section
theorem xS(l:List UInt8):(fG l= [] -> Lib.index l [47]= -1) /\ (fG l≠ [] -> Lib.index l [47]=((eH l).length:Nat)):=by
 induction l with
 | nil=>exact⟨fun _=>rfl,fun h=>absurd rfl h⟩
 | cons c l C=>
  by_cases r:c=47
  ·subst r;refine⟨fun h=> ?_,fun _=> ?_⟩
   ·simp[fG] at h
   ·simp[Lib.index,eH]
  ·have t:(c !=47)=true:=by simpa using r
   have h1:fG (c::l)=fG l:=by unfold fG;rw[List.dropWhile_cons,t];rfl
   have E:eH (c::l)=c::eH l:=by unfold eH;rw[List.takeWhile_cons,t];rfl
   have F:([47]:List UInt8).isPrefixOf (c::l)=false:=by
    simp only[List.isPrefixOf,Bool.and_true,beq_eq_false_iff_ne];exact fun e=>r e.symm
   rw[h1,E];unfold Lib.index;rw[F];refine⟨fun h=> ?_,fun h=> ?_⟩
   ·rw[C.1 h];rfl
   ·rw[C.2 h];rw[if_neg (by simp),if_neg (by simp only[beq_iff_eq];omega)];simp
theorem Ef(l:List UInt8):Lib.cut l [47]=(eH l,fJ l,decide (fG l≠ [])):=by
 unfold Lib.cut;by_cases h:fG l= []
 ·rw[(xS l).1 h,if_neg (by omega),qo h];have:fJ l= []:=by unfold fJ;rw[h];rfl
  rw[this,decide_eq_false (by simpa using h)]
 ·rw[(xS l).2 h,if_pos (by omega),decide_eq_true h]
  have t:∀a b l:List UInt8,l=a++47::b -> l.take a.length=a /\ l.drop (a.length+1)=b:=by
   intro a b l e;subst e;simp
  obtain⟨h1,r⟩:=t _ _ _ (rM h);rw[Int.toNat_natCast,h1];show(eH l,l.drop ((eH l).length+1),true)=_;rw[r]
theorem Eg(l:List UInt8):Lib.trimPrefix l [45]=body l:=by
 unfold Lib.trimPrefix Lib.hasPrefix body;cases l with
 | nil=>rfl
 | cons c l=>
  by_cases h:c=45
  ·subst h;simp
  ·rw[if_neg (by simp[List.isPrefixOf];exact fun e=>h e.symm),if_neg (by simpa using h)]
theorem xU{α:Type}{p:α -> Bool}{l:List α}(h:∀c ∈ l.dropWhile p,p c=true):∀c ∈ l,p c=true:=by
 induction l with
 | nil=>intro c r;cases r
 | cons a l C=>
  by_cases t:p a=true
  ·rw[List.dropWhile_cons,if_pos t] at h;intro c r
   rcases List.mem_cons.1 r with rfl | r
   ·exact t
   ·exact C h c r
  ·rw[List.dropWhile_cons,if_neg t] at h;exact absurd (h a (by simp)) t
theorem Eh{α:Type}{p:α -> Bool}{l:List α}(h:∀c ∈ l,p c=true):l.dropWhile p= []:=by
 induction l with
 | nil=>rfl
 | cons a l t=>rw[List.dropWhile_cons,if_pos (h a (by simp))];exact t fun c r=>h c (by simp[r])
theorem xV(l cs:List UInt8):Lib.trimS l cs= []↔∀c ∈ l,cs.contains c=true:=by
 unfold Lib.trimS Lib.trimLeftS Lib.trimRightS;constructor
 ·intro h;have h1:∀c ∈ (l.reverse.dropWhile (cs.contains ·)).reverse,cs.contains c=true:=xU (fun c r=>by rw[h] at r;cases r)
  have t:=xU (p:=(cs.contains ·)) (l:=l.reverse) (fun c r=>h1 c (List.mem_reverse.2 r));exact fun c r=>t c (List.mem_reverse.2 r)
 ·intro h;rw[Eh (l:=l.reverse) (fun c r=>h c (List.mem_reverse.1 r))];rfl
def oQ:List UInt8:=[48,49,50,51,52,53,54,55,56,57]
theorem xW(c:UInt8):oQ.contains c=gm c:=by
 rw[Bool.eq_iff_iff,kS,List.contains_iff_mem];unfold oQ;simp only[List.mem_cons,List.not_mem_nil,or_false];constructor
 ·rintro(rfl | rfl | rfl | rfl | rfl | rfl | rfl | rfl | rfl | rfl) <;> decide
 ·intro h;have r:c.toNat=48 \/ c.toNat=49 \/ c.toNat=50 \/ c.toNat=51 \/ c.toNat=52 \/ c.toNat=53 \/ c.toNat=54 \/ c.toNat=55 \/ c.toNat=56 \/ c.toNat=57:=by omega
  have e:∀d:UInt8,c.toNat=d.toNat -> c=d:=fun d h=>UInt8.toNat_inj.1 h
  rcases r with h | h | h | h | h | h | h | h | h | h
  ·exact .inl (e 48 h)
  ·exact .inr (.inl (e 49 h))
  ·exact .inr (.inr (.inl (e 50 h)))
  ·exact .inr (.inr (.inr (.inl (e 51 h))))
  ·exact .inr (.inr (.inr (.inr (.inl (e 52 h)))))
  ·exact .inr (.inr (.inr (.inr (.inr (.inl (e 53 h))))))
  ·exact .inr (.inr (.inr (.inr (.inr (.inr (.inl (e 54 h)))))))
  ·exact .inr (.inr (.inr (.inr (.inr (.inr (.inr (.inl (e 55 h))))))))
  ·exact .inr (.inr (.inr (.inr (.inr (.inr (.inr (.inr (.inl (e 56 h)))))))))
  ·exact .inr (.inr (.inr (.inr (.inr (.inr (.inr (.inr (.inr (e 57 h)))))))))
theorem xX(l:List UInt8):Lib.trimS l oQ= []↔l.all gm=true:=by
 rw[xV,List.all_eq_true];exact⟨fun h c r=>by rw[<- xW];exact h c r,fun h c r=>by rw[xW];exact h c r⟩
theorem xY(l:List UInt8):Lib.trimS l [48]= []↔l.all (· ==48)=true:=by
 rw[xV,List.all_eq_true];refine⟨fun h c r=> ?_,fun h c r=> ?_⟩
 ·have:=h c r;simpa using this
 ·have:=h c r;simpa using this
def dgs(l:List UInt8):Bool:=decide (l≠ []) && l.all gm
theorem xZ{l:List UInt8}(h:dgs (body l)=false):chk l=14:=by
 unfold dgs at h;unfold chk;by_cases h1:body l= []
 ·rw[if_pos h1]
 ·rw[if_neg h1];rw[decide_eq_true h1,Bool.true_and] at h;rw[if_pos h]
theorem nN{l:List UInt8}(h:dgs (body l)=true):chk l=0 \/ chk l=3:=by
 unfold dgs at h;rw[Bool.and_eq_true,decide_eq_true_iff] at h;unfold chk;rw[if_neg h.1,if_neg (by rw[h.2];simp)];split <;> simp
theorem qx{l:List UInt8}(h:dgs (body l)=true):chk l≠14:=by rcases nN h with h | h <;> omega
theorem qy{l:List UInt8}(h:dgs (body (eH l))=false \/ (fG l≠ [] /\ dgs (fJ l)=false)):fK l=14:=by
 unfold fK;by_cases r:fG l= []
 ·rw[if_pos r]
  rcases h with h | h
  ·rw[qo r] at h;exact xZ h
  ·exact absurd r h.1
 ·rw[if_neg r,if_pos]
  rcases h with h | h
  ·exact .inl (xZ h)
  ·have h:=h.2;unfold dgs at h;by_cases h1:fJ l= []
   ·exact .inr (.inl h1)
   ·rw[decide_eq_true h1,Bool.true_and] at h;exact .inr (.inr h)
theorem oV{l:List UInt8}(h:dgs l=true):¬(l= [] \/ l.all gm=false):=by
 unfold dgs at h;rw[Bool.and_eq_true,decide_eq_true_iff] at h;rintro(e | e)
 ·exact h.1 e
 ·rw[h.2] at e;cases e
theorem y5{l:List UInt8}(h:dgs (body (eH l))=true)(t:fG l≠ [])(r:dgs (fJ l)=true)(C:(fJ l).all (· ==48)=true):fK l=19:=by
 unfold fK;rw[if_neg t,if_neg (fun e=>e.elim (qx h) (oV r)),if_pos C]
theorem uO{l:List UInt8}(h:fG l= []):fK l=chk (eH l):=by rw[xM h,qo h]
theorem Ei{l:List UInt8}(h:dgs (body (eH l))=true)(E:fG l≠ [])(C:dgs (fJ l)=true)(F:(fJ l).all (· ==48)=false)(t:chk (eH l)≠0):fK l=3:=by
 unfold fK;rw[if_neg E,if_neg (fun e=>e.elim (qx h) (oV C)),if_neg (by rw[F];simp),if_pos]
 rcases nN h with r | r
 ·exact absurd r t
 ·exact .inl r
theorem y7{l:List UInt8}(h:dgs l=true):body l=l /\ l.head? ≠some 45:=by
 unfold dgs at h;rw[Bool.and_eq_true] at h;have t:=List.all_eq_true.1 h.2
 have r: l.head? ≠some 45:=by
  intro e;cases l with
  | nil=>cases e
  | cons c l=>
   have r:c=45:=by simpa using e
   have:=kS.1 (t c (by simp));rw[r] at this;simp at this
 exact⟨by unfold body;rw[if_neg r],r⟩
theorem y9{l:List UInt8}(h:dgs l=true)(t:l.all (· ==48)=false):chk l=0↔ l.head? ≠some 48:=by
 obtain⟨h1,C⟩:=y7 h;unfold dgs at h;rw[Bool.and_eq_true,decide_eq_true_iff] at h;unfold chk;rw[h1,if_neg h.1,if_neg (by rw[h.2];simp)];by_cases e: l.head? =some 48
 ·have r:1<l.length:=by
   cases l with
   | nil=>cases e
   | cons c l=>
    cases l with
    | nil=>
     have:c=48:=by simpa using e
     subst this;simp at t
    | cons d l=>simp
  rw[if_pos ⟨e, .inl r⟩];simp[e]
 ·rw[if_neg (fun h=>e h.1)];simp[e]
theorem Ej{l:List UInt8}(h:dgs l=true)(h0: l.head? ≠some 48):dv l=1↔l= [49]:=by
 unfold dgs at h;rw[Bool.and_eq_true,decide_eq_true_iff] at h;have r:=rH l h.1 (List.all_eq_true.1 h.2) (fun e=>absurd e h0);constructor
 ·intro e;rw[e] at r;rw[<- r];simp[Lib.decDigits]
 ·intro e;rw[e];rfl
theorem rR{l:List UInt8}(h:dgs (body (eH l))=true)(F:fG l≠ [])(r:dgs (fJ l)=true)(t:(fJ l).all (· ==48)=false)(h0:chk (eH l)=0):
  fK l=if chk (fJ l)≠0 \/ dv (fJ l)=1 \/ Nat.gcd (dv (body (eH l))) (dv (fJ l))≠1 then 3 else 0:=by
 unfold fK;rw[if_neg F,if_neg (fun e=>e.elim (qx h) (oV r)),if_neg (by rw[t];simp)];by_cases e:(fJ l).head? =some 48
 ·rw[if_pos (.inr (.inl e)),if_pos (.inl (fun e'=>(y9 r t).1 e' e))]
 ·have C:=(y9 r t).2 e;have E:=Ej r e;congr 1;rw[C,E,h0];simp[e]
end
section
open Go.RowKit
section
variable {P:Program} {ops:Array Oper} {Q:Exit -> Act -> World -> Prop} {md:Region.Mode} {S:World -> Prop} {late:Nat -> Bool}
def jJ(md:Region.Mode)(ops:Array Oper)(j i:Nat):Bool:=
 match ops[j]? with
 | some o=>o.after.any fun e=>Region.binds md e && e.on==i
 | none=>false
def qz(md:Region.Mode)(ops:Array Oper)(late:Nat -> Bool)(listed:Array Bool)(i:Nat):Bool:=
 !late i && (List.range ops.size).all fun j=> !late j || listed.getD j true || jJ md ops j i || (List.range ops.size).any fun k=> !listed.getD k true && jJ md ops k i && jJ md ops j k
theorem qA{listed:Array Bool}{i j:Nat}(G:j ∈ Region.ready md ops listed)(h:jJ md ops j i=true)(t:listed.getD i true=false):False:=by
 obtain⟨_,o,O,C⟩:=mem_ready.1 G;unfold jJ at h;rw[O] at h;simp only[Array.any_eq_true,Bool.and_eq_true,beq_iff_eq] at h;obtain⟨n,M,E,F⟩:=h;have h1:=C _ (Array.getElem_mem M) E;rw[F] at h1
 rcases Nat.lt_or_ge i listed.size with r | r
 ·simp[r] at t h1;rw[t] at h1;cases h1
 ·simp[Array.getElem?_eq_none r] at h1
def gF(P:Program)(md:Region.Mode)(ops:Array Oper)(Q:Exit -> Act -> World -> Prop)(S:World -> Prop)(late:Nat -> Bool):Nat -> Array Bool -> Act -> World -> Prop
 | 0,listed,a,w=>Region.ready md ops listed= [] /\ Q .normal a w
 | fuel+1,listed,a,w=>
  (Region.ready md ops listed= [] -> Q .normal a w) /\
  ∀i ∈ Region.ready md ops listed,wpOp P ops Q i (fun a' w'=>(late i=false -> S w') /\ gF P md ops Q S late fuel (listed.setIfInBounds i true) a' w') a w
theorem yc:∀ (fuel:Nat) (listed:Array Bool) (a:Act) (w:World),gF P md ops Q S late fuel listed a w -> wpAny P md ops Q fuel listed a w
 | 0,_,_,_,h=>h
 | fuel+1,_,_,_,h=>⟨h.1,fun i C=>wpOp_mono (fun r w' t=>yc fuel _ r w' t.2) (h.2 i C)⟩
theorem El{i:Nat}{oi:Oper}{v:Value}(X:ops[i]? =some oi)(a2:∀ (j:Nat) (o:Oper) cs b,ops[j]? =some o -> o.op≠ .select cs b)
  (hQ:∀c a w,Q (.panic c) (a.put oi.dst v) w -> Q (.panic c) a w) (ad:late i=false):
  ∀ (fuel:Nat) (listed:Array Bool) (a:Act) (w:World),
   (∀j G,ops[j]? =some G -> j≠i -> listed.getD j true=false -> (∀e ∈ G.after,Region.binds md e=true -> e.on≠i) -> oi.apart ops G=true) ->
   (∀j,j<ops.size -> late j=true -> listed.getD j true=false -> jJ md ops j i=true \/ ∃k,listed.getD k true=false /\ jJ md ops k i=true /\ jJ md ops j k=true) ->
   i ∈ Region.ready md ops listed -> YieldsIf P ops S oi v a -> S w ->
   gF P md ops Q S late fuel (listed.setIfInBounds i true) (a.put oi.dst v) w -> gF P md ops Q S late (fuel+1) listed a w:=by
 intro fuel
 induction fuel with
 | zero=>
  intro listed a w _ _ C U M H;refine⟨fun h=>(by rw[h] at C;cases C),fun j F=> ?_⟩;by_cases r:j=i
  ·subst r;exact U.wpOp X M ⟨fun _=>M,H⟩
  ·have:=ready_mono F r;rw[H.1] at this;cases this
 | succ fuel ih=>
  intro listed a w a0 a1 C U M H;have T:=(mem_ready.1 C).1;refine⟨fun h=>(by rw[h] at C;cases C),fun j F=> ?_⟩;by_cases r:j=i
  ·subst r;exact U.wpOp X M ⟨fun _=>M,H⟩
  ·have h1:=H.2 j (ready_mono F r);obtain⟨Y,G,R,a3⟩:=mem_ready.1 F
   have a6:late j=false:=by
    rcases W:late j with _ | _
    ·rfl
    ·rcases a1 j (Array.getElem?_eq_some_iff.1 R).1 W Y with h | ⟨k,t,_,h⟩
     ·exact(qA F h T).elim
     ·exact(qA F h t).elim
   have ac:∀e ∈ G.after,Region.binds md e=true -> e.on≠i:=fun e he W a4=>by
    have h1:=a3 e he W;have h0:=(mem_ready.1 C).1;rw[a4] at h1
    rcases Nat.lt_or_ge i listed.size with V | V
    ·simp[V] at h0 h1;rw[h0] at h1;cases h1
    ·simp[Array.getElem?_eq_none V] at h1
   have h2:=wpOp_putIf R (a0 j G R r Y ac) (fun cs b=>a2 i oi cs b X) (fun cs b=>a2 j G cs b R) hQ U h1
   have Z:∀k,(listed.setIfInBounds j true).getD k true=false -> listed.getD k true=false:=fun k t=>by
    by_cases O:j=k
    ·subst O;exact Y
    ·rw[getD_set_ne true O] at t;exact t
   have a5:∀k ok,ops[k]? =some ok -> k≠i -> (listed.setIfInBounds j true).getD k true=false ->
     (∀e ∈ ok.after,Region.binds md e=true -> e.on≠i) -> oi.apart ops ok=true:=fun k ok t a7 T ab=>
    a0 k ok t a7 (Z k T) ab
   have a8:∀m,m<ops.size -> late m=true -> (listed.setIfInBounds j true).getD m true=false -> jJ md ops m i=true \/ ∃k,(listed.setIfInBounds j true).getD k true=false /\ jJ md ops k i=true /\ jJ md ops m k=true:=fun m a9 hm aa=>by
    rcases a1 m a9 hm (Z m aa) with h | ⟨k,t,E,h4⟩
    ·exact .inl h
    ·refine .inr ⟨k,?_,E,h4⟩;have O:j≠k:=fun e=>by subst e;exact qA F E T
     rw[getD_set_ne true O];exact t
   refine wpOp_mono (fun a' w' E=>⟨E.2.1,ih (listed.setIfInBounds j true) a' w' a5 a8 (ready_mono C (Ne.symm r)) E.1 (E.2.1 a6) ?_⟩) h2;rw[Array.setIfInBounds_comm _ _ r];exact E.2.2
theorem l5{i:Nat}{oi:Oper}{v:Value}{fuel:Nat}{listed:Array Bool}{a:Act}{w:World}(t:ops[i]? =some oi)
  (W:Region.noSelect ops=true) (R:Region.free md ops listed i=true) (V:(Region.ready md ops listed).contains i=true) (r:qz md ops late listed i=true)
  (F:∀c a w,Q (.panic c) (a.put oi.dst v) w -> Q (.panic c) a w) (Y:YieldsIf P ops S oi v a) (G:S w)
  (h:gF P md ops Q S late fuel (listed.setIfInBounds i true) (a.put oi.dst v) w):gF P md ops Q S late (fuel+1) listed a w:=by
 unfold qz at r;simp only[Bool.and_eq_true,Bool.not_eq_true',List.all_eq_true,List.mem_range,Bool.or_eq_true,List.any_eq_true] at r;obtain⟨M,O⟩:=r;refine El t (Region.noSelect_spec W) F M fuel listed a w (Region.free_spec t R) (fun j U T X=> ?_) (by simpa using V) Y G h
 ·rcases O j U with ((h1 | h1) | h1) | ⟨k,_,⟨h1,C⟩,E⟩
  ·rw[T] at h1;cases h1
  ·rw[X] at h1;cases h1
  ·exact .inl h1
  ·exact .inr ⟨k,by simpa using h1,C,E⟩
theorem jf{i:Nat}{oi:Oper}{v:Value}{fuel:Nat}{listed:Array Bool}{a:Act}{w:World}(d:Option Nat)(G:ops[i]? =some oi)(C:oi.dst=d)
  (O:Region.noSelect ops=true) (F:Region.free md ops listed i=true) (M:(Region.ready md ops listed).contains i=true) (E:qz md ops late listed i=true)
  (r:∀c a w,Q (.panic c) (a.put oi.dst v) w -> Q (.panic c) a w) (R:YieldsIf P ops S oi v a) (t:S w)
  (h:gF P md ops Q S late fuel (listed.setIfInBounds i true) (a.put d v) w):gF P md ops Q S late (fuel+1) listed a w:=
 l5 G O F M E r R t (C ▸ h)
def gG(P:Program)(md:Region.Mode)(ops:Array Oper)(Q:Exit -> Act -> World -> Prop)(S:World -> Prop)(late:Nat -> Bool)(fuel:Nat)(listed:Array Bool)(a:Act)(w:World)(rs:List Nat):Prop:=
 ∀i ∈ rs,wpOp P ops Q i (fun a' w'=>(late i=false -> S w') /\ gF P md ops Q S late fuel (listed.setIfInBounds i true) a' w') a w
theorem gG.nil{fuel:Nat}{listed:Array Bool}{a:Act}{w:World}:gG P md ops Q S late fuel listed a w []:=fun _ h=>by cases h
theorem gG.cons{fuel:Nat}{listed:Array Bool}{a:Act}{w:World}{i:Nat}{o:Oper}{rs:List Nat}(G:ops[i]? =some o)
  (h:∀r:Act -> World -> Prop,Shut (∀a w,(late i=false -> S w) -> gF P md ops Q S late fuel (listed.setIfInBounds i true) a w -> r a w) -> if Region.wanted o (yielded ops a.tmps)=true then Oper.wp P o a w r Q else r (a.put o.dst undef) w)
  (M:gG P md ops Q S late fuel listed a w rs):gG P md ops Q S late fuel listed a w (i::rs):=fun j t=>by
 rcases List.mem_cons.1 t with rfl | t
 ·exact wpOp_step G (fun r C=>h r (fun a w E F=>C a w ⟨E,F⟩))
 ·exact M j t
theorem lw{rs:List Nat}{fuel:Nat}{listed:Array Bool}{a:Act}{w:World}(r:Region.ready md ops listed=rs)(t:rs≠ [])
  (h:gG P md ops Q S late fuel listed a w rs):gF P md ops Q S late (fuel+1) listed a w:=⟨fun h0=>absurd (r ▸ h0) t,r ▸ h⟩
theorem Em{listed:Array Bool}{a:Act}{w:World}(r:Region.ready md ops listed= [])(h:Q .normal a w):
  ∀fuel,gF P md ops Q S late fuel listed a w
 | 0=>⟨r,h⟩
 | _+1=>⟨fun _=>h,by rw[r];simp⟩
theorem kT{t:Nat}{a:Act}{w:World}(S:World -> Prop)(late:Nat -> Bool)(r:P.follows .mixedOrders=true)
  (h:gF P .any ops Q S late ops.size (Array.replicate ops.size false) a w.drew):(Code.region t ops true).wp P Q a w:=
 wp_region_any r (yc _ _ _ _ h)
end
end
section
open Go.RowKit
section
variable {P:Program} {ops:Array Oper} {Q:Exit -> Act -> World -> Prop} {md:Region.Mode} {S:World -> Prop} {late:Nat -> Bool}
theorem En{i:Nat}{oi:Oper}{v:Value}(R:ops[i]? =some oi)(Y:∀ (j:Nat) (o:Oper) cs b,ops[j]? =some o -> o.op≠ .select cs b)
  (hQ:∀c a w,Q (.panic c) (a.put oi.dst v) w -> Q (.panic c) a w) (a5:late i=true):
  ∀ (fuel:Nat) (listed:Array Bool) (a:Act) (w:World),
   (∀j C,ops[j]? =some C -> j≠i -> listed.getD j true=false -> (∀e ∈ C.after,Region.binds md e=true -> e.on≠i) -> oi.apart ops C=true) ->
   i ∈ Region.ready md ops listed -> YieldsIf P ops (fun _=>True) oi v a ->
   gF P md ops Q S late fuel (listed.setIfInBounds i true) (a.put oi.dst v) w -> gF P md ops Q S late (fuel+1) listed a w:=by
 intro fuel;have X:¬late i=false:=by rw[a5];decide
 induction fuel with
 | zero=>
  intro listed a w _ t G H;refine⟨fun h=>(by rw[h] at t;cases t),fun j E=> ?_⟩;by_cases r:j=i
  ·subst r;exact G.wpOp R trivial ⟨fun h=>absurd h X,H⟩
  ·have:=ready_mono E r;rw[H.1] at this;cases this
 | succ fuel ih=>
  intro listed a w U t G H;have Z:=(mem_ready.1 t).1;refine⟨fun h=>(by rw[h] at t;cases t),fun j E=> ?_⟩;by_cases r:j=i
  ·subst r;exact G.wpOp R trivial ⟨fun h=>absurd h X,H⟩
  ·have h1:=H.2 j (ready_mono E r);obtain⟨W,C,T,a0⟩:=mem_ready.1 E
   have a7:∀e ∈ C.after,Region.binds md e=true -> e.on≠i:=fun e he hb a2=>by
    have h1:=a0 e he hb;have h0:=(mem_ready.1 t).1;rw[a2] at h1
    rcases Nat.lt_or_ge i listed.size with M | M
    ·simp[M] at h0 h1;rw[h0] at h1;cases h1
    ·simp[Array.getElem?_eq_none M] at h1
   have h2:=wpOp_putIf T (U j C T r W a7) (fun cs b=>Y i oi cs b R) (fun cs b=>Y j C cs b T) hQ G h1
   have a1:∀k,(listed.setIfInBounds j true).getD k true=false -> listed.getD k true=false:=fun k F=>by
    by_cases V:j=k
    ·subst V;exact W
    ·rw[getD_set_ne true V] at F;exact F
   have a3:∀k ok,ops[k]? =some ok -> k≠i -> (listed.setIfInBounds j true).getD k true=false ->
     (∀e ∈ ok.after,Region.binds md e=true -> e.on≠i) -> oi.apart ops ok=true:=fun k ok F a4 Z a6=>
    U k ok F a4 (a1 k Z) a6
   refine wpOp_mono (fun a' w' O=>⟨O.2.1,ih (listed.setIfInBounds j true) a' w' a3 (ready_mono t (Ne.symm r)) O.1 ?_⟩) h2;rw[Array.setIfInBounds_comm _ _ r];exact O.2.2
theorem Eo{i:Nat}{oi:Oper}{v:Value}{fuel:Nat}{listed:Array Bool}{a:Act}{w:World}(d:Option Nat)(r:ops[i]? =some oi)(C:oi.dst=d)
  (M:Region.noSelect ops=true) (E:Region.free md ops listed i=true) (G:(Region.ready md ops listed).contains i=true) (F:late i=true)
  (t:∀c a w,Q (.panic c) (a.put oi.dst v) w -> Q (.panic c) a w) (O:YieldsIf P ops (fun _=>True) oi v a)
  (h:gF P md ops Q S late fuel (listed.setIfInBounds i true) (a.put d v) w):gF P md ops Q S late (fuel+1) listed a w:=
 En r (Region.noSelect_spec M) t F fuel listed a w (Region.free_spec r E) (by simpa using G) O (C ▸ h)
end
end
section
open Go.RowKit
section
variable {P:Program} {ops:Array Oper} {Q:Exit -> Act -> World -> Prop} {md:Region.Mode} {S:World -> Prop} {late:Nat -> Bool}
def uP(md:Region.Mode)(ops:Array Oper)(late:Nat -> Bool)(listed:Array Bool)(i:Nat)(B:List Nat):Bool:=
 !late i && B.contains i && B.all (fun b=> !listed.getD b true && (b==i || B.any fun k=>jJ md ops b k)) && (List.range ops.size).all fun j=> !late j || listed.getD j true || B.any fun k=>jJ md ops j k
theorem Ep{i:Nat}{oi:Oper}{v:Value}(B:List Nat)(W:ops[i]? =some oi)(a4:∀ (j:Nat) (o:Oper) cs b,ops[j]? =some o -> o.op≠ .select cs b)
  (hQ:∀c a w,Q (.panic c) (a.put oi.dst v) w -> Q (.panic c) a w) (aj:late i=false) (a6:∀b ∈ B,b≠i -> ∃k ∈ B,jJ md ops b k=true):
  ∀ (fuel:Nat) (listed:Array Bool) (a:Act) (w:World),
   (∀j E,ops[j]? =some E -> j≠i -> listed.getD j true=false -> (∀e ∈ E.after,Region.binds md e=true -> e.on≠i) -> oi.apart ops E=true) ->
   (∀b ∈ B,listed.getD b true=false) ->
   (∀j,j<ops.size -> late j=true -> listed.getD j true=false -> ∃k ∈ B,jJ md ops j k=true) ->
   i ∈ Region.ready md ops listed -> YieldsIf P ops S oi v a -> S w ->
   gF P md ops Q S late fuel (listed.setIfInBounds i true) (a.put oi.dst v) w -> gF P md ops Q S late (fuel+1) listed a w:=by
 intro fuel
 induction fuel with
 | zero=>
  intro listed a w _ _ _ C T M H;refine⟨fun h=>(by rw[h] at C;cases C),fun j G=> ?_⟩;by_cases r:j=i
  ·subst r;exact T.wpOp W M ⟨fun _=>M,H⟩
  ·have:=ready_mono G r;rw[H.1] at this;cases this
 | succ fuel ih=>
  intro listed a w a1 V a3 C T M H;have a5:=(mem_ready.1 C).1;refine⟨fun h=>(by rw[h] at C;cases C),fun j G=> ?_⟩;by_cases r:j=i
  ·subst r;exact T.wpOp W M ⟨fun _=>M,H⟩
  ·have h1:=H.2 j (ready_mono G r);obtain⟨X,E,R,a8⟩:=mem_ready.1 G
   have ab:j ∉ B:=fun Y=>by
    obtain⟨k,t,Z⟩:=a6 j Y r;exact qA G Z (V k t)
   have ad:late j=false:=by
    rcases F:late j with _ | _
    ·rfl
    ·obtain⟨k,t,Z⟩:=a3 j (Array.getElem?_eq_some_iff.1 R).1 F X;exact(qA G Z (V k t)).elim
   have ai:∀e ∈ E.after,Region.binds md e=true -> e.on≠i:=fun e he F a9=>by
    have h1:=a8 e he F;have h0:=(mem_ready.1 C).1;rw[a9] at h1
    rcases Nat.lt_or_ge i listed.size with U | U
    ·simp[U] at h0 h1;rw[h0] at h1;cases h1
    ·simp[Array.getElem?_eq_none U] at h1
   have h2:=wpOp_putIf R (a1 j E R r X ai) (fun cs b=>a4 i oi cs b W) (fun cs b=>a4 j E cs b R) hQ T h1
   have a0:∀k,(listed.setIfInBounds j true).getD k true=false -> listed.getD k true=false:=fun k t=>by
    by_cases a2:j=k
    ·subst a2;exact X
    ·rw[getD_set_ne true a2] at t;exact t
   have aa:∀k ok,ops[k]? =some ok -> k≠i -> (listed.setIfInBounds j true).getD k true=false ->
     (∀e ∈ ok.after,Region.binds md e=true -> e.on≠i) -> oi.apart ops ok=true:=fun k ok t ae a5 ah=>
    a1 k ok t ae (a0 k a5) ah
   have a7:∀b ∈ B,(listed.setIfInBounds j true).getD b true=false:=fun b F=>by
    have ac:j≠b:=by rintro rfl;exact ab F
    rw[getD_set_ne true ac];exact V b F
   refine wpOp_mono (fun a' w' O=>⟨O.2.1,ih (listed.setIfInBounds j true) a' w' aa a7 (fun m af Y ag=>a3 m af Y (a0 m ag)) (ready_mono C (Ne.symm r)) O.1 (O.2.1 ad) ?_⟩) h2;rw[Array.setIfInBounds_comm _ _ r];exact O.2.2
theorem Er{i:Nat}{oi:Oper}{v:Value}{fuel:Nat}{listed:Array Bool}{a:Act}{w:World}(B:List Nat)(d:Option Nat)(E:ops[i]? =some oi)(M:oi.dst=d)
  (Y:Region.noSelect ops=true) (T:Region.free md ops listed i=true) (X:(Region.ready md ops listed).contains i=true) (t:uP md ops late listed i B=true)
  (F:∀c a w,Q (.panic c) (a.put oi.dst v) w -> Q (.panic c) a w) (hy:YieldsIf P ops S oi v a) (G:S w)
  (h:gF P md ops Q S late fuel (listed.setIfInBounds i true) (a.put d v) w):gF P md ops Q S late (fuel+1) listed a w:=by
 unfold uP at t;simp only[Bool.and_eq_true,Bool.not_eq_true',List.all_eq_true,List.mem_range,Bool.or_eq_true,List.any_eq_true,beq_iff_eq] at t;obtain⟨⟨⟨O,_⟩,C⟩,R⟩:=t;refine Ep B E (Region.noSelect_spec Y) F O (fun b r W=> ?_) fuel listed a w (Region.free_spec E T) (fun b r=>(C b r).1) (fun j V U Z=> ?_) (by simpa using X) hy G (M ▸ h)
 ·rcases(C b r).2 with h1 | h1
  ·exact absurd h1 W
  ·exact h1
 ·rcases R j V with (h1 | h1) | h1
  ·rw[U] at h1;cases h1
  ·rw[Z] at h1;cases h1
  ·exact h1
end
end
section
open Go.RowKit
section
variable {P:Program} {ops:Array Oper} {Q:Exit -> Act -> World -> Prop} {md:Region.Mode} {S:World -> Prop} {late:Nat -> Bool} {oi:Oper} {v:Value} {fuel:Nat} {listed:Array Bool} {a b:Act} {w:World}
theorem tB(i:Nat)(B:List Nat)(d:Option Nat)(t:S w)(h:gF P md ops Q S late fuel (listed.setIfInBounds i true) b w)(O:ops[i]? =some oi:=by rfl)(U:YieldsIf P ops S oi v a:=by exact Or.inl ⟨by rfl,by intro w' C;(try dsimp only at C);go_simp;try with_reducible rfl⟩)
    (E:a.put d v=b:=by(try simp only[Act.put,List.setIfInBounds_toArray,List.set_cons_zero,List.set_cons_succ]);rfl) (F:oi.dst=d:=by rfl)
    (T:Region.noSelect ops=true:=by kernel_rfl) (M:Region.free md ops listed i=true:=by kernel_rfl) (R:(Region.ready md ops listed).contains i=true:=by kernel_rfl) (G:uP md ops late listed i B=true:=by kernel_rfl)
    (r:∀c a w,Q (.panic c) (a.put oi.dst v) w -> Q (.panic c) a w:=by exact fun _ _ _ h=>h):gF P md ops Q S late (fuel+1) listed a w:=Er B d O F T M R G r U t (by rw[E];exact h)
theorem rD(i:Nat)(h:∀r:Act -> World -> Prop,Shut (∀a w,(late i=false -> S w) -> gF P md ops Q S late fuel (listed.setIfInBounds i true) a w -> r a w) -> if Region.wanted oi (yielded ops a.tmps)=true then Oper.wp P oi a w r Q else r (a.put oi.dst undef) w)
    (C:Region.ready md ops listed= [i]:=by kernel_rfl) (t:ops[i]? =some oi:=by rfl):gF P md ops Q S late (fuel+1) listed a w:=lw C (by simp) (gG.cons t h gG.nil)
theorem dN(h:Q .normal a w)(fuel:Nat)(r:Region.ready md ops listed= []:=by kernel_rfl):gF P md ops Q S late fuel listed a w:=Em r h fuel
theorem rL{t:Nat}{w0:World}(_:∀w',Below w0.heap.size w0 w' -> S w')(late:Nat -> Bool)(h:gF P .any ops Q S late ops.size (Array.replicate ops.size false) a w.drew)(r:P.follows .mixedOrders=true:=by kernel_rfl):(Code.region t ops true).wp P Q a w:=kT S late r h
theorem tKs(i:Nat)(d:Nat)(t:S w)(h:gF P md ops Q S late fuel (listed.setIfInBounds i true) b w)(O:ops[i]? =some oi:=by rfl)(U:YieldsIf P ops S oi v a:=by exact Or.inl ⟨by rfl,by intro w' C;(try dsimp only at C);go_simp;try with_reducible rfl⟩)
    (E:a.put (some d) v=b:=by(try simp only[Act.put,List.setIfInBounds_toArray,List.set_cons_zero,List.set_cons_succ]);rfl) (F:oi.dst=some d:=by rfl)
    (T:Region.noSelect ops=true:=by kernel_rfl) (M:Region.free md ops listed i=true:=by kernel_rfl) (R:(Region.ready md ops listed).contains i=true:=by kernel_rfl) (G:qz md ops late listed i=true:=by kernel_rfl)
    (r:∀c a w,Q (.panic c) (a.put oi.dst v) w -> Q (.panic c) a w:=by exact fun _ _ _ h=>h):gF P md ops Q S late (fuel+1) listed a w:=jf (some d) O F T M R G r U t (by rw[E];exact h)
theorem tUs(i:Nat)(d:Nat)(t:S w)(h:gF P md ops Q S late fuel (listed.setIfInBounds i true) b w)(M:ops[i]? =some oi:=by rfl)(T:YieldsIf P ops S oi undef a:=by exact Or.inr ⟨by rfl,rfl⟩)
    (C:a.put (some d) undef=b:=by(try simp only[Act.put,List.setIfInBounds_toArray,List.set_cons_zero,List.set_cons_succ]);rfl) (E:oi.dst=some d:=by rfl)
    (R:Region.noSelect ops=true:=by kernel_rfl) (G:Region.free md ops listed i=true:=by kernel_rfl) (O:(Region.ready md ops listed).contains i=true:=by kernel_rfl) (F:qz md ops late listed i=true:=by kernel_rfl)
    (r:∀c a w,Q (.panic c) (a.put oi.dst undef) w -> Q (.panic c) a w:=by exact fun _ _ _ h=>h):gF P md ops Q S late (fuel+1) listed a w:=jf (some d) M E R G O F r T t (by rw[C];exact h)
theorem tWs(i:Nat)(d:Nat)(h:gF P md ops Q S late fuel (listed.setIfInBounds i true) b w)(F:ops[i]? =some oi:=by rfl)(R:YieldsIf P ops (fun _=>True) oi v a:=by exact Or.inl ⟨by rfl,by intro w' _;go_simp;try with_reducible rfl⟩)
    (t:a.put (some d) v=b:=by(try simp only[Act.put,List.setIfInBounds_toArray,List.set_cons_zero,List.set_cons_succ]);rfl) (C:oi.dst=some d:=by rfl)
    (O:Region.noSelect ops=true:=by kernel_rfl) (E:Region.free md ops listed i=true:=by kernel_rfl) (M:(Region.ready md ops listed).contains i=true:=by kernel_rfl) (G:late i=true:=by rfl)
    (r:∀c a w,Q (.panic c) (a.put oi.dst v) w -> Q (.panic c) a w:=by exact fun _ _ _ h=>h):gF P md ops Q S late (fuel+1) listed a w:=Eo (some d) F C O E M G r R (by rw[t];exact h)
theorem kH{c:Prop}{S:World -> Prop}{B K:Act -> World -> Prop}(t:Shut (∀a w,(c -> S w) -> B a w -> K a w)){a:Act}{w:World}(h:S w)(r:B a w):K a w:=t.out _ _ (fun _=>h) r
theorem kL{S:World -> Prop}{B K:Act -> World -> Prop}{c:Bool}(t:Shut (∀a w,(c=false -> S w) -> B a w -> K a w)){a:Act}{w:World}(r:B a w)(h:c=false -> False:=by intro h;simp at h):K a w:=t.out _ _ (fun x=>(h x).elim) r
end
end
section
open Go.RowKit
theorem Es(s:ByteArray)(w:World)(h:s.size <= 9223372036854775807):
  Calls prog 147 #[.string s, .string ⟨#[48,49,50,51,52,53,54,55,56,57]⟩] w fun e w'=>e= .returned (.string ⟨(Lib.trimS s.data.toList oQ).toArray⟩) /\ Below w.heap.size w w':=
 Any.strings_Trim_laid Tryz.x9 kR s ⟨#[48,49,50,51,52,53,54,55,56,57]⟩ w h dC (ascii_of_all dC)
theorem Et(s:ByteArray)(w:World)(h:s.size <= 9223372036854775807):
  Calls prog 147 #[.string s, .string ⟨#[48]⟩] w fun e w'=>e= .returned (.string ⟨(Lib.trimS s.data.toList [48]).toArray⟩) /\ Below w.heap.size w w':=
 Any.strings_Trim_laid Tryz.x9 kR s ⟨#[48]⟩ w h dC (ascii_of_all dC)
set_option maxRecDepth 100000 in
set_option maxHeartbeats 3200000 in
theorem uQ(s:ByteArray)(w:World)(W:s.size <= 9223372036854775807):
  Calls prog 145 #[.string s] w fun e w'=>e= .returned (.bool (dgs s.data.toList)) /\ Below w.heap.size w w':=by
 obtain⟨l,C⟩:=eX (s.data.toList);have G:=lH C;have O:=lH (fun w=>Es s w W);rw[<- C];by_cases h0:l= []
 ·subst h0
  have X:s=⟨#[]⟩:=by
   cases s with
   | mk d=>congr 1;exact Array.toList_inj.1 G.o.symm
  subst X;clear C G O;go_enter func145,ntmps145;go_wp2_with fail
  go_returns;exact⟨rfl,Below.refl _ _⟩
 ·obtain⟨R,T⟩:=oP (D:=s) (by rw[<- C];exact h0);clear C;go_enter func145,ntmps145;go_wp2_with fail
  refine(O.o _).mono ?_;rintro e w1 ⟨rfl,E⟩;rw[<- G.o];by_cases h:l.all gm=true
  ·have r:=(xX l).2 h;rw[r];have M:=lH E;have F:Hid (dgs l=true):=lH (by unfold dgs;rw[h,decide_eq_true h0];rfl);clear E r h R T h0;go_wp2_with fail
   go_returns;exact⟨by rw[F.o];rfl,M.o⟩
  ·have r:Lib.trimS l oQ≠ []:=fun e=>h ((xX l).1 e)
   obtain⟨t,U⟩:=eX (Lib.trimS l oQ);rw[<- U] at r ⊢;obtain⟨Y,Z⟩:=oP (D:=⟨t.toArray⟩) (by simpa using r);have M:=lH E;have F:Hid (dgs l=false):=lH (by unfold dgs;rw[Bool.not_eq_true] at h;rw[h,Bool.and_false]);have V:Hid (t.isEmpty=false):=lH (by simpa using r);clear E h R T h0 U r;go_wp2_with fail
   go_returns;refine⟨?_,M.o⟩;rw[F.o];show Ending.returned (.bool t.isEmpty)=_;rw[V.o]
end
section
def sv(l:List Nat)(i:Nat):Nat -> Nat
 | 0=>0
 | j+1=>sv l i j+BB^j*dg l (i+j)
theorem yf(l:List Nat)(i:Nat):sv l i 0=0:=rfl
theorem gK(l:List Nat)(i j:Nat):sv l i (j+1)=sv l i j+BB^j*dg l (i+j):=rfl
theorem lQ{l:List Nat}(h:Dig l)(i j:Nat):sv l i j<BB^j:=by
 induction j with
 | zero=>simp[sv]
 | succ j t=>
  rw[gK,Nat.pow_succ];have h1:dg l (i+j)+1 <= BB:=by have:=h (i+j);simp only[ik];omega
  have r:=Nat.mul_le_mul_left (BB^j) h1;rw[Nat.mul_add] at r;omega
theorem uR{l m:List Nat}{i j:Nat}(h:∀t,t<j -> dg l (i+t)=dg m (i+t)):sv l i j=sv m i j:=by
 induction j with
 | zero=>rfl
 | succ j r=>rw[gK,gK,r (fun t C=>h t (by omega)),h j (by omega)]
theorem Eu(l:List Nat)(i j k x:Nat)(h:i+j <= k):sv (l.set k x) i j=sv l i j:=
 uR fun t r=>by rw[iB,if_neg (by omega)]
theorem qB(l:List Nat)(i j x:Nat)(h:i+j<l.length):sv (l.set (i+j) x) i (j+1)=sv l i j+BB^j*x:=by
 rw[gK,Eu _ _ _ _ _ (Nat.le_refl _),iB,if_pos ⟨rfl,h⟩]
theorem Ev(l:List Nat)(j:Nat):sv l 0 j=val (l.take j):=by
 induction j with
 | zero=>simp[sv,val]
 | succ j h=>rw[gK,ib,h,Nat.zero_add]
theorem Ew{U V h t r C E:Nat}(O:U=h*r+C)(R:C<r)(T:V=t*r+E)(G:0<t):U / V <= h / t:=by
 rw[Nat.le_div_iff_mul_le G];have h1:U / V*V <= U:=Nat.div_mul_le_self _ _;have M:U / V* (t*r) <= U / V*V:=Nat.mul_le_mul_left _ (by omega)
 have F:U / V*t*r<(h+1)*r:=by
  rw[Nat.mul_assoc,Nat.add_mul,Nat.one_mul];omega
 have:=Nat.lt_of_mul_lt_mul_right F;omega
theorem Ex{U V q P r t H h:Nat}(G:U=H*P+r)(M:r<P)(O:V=h*P+t)(C:0<V)(E:H<q*h):U / V<q:=by
 rw[Nat.div_lt_iff_lt_mul C];have h1:(H+1)*P <= q*h*P:=Nat.mul_le_mul_right _ E;have F:q* (h*P) <= q*V:=Nat.mul_le_mul_left _ (by omega);rw[Nat.add_mul,Nat.one_mul,Nat.mul_assoc] at h1;omega
theorem yg{U V q r P C t H h:Nat}(G:U=H*P+C)(M:V=h*P+t)(R:t<P)(O:0<V)(T:q*h+r <= H)(W:q <= h+r+1):q <= U / V+1:=by
 rcases q with _ | q
 ·exact Nat.zero_le _
 ·have:q <= U / V:=by
   rw[Nat.le_div_iff_mul_le O,G,M];have h1:q* (h*P+t) <= q* (h*P)+q*P:=by rw[Nat.mul_add];have:=Nat.mul_le_mul_left q (Nat.le_of_lt R);omega
   have E:q*P <= (h+r)*P:=Nat.mul_le_mul_right _ (by omega);have F:((q+1)*h+r)*P <= H*P:=Nat.mul_le_mul_right _ T;rw[Nat.add_mul,Nat.add_mul,Nat.one_mul,Nat.add_mul,Nat.mul_assoc] at F;rw[Nat.add_mul] at E;omega
  omega
theorem yh{q t y0 r h:Nat}(e:q*t+r=h):q* (t*4294967296+y0)+r*4294967296=h*4294967296+q*y0:=by
 rw[Nat.mul_add, <- Nat.mul_assoc, <- e,Nat.add_mul];generalize q*t=a;generalize q*y0=b;omega
theorem Ey{_r t b c h r:Nat}(C:c+r=h+b)(E:r+t<b):h+t<c:=by omega
theorem Ez{q C y0 r h t:Nat}(e:q*C+r=h)(E:r*4294967296+t<q*y0):h*4294967296+t<q* (C*4294967296+y0):=
 Ey (_r:=r) (yh (y0:=y0) e) E
theorem EA{q t y0 r h C:Nat}(e:q*t+r=h)(F:q*y0 <= r*4294967296+C):q* (t*4294967296+y0)+0 <= h*4294967296+C:=by
 have E:=yh (y0:=y0) e;generalize q* (t*4294967296+y0)=c at*;generalize q*y0=b at*;clear e;omega
theorem EB{q h y0:Nat}(r:q<4294967296)(t:2147483648 <= h):q <= h*4294967296+y0+0+1:=by omega
theorem yj{q r t h:Nat}(C:0<q)(e:q*t+r=h):(q-1)*t+ (r+t)=h:=by
 obtain⟨n,rfl⟩:∃n,q=n+1:=⟨q-1,by omega⟩
 rw[Nat.add_sub_cancel];rw[Nat.add_mul,Nat.one_mul] at e;omega
structure Est (D x0 y0 y1 h:Nat):Prop where
 start:D <= h / y1
 far:∀q r,q*y1+r=h -> 4294967296 <= r -> q<4294967296 /\ q <= D+1
 big:∀q,4294967296 <= q -> D <= q-1
 down:∀q r,q*y1+r=h -> r*4294967296+x0<q*y0 -> D <= q-1 /\ 0<q
 up:∀q r,q*y1+r=h -> q*y0 <= r*4294967296+x0 -> q<4294967296 -> q <= D+1
 lt:D<4294967296
theorem EC{t lv:List Nat}{i m U Y G y0 C h:Nat}(O:Dig t)(W:Dig lv)(h0:U=dg t (i+m))(h1:Y=dg t (i+ (m+1)))(V:G=dg t (i+ (m+2)))(k0:y0=dg lv m)(k1:C=dg lv (m+1))
  (hh:h=G*4294967296+Y) (a3:2147483648 <= C) (a2:sv t i (m+3)<BB*sv lv 0 (m+2)):Est (sv t i (m+3) / sv lv 0 (m+2)) U y0 C h /\ 0<sv lv 0 (m+2):=by
 have T:BB^ (m+1)=BB^m*4294967296:=by rw[Nat.pow_succ, <- ik]
 have p2:BB^ (m+2)=BB^m*4294967296*4294967296:=by rw[Nat.pow_succ,T, <- ik]
 have Z:sv t i (m+3)=(h*4294967296+U)*BB^m+sv t i m:=by
  rw[gK,gK,gK, <- h0, <- h1, <- V,hh,p2,T];generalize BB^m=P;generalize sv t i m=R;grind
 have a0:sv t i (m+3)=h*BB^ (m+1)+sv t i (m+1):=by
  rw[gK t i (m+2),gK t i (m+1), <- h1, <- V,hh,p2,T];generalize BB^m=P;generalize sv t i (m+1)=R;grind
 have eV:sv lv 0 (m+2)=(C*4294967296+y0)*BB^m+sv lv 0 m:=by
  rw[gK,gK,Nat.zero_add,Nat.zero_add, <- k0, <- k1,T];generalize BB^m=P;generalize sv lv 0 m=R;grind
 have M:sv lv 0 (m+2)=C*BB^ (m+1)+sv lv 0 (m+1):=by
  rw[gK lv 0 (m+1),Nat.zero_add, <- k1,Nat.mul_comm C,Nat.add_comm]
 have lU:=lQ O i m;have a5:=lQ O i (m+1);have lV:=lQ W 0 m;have a6:=lQ W 0 (m+1);have hP:0<BB^ (m+1):=Nat.pow_pos (by decide)
 have E:0<sv lv 0 (m+2):=by
  rw[M];have:=Nat.mul_pos (show 0<C by omega) hP;omega
 have a4:G <= C:=by
  have g1:G*BB^ (m+2) <= sv t i (m+3):=by rw[gK t i (m+2), <- V,Nat.mul_comm];omega
  have g2:sv lv 0 (m+2)<(C+1)*BB^ (m+1):=by rw[M,Nat.add_mul,Nat.one_mul];omega
  have g3:G*BB^ (m+2)<(C+1)*BB^ (m+2):=by
   rw[Nat.pow_succ BB (m+1), <- Nat.mul_assoc, <- Nat.mul_assoc];have g4:=Nat.mul_lt_mul_of_pos_left g2 (show 0<BB by decide);rw[Nat.mul_comm BB ((C+1)*_)] at g4;rw[Nat.pow_succ BB (m+1), <- Nat.mul_assoc] at g1;omega
  have:=Nat.lt_of_mul_lt_mul_right g3;omega
 have a8:Y<4294967296:=by rw[h1];exact O _
 have a7:U<4294967296:=by rw[h0];exact O _
 have a9:y0<4294967296:=by rw[k0];exact W _
 have a1:sv t i (m+3) / sv lv 0 (m+2)<4294967296:=by
  rw[Nat.div_lt_iff_lt_mul E];exact a2
 refine⟨⟨Ew a0 a5 M (by omega),?_,?_,?_,?_,a1⟩,E⟩
 ·intro q r e hr
  have F:q<4294967296:=by
   rcases Nat.lt_or_ge q 4294967296 with g | g
   ·exact g
   ·have g1:=Nat.mul_le_mul_right C g;have g2:=Nat.mul_le_mul_right 4294967296 a4;omega
  exact⟨F,yg a0 M a6 E (r:=r) (by omega) (by omega)⟩
 ·intro q F;exact Nat.le_sub_one_of_lt (Nat.lt_of_lt_of_le a1 F)
 ·intro q r e X;have:=Ex (q:=q) Z lU eV E (Ez e X);exact⟨Nat.le_sub_one_of_lt this,Nat.lt_of_le_of_lt (Nat.zero_le _) this⟩
 ·intro q r e X F;exact yg Z eV lV E (r:=0) (EA e X) (EB F a3)
theorem ED{lo l0 lv:List Nat}{i j c b b' q x s:Nat}(t:i+j<lo.length)(h:sv l0 i j+BB^j* (c+b)=sv lo i j+q*sv lv 0 j)(C:s=c+q*dg lv j)
  (E:dg l0 (i+j)+4294967296*b'=x+b+s%4294967296):
  sv l0 i (j+1)+BB^ (j+1)* (s / 4294967296+b')=sv (lo.set (i+j) x) i (j+1)+q*sv lv 0 (j+1):=by
 rw[qB _ _ _ _ t,gK,gK,Nat.zero_add,Nat.pow_succ];have h1:=jZ (BB^j) s;have F:BB^j*s=BB^j*c+q* (BB^j*dg lv j):=by rw[C,Nat.mul_add,Nat.mul_left_comm]
 have r:BB^j* (dg l0 (i+j)+4294967296*b')=BB^j* (x+b+s%4294967296):=by rw[E]
 rw[Nat.mul_add,Nat.mul_add,Nat.mul_add, <- Nat.mul_assoc, <- ik] at r;rw[Nat.mul_add (BB^j*BB),Nat.mul_add q];rw[Nat.mul_add] at h;simp only[<- ik] at*;omega
theorem EE{lo l0 lv:List Nat}{i j c s:Nat}(r:i+j<lo.length)(h:sv lo i j+BB^j*c=sv l0 i j+sv lv 0 j)(t:s=c+ (dg l0 (i+j)+dg lv j)):
  sv (lo.set (i+j) (s%4294967296)) i (j+1)+BB^ (j+1)* (s / 4294967296)=sv l0 i (j+1)+sv lv 0 (j+1):=by
 rw[qB _ _ _ _ r,gK,gK,Nat.zero_add,Nat.pow_succ];have h1:=jZ (BB^j) s;have C:BB^j*s=BB^j*c+BB^j*dg l0 (i+j)+BB^j*dg lv j:=by rw[t,Nat.mul_add,Nat.mul_add];omega
 omega
theorem EF{U V q S:Nat}(t:0<V)(h:U=S+q*V)(C:U / V <= q):q=U / V /\ S=U%V:=by
 have h1:q <= U / V:=by rw[Nat.le_div_iff_mul_le t];omega
 have r:q=U / V:=Nat.le_antisymm h1 C;refine⟨r,?_⟩;have:=Nat.div_add_mod U V;rw[<- r,Nat.mul_comm] at this;omega
theorem EG{U V q S T X ov:Nat}(t:0<V)(h:U+X=S+q*V)(Y:S<X)(a0:V<X)(hq:q <= U / V+1)(E:T+X*ov=S+V)(Z:T<X):q-1=U / V /\ T=U%V /\ 0<q:=by
 have h1:U<q*V:=by omega
 have M:U / V<q:=by rw[Nat.div_lt_iff_lt_mul t];exact h1
 have r:q=U / V+1:=by omega
 have O:=Nat.div_add_mod U V;have R:=Nat.mod_lt U t;have W:q*V=V* (U / V)+V:=by rw[r,Nat.add_mul,Nat.one_mul,Nat.mul_comm]
 have G:ov=1:=by
  rcases Nat.lt_or_ge ov 1 with F | F
  ·have:ov=0:=by omega
   subst this;omega
  ·rcases Nat.lt_or_ge 1 ov with C | C
   ·have:=Nat.mul_le_mul_left X C;omega
   ·omega
 subst G;rw[Nat.mul_one] at E;exact⟨by rw[r,Nat.add_sub_cancel],by omega,by rw[r];exact Nat.succ_pos _⟩
theorem EH(lo r lv:List Nat){i m q x c b:Nat}(t:i+m<lo.length)(h:sv r i m+BB^m* (c+b)=sv lo i m+q*sv lv 0 m)(C:dg r (i+m)=x+b+c):
  sv r i (m+1)=sv (lo.set (i+m) x) i (m+1)+q*sv lv 0 m:=by
 rw[qB _ _ _ _ t,gK,C];rw[Nat.mul_add] at h;rw[Nat.mul_add,Nat.mul_add];omega
theorem EI(lo r lv:List Nat){i m q x c b:Nat}(t:i+m<lo.length)(h:sv r i m+BB^m* (c+b)=sv lo i m+q*sv lv 0 m)(C:dg r (i+m)+4294967296=x+b+c):
  sv r i (m+1)+BB^ (m+1)=sv (lo.set (i+m) x) i (m+1)+q*sv lv 0 m:=by
 rw[qB _ _ _ _ t,gK,Nat.pow_succ];have e:BB^m* (dg r (i+m)+4294967296)=BB^m* (x+b+c):=by rw[C]
 rw[<- ik,Nat.mul_add,Nat.mul_add,Nat.mul_add] at e;rw[Nat.mul_add] at h;omega
theorem EJ(lo l1 lv:List Nat){i m c s:Nat}(r:i+m<lo.length)(h:sv lo i m+BB^m*c=sv l1 i m+sv lv 0 m)(t:s=dg l1 (i+m)+c):
  sv (lo.set (i+m) (s%4294967296)) i (m+1)+BB^ (m+1)* (s / 4294967296)=sv l1 i (m+1)+sv lv 0 m:=by
 rw[qB _ _ _ _ r,gK,Nat.pow_succ];have h1:=jZ (BB^m) s;have C:BB^m*s=BB^m*dg l1 (i+m)+BB^m*c:=by rw[t,Nat.mul_add]
 omega
end
end Go.Proofs.YtdefghfjhgmpfaaGreatDoor
