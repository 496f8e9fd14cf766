/- Parts of this proof: ReadM Held Held2 Held3 Sq Digits Knuth. -/
import Derived.Test.YtdefghfjhgmpfaaGreatDoorMAD
import Derived.Lib.IndexMore
import Derived.Lib.SlTrimSet
import Derived.Lib.Strings
import Derived.Test.YtdefghfjhgmpfaaGreatDoorMAC
import Derived.Deep.RegionHeld3
import Derived.Test.YtdefghfjhgmpfaaGreatDoorMAB
import Derived.Shelf.Strings.SlTrimAscii
namespace Go.Proofs.YtdefghfjhgmpfaaGreatDoor
open Tryz
section
theorem xS(l:List UInt8):(fG l= [] -> Lib.index l [47]= -1) /\ (fG l≠ [] -> Lib.index l [47]=((eH l).length:Nat)):=by
 induction l with
 | nil=>exact⟨fun _=>rfl,fun h=>absurd rfl h⟩
 | cons c l F=>
  by_cases t:c=47
  ·subst t;refine⟨fun h=> ?_,fun _=> ?_⟩
   ·simp[fG] at h
   ·simp[Lib.index,eH]
  ·have E:(c !=47)=true:=by simpa using t
   have h1:fG (c::l)=fG l:=by unfold fG;rw[List.dropWhile_cons,E];rfl
   have G:eH (c::l)=c::eH l:=by unfold eH;rw[List.takeWhile_cons,E];rfl
   have M:([47]:List UInt8).isPrefixOf (c::l)=false:=by
    simp only[List.isPrefixOf,Bool.and_true,beq_eq_false_iff_ne];exact fun e=>t e.symm
   rw[h1,G];unfold Lib.index;rw[M];refine⟨fun h=> ?_,fun h=> ?_⟩
   ·rw[F.1 h];rfl
   ·rw[F.2 h];rw[if_neg (by simp),if_neg (by simp only[beq_iff_eq];omega)];simp
theorem Ef(l:List UInt8):Lib.cut l [47]=(eH l,fJ l,decide (fG l≠ [])):=by
 unfold Lib.cut;by_cases h:fG l= []
 ·rw[(xS l).1 h,if_neg (by omega),qo h];have:fJ l= []:=by unfold fJ;rw[h];rfl
  rw[this,decide_eq_false (by simpa using h)]
 ·rw[(xS l).2 h,if_pos (by omega),decide_eq_true h]
  have E:∀a b l:List UInt8,l=a++47::b -> l.take a.length=a /\ l.drop (a.length+1)=b:=by
   intro a b l e;subst e;simp
  obtain⟨h1,t⟩:=E _ _ _ (rM h);rw[Int.toNat_natCast,h1];show(eH l,l.drop ((eH l).length+1),true)=_;rw[t]
theorem Eg(l:List UInt8):Lib.trimPrefix l [45]=body l:=by
 unfold Lib.trimPrefix Lib.hasPrefix body;cases l with
 | nil=>rfl
 | cons c l=>
  by_cases h:c=45
  ·subst h;simp
  ·rw[if_neg (by simp[List.isPrefixOf];exact fun e=>h e.symm),if_neg (by simpa using h)]
theorem xU{α:Type}{p:α -> Bool}{l:List α}(h:∀c ∈ l.dropWhile p,p c=true):∀c ∈ l,p c=true:=by
 induction l with
 | nil=>intro c t;cases t
 | cons a l F=>
  by_cases E:p a=true
  ·rw[List.dropWhile_cons,if_pos E] at h;intro c t
   rcases List.mem_cons.1 t with rfl | t
   ·exact E
   ·exact F h c t
  ·rw[List.dropWhile_cons,if_neg E] at h;exact absurd (h a (by simp)) E
theorem Eh{α:Type}{p:α -> Bool}{l:List α}(h:∀c ∈ l,p c=true):l.dropWhile p= []:=by
 induction l with
 | nil=>rfl
 | cons a l E=>rw[List.dropWhile_cons,if_pos (h a (by simp))];exact E fun c t=>h c (by simp[t])
theorem xV(l cs:List UInt8):Lib.trimS l cs= []↔∀c ∈ l,cs.contains c=true:=by
 unfold Lib.trimS Lib.trimLeftS Lib.trimRightS;constructor
 ·intro h;have h1:∀c ∈ (l.reverse.dropWhile (cs.contains ·)).reverse,cs.contains c=true:=xU (fun c t=>by rw[h] at t;cases t)
  have E:=xU (p:=(cs.contains ·)) (l:=l.reverse) (fun c t=>h1 c (List.mem_reverse.2 t));exact fun c t=>E c (List.mem_reverse.2 t)
 ·intro h;rw[Eh (l:=l.reverse) (fun c t=>h c (List.mem_reverse.1 t))];rfl
def oQ:List UInt8:=[48,49,50,51,52,53,54,55,56,57]
theorem xW(c:UInt8):oQ.contains c=gm c:=by
 rw[Bool.eq_iff_iff,kS,List.contains_iff_mem];unfold oQ;simp only[List.mem_cons,List.not_mem_nil,or_false];constructor
 ·rintro(rfl | rfl | rfl | rfl | rfl | rfl | rfl | rfl | rfl | rfl) <;> decide
 ·intro h;have t:c.toNat=48 \/ c.toNat=49 \/ c.toNat=50 \/ c.toNat=51 \/ c.toNat=52 \/ c.toNat=53 \/ c.toNat=54 \/ c.toNat=55 \/ c.toNat=56 \/ c.toNat=57:=by omega
  have e:∀d:UInt8,c.toNat=d.toNat -> c=d:=fun d h=>UInt8.toNat_inj.1 h
  rcases t with h | h | h | h | h | h | h | h | h | h
  ·exact .inl (e 48 h)
  ·exact .inr (.inl (e 49 h))
  ·exact .inr (.inr (.inl (e 50 h)))
  ·exact .inr (.inr (.inr (.inl (e 51 h))))
  ·exact .inr (.inr (.inr (.inr (.inl (e 52 h)))))
  ·exact .inr (.inr (.inr (.inr (.inr (.inl (e 53 h))))))
  ·exact .inr (.inr (.inr (.inr (.inr (.inr (.inl (e 54 h)))))))
  ·exact .inr (.inr (.inr (.inr (.inr (.inr (.inr (.inl (e 55 h))))))))
  ·exact .inr (.inr (.inr (.inr (.inr (.inr (.inr (.inr (.inl (e 56 h)))))))))
  ·exact .inr (.inr (.inr (.inr (.inr (.inr (.inr (.inr (.inr (e 57 h)))))))))
theorem xX(l:List UInt8):Lib.trimS l oQ= []↔l.all gm=true:=by
 rw[xV,List.all_eq_true];exact⟨fun h c t=>by rw[<- xW];exact h c t,fun h c t=>by rw[xW];exact h c t⟩
theorem xY(l:List UInt8):Lib.trimS l [48]= []↔l.all (· ==48)=true:=by
 rw[xV,List.all_eq_true];refine⟨fun h c t=> ?_,fun h c t=> ?_⟩
 ·have:=h c t;simpa using this
 ·have:=h c t;simpa using this
def dgs(l:List UInt8):Bool:=decide (l≠ []) && l.all gm
theorem xZ{l:List UInt8}(h:dgs (body l)=false):chk l=14:=by
 unfold dgs at h;unfold chk;by_cases h1:body l= []
 ·rw[if_pos h1]
 ·rw[if_neg h1];rw[decide_eq_true h1,Bool.true_and] at h;rw[if_pos h]
theorem nN{l:List UInt8}(h:dgs (body l)=true):chk l=0 \/ chk l=3:=by
 unfold dgs at h;rw[Bool.and_eq_true,decide_eq_true_iff] at h;unfold chk;rw[if_neg h.1,if_neg (by rw[h.2];simp)];split <;> simp
theorem qx{l:List UInt8}(h:dgs (body l)=true):chk l≠14:=by rcases nN h with h | h <;> omega
theorem qy{l:List UInt8}(h:dgs (body (eH l))=false \/ (fG l≠ [] /\ dgs (fJ l)=false)):fK l=14:=by
 unfold fK;by_cases t:fG l= []
 ·rw[if_pos t]
  rcases h with h | h
  ·rw[qo t] at h;exact xZ h
  ·exact absurd t h.1
 ·rw[if_neg t,if_pos]
  rcases h with h | h
  ·exact .inl (xZ h)
  ·have h:=h.2;unfold dgs at h;by_cases h1:fJ l= []
   ·exact .inr (.inl h1)
   ·rw[decide_eq_true h1,Bool.true_and] at h;exact .inr (.inr h)
theorem oV{l:List UInt8}(h:dgs l=true):¬(l= [] \/ l.all gm=false):=by
 unfold dgs at h;rw[Bool.and_eq_true,decide_eq_true_iff] at h;rintro(e | e)
 ·exact h.1 e
 ·rw[h.2] at e;cases e
theorem y5{l:List UInt8}(h:dgs (body (eH l))=true)(E:fG l≠ [])(t:dgs (fJ l)=true)(F:(fJ l).all (· ==48)=true):fK l=19:=by
 unfold fK;rw[if_neg E,if_neg (fun e=>e.elim (qx h) (oV t)),if_pos F]
theorem uO{l:List UInt8}(h:fG l= []):fK l=chk (eH l):=by rw[xM h,qo h]
theorem Ei{l:List UInt8}(h:dgs (body (eH l))=true)(G:fG l≠ [])(F:dgs (fJ l)=true)(M:(fJ l).all (· ==48)=false)(E:chk (eH l)≠0):fK l=3:=by
 unfold fK;rw[if_neg G,if_neg (fun e=>e.elim (qx h) (oV F)),if_neg (by rw[M];simp),if_pos]
 rcases nN h with t | t
 ·exact absurd t E
 ·exact .inl t
theorem y7{l:List UInt8}(h:dgs l=true):body l=l /\ l.head? ≠some 45:=by
 unfold dgs at h;rw[Bool.and_eq_true] at h;have E:=List.all_eq_true.1 h.2
 have t: l.head? ≠some 45:=by
  intro e;cases l with
  | nil=>cases e
  | cons c l=>
   have t:c=45:=by simpa using e
   have:=kS.1 (E c (by simp));rw[t] at this;simp at this
 exact⟨by unfold body;rw[if_neg t],t⟩
theorem y9{l:List UInt8}(h:dgs l=true)(E:l.all (· ==48)=false):chk l=0↔ l.head? ≠some 48:=by
 obtain⟨h1,F⟩:=y7 h;unfold dgs at h;rw[Bool.and_eq_true,decide_eq_true_iff] at h;unfold chk;rw[h1,if_neg h.1,if_neg (by rw[h.2];simp)];by_cases e: l.head? =some 48
 ·have t:1<l.length:=by
   cases l with
   | nil=>cases e
   | cons c l=>
    cases l with
    | nil=>
     have:c=48:=by simpa using e
     subst this;simp at E
    | cons d l=>simp
  rw[if_pos ⟨e, .inl t⟩];simp[e]
 ·rw[if_neg (fun h=>e h.1)];simp[e]
theorem Ej{l:List UInt8}(h:dgs l=true)(h0: l.head? ≠some 48):dv l=1↔l= [49]:=by
 unfold dgs at h;rw[Bool.and_eq_true,decide_eq_true_iff] at h;have t:=rH l h.1 (List.all_eq_true.1 h.2) (fun e=>absurd e h0);constructor
 ·intro e;rw[e] at t;rw[<- t];simp[Lib.decDigits]
 ·intro e;rw[e];rfl
theorem rR{l:List UInt8}(h:dgs (body (eH l))=true)(M:fG l≠ [])(t:dgs (fJ l)=true)(E:(fJ l).all (· ==48)=false)(h0:chk (eH l)=0):
  fK l=if chk (fJ l)≠0 \/ dv (fJ l)=1 \/ Nat.gcd (dv (body (eH l))) (dv (fJ l))≠1 then 3 else 0:=by
 unfold fK;rw[if_neg M,if_neg (fun e=>e.elim (qx h) (oV t)),if_neg (by rw[E];simp)];by_cases e:(fJ l).head? =some 48
 ·rw[if_pos (.inr (.inl e)),if_pos (.inl (fun e'=>(y9 t E).1 e' e))]
 ·have F:=(y9 t E).2 e;have G:=Ej t e;congr 1;rw[F,G,h0];simp[e]
end
section
open Go.RowKit
section
variable {P:Program} {ops:Array Oper} {Q:Exit -> Act -> World -> Prop} {md:Region.Mode} {S:World -> Prop} {late:Nat -> Bool}
def jJ(md:Region.Mode)(ops:Array Oper)(j i:Nat):Bool:=
 match ops[j]? with
 | some o=>o.after.any fun e=>Region.binds md e && e.on==i
 | none=>false
def qz(md:Region.Mode)(ops:Array Oper)(late:Nat -> Bool)(listed:Array Bool)(i:Nat):Bool:=
 !late i && (List.range ops.size).all fun j=> !late j || listed.getD j true || jJ md ops j i || (List.range ops.size).any fun k=> !listed.getD k true && jJ md ops k i && jJ md ops j k
theorem qA{listed:Array Bool}{i j:Nat}(O:j ∈ Region.ready md ops listed)(h:jJ md ops j i=true)(E:listed.getD i true=false):False:=by
 obtain⟨_,o,T,F⟩:=mem_ready.1 O;unfold jJ at h;rw[T] at h;simp only[Array.any_eq_true,Bool.and_eq_true,beq_iff_eq] at h;obtain⟨n,R,G,M⟩:=h;have h1:=F _ (Array.getElem_mem R) G;rw[M] at h1
 rcases Nat.lt_or_ge i listed.size with t | t
 ·simp[t] at E h1;rw[E] at h1;cases h1
 ·simp[Array.getElem?_eq_none t] at h1
def gF(P:Program)(md:Region.Mode)(ops:Array Oper)(Q:Exit -> Act -> World -> Prop)(S:World -> Prop)(late:Nat -> Bool):Nat -> Array Bool -> Act -> World -> Prop
 | 0,listed,a,w=>Region.ready md ops listed= [] /\ Q .normal a w
 | fuel+1,listed,a,w=>
  (Region.ready md ops listed= [] -> Q .normal a w) /\
  ∀i ∈ Region.ready md ops listed,wpOp P ops Q i (fun a' w'=>(late i=false -> S w') /\ gF P md ops Q S late fuel (listed.setIfInBounds i true) a' w') a w
theorem yc:∀ (fuel:Nat) (listed:Array Bool) (a:Act) (w:World),gF P md ops Q S late fuel listed a w -> wpAny P md ops Q fuel listed a w
 | 0,_,_,_,h=>h
 | fuel+1,_,_,_,h=>⟨h.1,fun i F=>wpOp_mono (fun t w' E=>yc fuel _ t w' E.2) (h.2 i F)⟩
theorem El{i:Nat}{oi:Oper}{v:Value}(hi:ops[i]? =some oi)(a4:∀ (j:Nat) (o:Oper) cs b,ops[j]? =some o -> o.op≠ .select cs b)
  (hQ:∀c a w,Q (.panic c) (a.put oi.dst v) w -> Q (.panic c) a w) (af:late i=false):
  ∀ (fuel:Nat) (listed:Array Bool) (a:Act) (w:World),
   (∀j O,ops[j]? =some O -> j≠i -> listed.getD j true=false -> (∀e ∈ O.after,Region.binds md e=true -> e.on≠i) -> oi.apart ops O=true) ->
   (∀j,j<ops.size -> late j=true -> listed.getD j true=false -> jJ md ops j i=true \/ ∃k,listed.getD k true=false /\ jJ md ops k i=true /\ jJ md ops j k=true) ->
   i ∈ Region.ready md ops listed -> YieldsIf P ops S oi v a -> S w ->
   gF P md ops Q S late fuel (listed.setIfInBounds i true) (a.put oi.dst v) w -> gF P md ops Q S late (fuel+1) listed a w:=by
 intro fuel
 induction fuel with
 | zero=>
  intro listed a w _ _ F Y R H;refine⟨fun h=>(by rw[h] at F;cases F),fun j M=> ?_⟩;by_cases t:j=i
  ·subst t;exact Y.wpOp hi R ⟨fun _=>R,H⟩
  ·have:=ready_mono M t;rw[H.1] at this;cases this
 | succ fuel ih=>
  intro listed a w a2 a3 F Y R H;have X:=(mem_ready.1 F).1;refine⟨fun h=>(by rw[h] at F;cases F),fun j M=> ?_⟩;by_cases t:j=i
  ·subst t;exact Y.wpOp hi R ⟨fun _=>R,H⟩
  ·have h1:=H.2 j (ready_mono M t);obtain⟨a0,O,U,a5⟩:=mem_ready.1 M
   have a8:late j=false:=by
    rcases hb:late j with _ | _
    ·rfl
    ·rcases a3 j (Array.getElem?_eq_some_iff.1 U).1 hb a0 with h | ⟨k,E,_,h⟩
     ·exact(qA M h X).elim
     ·exact(qA M h E).elim
   have ae:∀e ∈ O.after,Region.binds md e=true -> e.on≠i:=fun e he hb a6=>by
    have h1:=a5 e he hb;have h0:=(mem_ready.1 F).1;rw[a6] at h1
    rcases Nat.lt_or_ge i listed.size with Z | Z
    ·simp[Z] at h0 h1;rw[h0] at h1;cases h1
    ·simp[Array.getElem?_eq_none Z] at h1
   have h2:=wpOp_putIf U (a2 j O U t a0 ae) (fun cs b=>a4 i oi cs b hi) (fun cs b=>a4 j O cs b U) hQ Y h1
   have a1:∀k,(listed.setIfInBounds j true).getD k true=false -> listed.getD k true=false:=fun k E=>by
    by_cases T:j=k
    ·subst T;exact a0
    ·rw[getD_set_ne true T] at E;exact E
   have a7:∀k ok,ops[k]? =some ok -> k≠i -> (listed.setIfInBounds j true).getD k true=false ->
     (∀e ∈ ok.after,Region.binds md e=true -> e.on≠i) -> oi.apart ops ok=true:=fun k ok E a9 X ad=>
    a2 k ok E a9 (a1 k X) ad
   have aa:∀m,m<ops.size -> late m=true -> (listed.setIfInBounds j true).getD m true=false -> jJ md ops m i=true \/ ∃k,(listed.setIfInBounds j true).getD k true=false /\ jJ md ops k i=true /\ jJ md ops m k=true:=fun m ab hm ac=>by
    rcases a3 m ab hm (a1 m ac) with h | ⟨k,E,G,h4⟩
    ·exact .inl h
    ·refine .inr ⟨k,?_,G,h4⟩;have T:j≠k:=fun e=>by subst e;exact qA M G X
     rw[getD_set_ne true T];exact E
   refine wpOp_mono (fun a' w' G=>⟨G.2.1,ih (listed.setIfInBounds j true) a' w' a7 aa (ready_mono F (Ne.symm t)) G.1 (G.2.1 a8) ?_⟩) h2;rw[Array.setIfInBounds_comm _ _ t];exact G.2.2
theorem l5{i:Nat}{oi:Oper}{v:Value}{fuel:Nat}{listed:Array Bool}{a:Act}{w:World}(E:ops[i]? =some oi)
  (hs:Region.noSelect ops=true) (U:Region.free md ops listed i=true) (Z:(Region.ready md ops listed).contains i=true) (t:qz md ops late listed i=true)
  (M:∀c a w,Q (.panic c) (a.put oi.dst v) w -> Q (.panic c) a w) (hy:YieldsIf P ops S oi v a) (O:S w)
  (h:gF P md ops Q S late fuel (listed.setIfInBounds i true) (a.put oi.dst v) w):gF P md ops Q S late (fuel+1) listed a w:=by
 unfold qz at t;simp only[Bool.and_eq_true,Bool.not_eq_true',List.all_eq_true,List.mem_range,Bool.or_eq_true,List.any_eq_true] at t;obtain⟨R,T⟩:=t;refine El E (Region.noSelect_spec hs) M R fuel listed a w (Region.free_spec E U) (fun j Y X a0=> ?_) (by simpa using Z) hy O h
 ·rcases T j Y with ((h1 | h1) | h1) | ⟨k,_,⟨h1,F⟩,G⟩
  ·rw[X] at h1;cases h1
  ·rw[a0] at h1;cases h1
  ·exact .inl h1
  ·exact .inr ⟨k,by simpa using h1,F,G⟩
theorem jf{i:Nat}{oi:Oper}{v:Value}{fuel:Nat}{listed:Array Bool}{a:Act}{w:World}(d:Option Nat)(O:ops[i]? =some oi)(F:oi.dst=d)
  (T:Region.noSelect ops=true) (M:Region.free md ops listed i=true) (R:(Region.ready md ops listed).contains i=true) (G:qz md ops late listed i=true)
  (t:∀c a w,Q (.panic c) (a.put oi.dst v) w -> Q (.panic c) a w) (U:YieldsIf P ops S oi v a) (E:S w)
  (h:gF P md ops Q S late fuel (listed.setIfInBounds i true) (a.put d v) w):gF P md ops Q S late (fuel+1) listed a w:=
 l5 O T M R G t U E (F ▸ h)
def gG(P:Program)(md:Region.Mode)(ops:Array Oper)(Q:Exit -> Act -> World -> Prop)(S:World -> Prop)(late:Nat -> Bool)(fuel:Nat)(listed:Array Bool)(a:Act)(w:World)(rs:List Nat):Prop:=
 ∀i ∈ rs,wpOp P ops Q i (fun a' w'=>(late i=false -> S w') /\ gF P md ops Q S late fuel (listed.setIfInBounds i true) a' w') a w
theorem gG.nil{fuel:Nat}{listed:Array Bool}{a:Act}{w:World}:gG P md ops Q S late fuel listed a w []:=fun _ h=>by cases h
theorem gG.cons{fuel:Nat}{listed:Array Bool}{a:Act}{w:World}{i:Nat}{o:Oper}{rs:List Nat}(O:ops[i]? =some o)
  (h:∀t:Act -> World -> Prop,Shut (∀a w,(late i=false -> S w) -> gF P md ops Q S late fuel (listed.setIfInBounds i true) a w -> t a w) -> if Region.wanted o (yielded ops a.tmps)=true then Oper.wp P o a w t Q else t (a.put o.dst undef) w)
  (R:gG P md ops Q S late fuel listed a w rs):gG P md ops Q S late fuel listed a w (i::rs):=fun j E=>by
 rcases List.mem_cons.1 E with rfl | E
 ·exact wpOp_step O (fun t F=>h t (fun a w G M=>F a w ⟨G,M⟩))
 ·exact R j E
theorem lw{rs:List Nat}{fuel:Nat}{listed:Array Bool}{a:Act}{w:World}(t:Region.ready md ops listed=rs)(E:rs≠ [])
  (h:gG P md ops Q S late fuel listed a w rs):gF P md ops Q S late (fuel+1) listed a w:=⟨fun h0=>absurd (t ▸ h0) E,t ▸ h⟩
theorem Em{listed:Array Bool}{a:Act}{w:World}(t:Region.ready md ops listed= [])(h:Q .normal a w):
  ∀fuel,gF P md ops Q S late fuel listed a w
 | 0=>⟨t,h⟩
 | _+1=>⟨fun _=>h,by rw[t];simp⟩
theorem kT{E:Nat}{a:Act}{w:World}(S:World -> Prop)(late:Nat -> Bool)(t:P.follows .mixedOrders=true)
  (h:gF P .any ops Q S late ops.size (Array.replicate ops.size false) a w.drew):(Code.region E ops true).wp P Q a w:=
 wp_region_any t (yc _ _ _ _ h)
end
end
section
open Go.RowKit
section
variable {P:Program} {ops:Array Oper} {Q:Exit -> Act -> World -> Prop} {md:Region.Mode} {S:World -> Prop} {late:Nat -> Bool}
theorem En{i:Nat}{oi:Oper}{v:Value}(U:ops[i]? =some oi)(a2:∀ (j:Nat) (o:Oper) cs b,ops[j]? =some o -> o.op≠ .select cs b)
  (hQ:∀c a w,Q (.panic c) (a.put oi.dst v) w -> Q (.panic c) a w) (a9:late i=true):
  ∀ (fuel:Nat) (listed:Array Bool) (a:Act) (w:World),
   (∀j F,ops[j]? =some F -> j≠i -> listed.getD j true=false -> (∀e ∈ F.after,Region.binds md e=true -> e.on≠i) -> oi.apart ops F=true) ->
   i ∈ Region.ready md ops listed -> YieldsIf P ops (fun _=>True) oi v a ->
   gF P md ops Q S late fuel (listed.setIfInBounds i true) (a.put oi.dst v) w -> gF P md ops Q S late (fuel+1) listed a w:=by
 intro fuel;have a1:¬late i=false:=by rw[a9];decide
 induction fuel with
 | zero=>
  intro listed a w _ E O H;refine⟨fun h=>(by rw[h] at E;cases E),fun j G=> ?_⟩;by_cases t:j=i
  ·subst t;exact O.wpOp U trivial ⟨fun h=>absurd h a1,H⟩
  ·have:=ready_mono G t;rw[H.1] at this;cases this
 | succ fuel ih=>
  intro listed a w Y E O H;have a3:=(mem_ready.1 E).1;refine⟨fun h=>(by rw[h] at E;cases E),fun j G=> ?_⟩;by_cases t:j=i
  ·subst t;exact O.wpOp U trivial ⟨fun h=>absurd h a1,H⟩
  ·have h1:=H.2 j (ready_mono G t);obtain⟨a0,F,X,a4⟩:=mem_ready.1 G
   have ab:∀e ∈ F.after,Region.binds md e=true -> e.on≠i:=fun e he hb a6=>by
    have h1:=a4 e he hb;have h0:=(mem_ready.1 E).1;rw[a6] at h1
    rcases Nat.lt_or_ge i listed.size with R | R
    ·simp[R] at h0 h1;rw[h0] at h1;cases h1
    ·simp[Array.getElem?_eq_none R] at h1
   have h2:=wpOp_putIf X (Y j F X t a0 ab) (fun cs b=>a2 i oi cs b U) (fun cs b=>a2 j F cs b X) hQ O h1
   have a5:∀k,(listed.setIfInBounds j true).getD k true=false -> listed.getD k true=false:=fun k M=>by
    by_cases Z:j=k
    ·subst Z;exact a0
    ·rw[getD_set_ne true Z] at M;exact M
   have a7:∀k ok,ops[k]? =some ok -> k≠i -> (listed.setIfInBounds j true).getD k true=false ->
     (∀e ∈ ok.after,Region.binds md e=true -> e.on≠i) -> oi.apart ops ok=true:=fun k ok M a8 a3 aa=>
    Y k ok M a8 (a5 k a3) aa
   refine wpOp_mono (fun a' w' T=>⟨T.2.1,ih (listed.setIfInBounds j true) a' w' a7 (ready_mono E (Ne.symm t)) T.1 ?_⟩) h2;rw[Array.setIfInBounds_comm _ _ t];exact T.2.2
theorem Eo{i:Nat}{oi:Oper}{v:Value}{fuel:Nat}{listed:Array Bool}{a:Act}{w:World}(d:Option Nat)(t:ops[i]? =some oi)(F:oi.dst=d)
  (R:Region.noSelect ops=true) (G:Region.free md ops listed i=true) (O:(Region.ready md ops listed).contains i=true) (M:late i=true)
  (E:∀c a w,Q (.panic c) (a.put oi.dst v) w -> Q (.panic c) a w) (T:YieldsIf P ops (fun _=>True) oi v a)
  (h:gF P md ops Q S late fuel (listed.setIfInBounds i true) (a.put d v) w):gF P md ops Q S late (fuel+1) listed a w:=
 En t (Region.noSelect_spec R) E M fuel listed a w (Region.free_spec t G) (by simpa using O) T (F ▸ h)
end
end
section
open Go.RowKit
section
variable {P:Program} {ops:Array Oper} {Q:Exit -> Act -> World -> Prop} {md:Region.Mode} {S:World -> Prop} {late:Nat -> Bool}
def uP(md:Region.Mode)(ops:Array Oper)(late:Nat -> Bool)(listed:Array Bool)(i:Nat)(B:List Nat):Bool:=
 !late i && B.contains i && B.all (fun b=> !listed.getD b true && (b==i || B.any fun k=>jJ md ops b k)) && (List.range ops.size).all fun j=> !late j || listed.getD j true || B.any fun k=>jJ md ops j k
theorem Ep{i:Nat}{oi:Oper}{v:Value}(B:List Nat)(hi:ops[i]? =some oi)(a5:∀ (j:Nat) (o:Oper) cs b,ops[j]? =some o -> o.op≠ .select cs b)
  (hQ:∀c a w,Q (.panic c) (a.put oi.dst v) w -> Q (.panic c) a w) (ak:late i=false) (a7:∀b ∈ B,b≠i -> ∃k ∈ B,jJ md ops b k=true):
  ∀ (fuel:Nat) (listed:Array Bool) (a:Act) (w:World),
   (∀j G,ops[j]? =some G -> j≠i -> listed.getD j true=false -> (∀e ∈ G.after,Region.binds md e=true -> e.on≠i) -> oi.apart ops G=true) ->
   (∀b ∈ B,listed.getD b true=false) ->
   (∀j,j<ops.size -> late j=true -> listed.getD j true=false -> ∃k ∈ B,jJ md ops j k=true) ->
   i ∈ Region.ready md ops listed -> YieldsIf P ops S oi v a -> S w ->
   gF P md ops Q S late fuel (listed.setIfInBounds i true) (a.put oi.dst v) w -> gF P md ops Q S late (fuel+1) listed a w:=by
 intro fuel
 induction fuel with
 | zero=>
  intro listed a w _ _ _ F X R H;refine⟨fun h=>(by rw[h] at F;cases F),fun j O=> ?_⟩;by_cases t:j=i
  ·subst t;exact X.wpOp hi R ⟨fun _=>R,H⟩
  ·have:=ready_mono O t;rw[H.1] at this;cases this
 | succ fuel ih=>
  intro listed a w a2 Z a4 F X R H;have a6:=(mem_ready.1 F).1;refine⟨fun h=>(by rw[h] at F;cases F),fun j O=> ?_⟩;by_cases t:j=i
  ·subst t;exact X.wpOp hi R ⟨fun _=>R,H⟩
  ·have h1:=H.2 j (ready_mono O t);obtain⟨a0,G,U,a9⟩:=mem_ready.1 O
   have ac:j ∉ B:=fun hm=>by
    obtain⟨k,E,hw⟩:=a7 j hm t;exact qA O hw (Z k E)
   have ae:late j=false:=by
    rcases M:late j with _ | _
    ·rfl
    ·obtain⟨k,E,hw⟩:=a4 j (Array.getElem?_eq_some_iff.1 U).1 M a0;exact(qA O hw (Z k E)).elim
   have aj:∀e ∈ G.after,Region.binds md e=true -> e.on≠i:=fun e he M aa=>by
    have h1:=a9 e he M;have h0:=(mem_ready.1 F).1;rw[aa] at h1
    rcases Nat.lt_or_ge i listed.size with Y | Y
    ·simp[Y] at h0 h1;rw[h0] at h1;cases h1
    ·simp[Array.getElem?_eq_none Y] at h1
   have h2:=wpOp_putIf U (a2 j G U t a0 aj) (fun cs b=>a5 i oi cs b hi) (fun cs b=>a5 j G cs b U) hQ X h1
   have a1:∀k,(listed.setIfInBounds j true).getD k true=false -> listed.getD k true=false:=fun k E=>by
    by_cases a3:j=k
    ·subst a3;exact a0
    ·rw[getD_set_ne true a3] at E;exact E
   have ab:∀k ok,ops[k]? =some ok -> k≠i -> (listed.setIfInBounds j true).getD k true=false ->
     (∀e ∈ ok.after,Region.binds md e=true -> e.on≠i) -> oi.apart ops ok=true:=fun k ok E af a6 ai=>
    a2 k ok E af (a1 k a6) ai
   have a8:∀b ∈ B,(listed.setIfInBounds j true).getD b true=false:=fun b M=>by
    have ad:j≠b:=by rintro rfl;exact ac M
    rw[getD_set_ne true ad];exact Z b M
   refine wpOp_mono (fun a' w' T=>⟨T.2.1,ih (listed.setIfInBounds j true) a' w' ab a8 (fun m ag hm ah=>a4 m ag hm (a1 m ah)) (ready_mono F (Ne.symm t)) T.1 (T.2.1 ae) ?_⟩) h2;rw[Array.setIfInBounds_comm _ _ t];exact T.2.2
theorem Er{i:Nat}{oi:Oper}{v:Value}{fuel:Nat}{listed:Array Bool}{a:Act}{w:World}(B:List Nat)(d:Option Nat)(G:ops[i]? =some oi)(R:oi.dst=d)
  (hs:Region.noSelect ops=true) (X:Region.free md ops listed i=true) (hr:(Region.ready md ops listed).contains i=true) (E:uP md ops late listed i B=true)
  (M:∀c a w,Q (.panic c) (a.put oi.dst v) w -> Q (.panic c) a w) (hy:YieldsIf P ops S oi v a) (O:S w)
  (h:gF P md ops Q S late fuel (listed.setIfInBounds i true) (a.put d v) w):gF P md ops Q S late (fuel+1) listed a w:=by
 unfold uP at E;simp only[Bool.and_eq_true,Bool.not_eq_true',List.all_eq_true,List.mem_range,Bool.or_eq_true,List.any_eq_true,beq_iff_eq] at E;obtain⟨⟨⟨T,_⟩,F⟩,U⟩:=E;refine Ep B G (Region.noSelect_spec hs) M T (fun b t a0=> ?_) fuel listed a w (Region.free_spec G X) (fun b t=>(F b t).1) (fun j Z Y a1=> ?_) (by simpa using hr) hy O (R ▸ h)
 ·rcases(F b t).2 with h1 | h1
  ·exact absurd h1 a0
  ·exact h1
 ·rcases U j Z with (h1 | h1) | h1
  ·rw[Y] at h1;cases h1
  ·rw[a1] at h1;cases h1
  ·exact h1
end
end
section
open Go.RowKit
section
variable {P:Program} {ops:Array Oper} {Q:Exit -> Act -> World -> Prop} {md:Region.Mode} {S:World -> Prop} {late:Nat -> Bool} {oi:Oper} {v:Value} {fuel:Nat} {listed:Array Bool} {a b:Act} {w:World}
theorem tB(i:Nat)(B:List Nat)(d:Option Nat)(E:S w)(h:gF P md ops Q S late fuel (listed.setIfInBounds i true) b w)(T:ops[i]? =some oi:=by rfl)(Y:YieldsIf P ops S oi v a:=by exact Or.inl ⟨by rfl,by intro w' F;(try dsimp only at F);go_simp;try with_reducible rfl⟩)
    (G:a.put d v=b:=by(try simp only[Act.put,List.setIfInBounds_toArray,List.set_cons_zero,List.set_cons_succ]);rfl) (M:oi.dst=d:=by rfl)
    (X:Region.noSelect ops=true:=by kernel_rfl) (R:Region.free md ops listed i=true:=by kernel_rfl) (U:(Region.ready md ops listed).contains i=true:=by kernel_rfl) (O:uP md ops late listed i B=true:=by kernel_rfl)
    (t:∀c a w,Q (.panic c) (a.put oi.dst v) w -> Q (.panic c) a w:=by exact fun _ _ _ h=>h):gF P md ops Q S late (fuel+1) listed a w:=Er B d T M X R U O t Y E (by rw[G];exact h)
theorem rD(i:Nat)(h:∀t:Act -> World -> Prop,Shut (∀a w,(late i=false -> S w) -> gF P md ops Q S late fuel (listed.setIfInBounds i true) a w -> t a w) -> if Region.wanted oi (yielded ops a.tmps)=true then Oper.wp P oi a w t Q else t (a.put oi.dst undef) w)
    (F:Region.ready md ops listed= [i]:=by kernel_rfl) (E:ops[i]? =some oi:=by rfl):gF P md ops Q S late (fuel+1) listed a w:=lw F (by simp) (gG.cons E h gG.nil)
theorem dN(h:Q .normal a w)(fuel:Nat)(t:Region.ready md ops listed= []:=by kernel_rfl):gF P md ops Q S late fuel listed a w:=Em t h fuel
theorem rL{E:Nat}{w0:World}(_:∀w',Below w0.heap.size w0 w' -> S w')(late:Nat -> Bool)(h:gF P .any ops Q S late ops.size (Array.replicate ops.size false) a w.drew)(t:P.follows .mixedOrders=true:=by kernel_rfl):(Code.region E ops true).wp P Q a w:=kT S late t h
theorem tKs(i:Nat)(d:Nat)(E:S w)(h:gF P md ops Q S late fuel (listed.setIfInBounds i true) b w)(T:ops[i]? =some oi:=by rfl)(Y:YieldsIf P ops S oi v a:=by exact Or.inl ⟨by rfl,by intro w' F;(try dsimp only at F);go_simp;try with_reducible rfl⟩)
    (G:a.put (some d) v=b:=by(try simp only[Act.put,List.setIfInBounds_toArray,List.set_cons_zero,List.set_cons_succ]);rfl) (M:oi.dst=some d:=by rfl)
    (X:Region.noSelect ops=true:=by kernel_rfl) (R:Region.free md ops listed i=true:=by kernel_rfl) (U:(Region.ready md ops listed).contains i=true:=by kernel_rfl) (O:qz md ops late listed i=true:=by kernel_rfl)
    (t:∀c a w,Q (.panic c) (a.put oi.dst v) w -> Q (.panic c) a w:=by exact fun _ _ _ h=>h):gF P md ops Q S late (fuel+1) listed a w:=jf (some d) T M X R U O t Y E (by rw[G];exact h)
theorem tUs(i:Nat)(d:Nat)(E:S w)(h:gF P md ops Q S late fuel (listed.setIfInBounds i true) b w)(R:ops[i]? =some oi:=by rfl)(X:YieldsIf P ops S oi undef a:=by exact Or.inr ⟨by rfl,rfl⟩)
    (F:a.put (some d) undef=b:=by(try simp only[Act.put,List.setIfInBounds_toArray,List.set_cons_zero,List.set_cons_succ]);rfl) (G:oi.dst=some d:=by rfl)
    (U:Region.noSelect ops=true:=by kernel_rfl) (O:Region.free md ops listed i=true:=by kernel_rfl) (T:(Region.ready md ops listed).contains i=true:=by kernel_rfl) (M:qz md ops late listed i=true:=by kernel_rfl)
    (t:∀c a w,Q (.panic c) (a.put oi.dst undef) w -> Q (.panic c) a w:=by exact fun _ _ _ h=>h):gF P md ops Q S late (fuel+1) listed a w:=jf (some d) R G U O T M t X E (by rw[F];exact h)
theorem tWs(i:Nat)(d:Nat)(h:gF P md ops Q S late fuel (listed.setIfInBounds i true) b w)(M:ops[i]? =some oi:=by rfl)(U:YieldsIf P ops (fun _=>True) oi v a:=by exact Or.inl ⟨by rfl,by intro w' _;go_simp;try with_reducible rfl⟩)
    (E:a.put (some d) v=b:=by(try simp only[Act.put,List.setIfInBounds_toArray,List.set_cons_zero,List.set_cons_succ]);rfl) (F:oi.dst=some d:=by rfl)
    (T:Region.noSelect ops=true:=by kernel_rfl) (G:Region.free md ops listed i=true:=by kernel_rfl) (R:(Region.ready md ops listed).contains i=true:=by kernel_rfl) (O:late i=true:=by rfl)
    (t:∀c a w,Q (.panic c) (a.put oi.dst v) w -> Q (.panic c) a w:=by exact fun _ _ _ h=>h):gF P md ops Q S late (fuel+1) listed a w:=Eo (some d) M F T G R O t U (by rw[E];exact h)
theorem kH{c:Prop}{S:World -> Prop}{B K:Act -> World -> Prop}(t:Shut (∀a w,(c -> S w) -> B a w -> K a w)){a:Act}{w:World}(h:S w)(r:B a w):K a w:=t.out _ _ (fun _=>h) r
theorem kL{S:World -> Prop}{B K:Act -> World -> Prop}{c:Bool}(t:Shut (∀a w,(c=false -> S w) -> B a w -> K a w)){a:Act}{w:World}(r:B a w)(h:c=false -> False:=by intro h;simp at h):K a w:=t.out _ _ (fun x=>(h x).elim) r
end
end
section
open Go.RowKit
theorem Es(s:ByteArray)(w:World)(h:s.size <= 9223372036854775807):
  Calls prog 147 #[.string s, .string ⟨#[48,49,50,51,52,53,54,55,56,57]⟩] w fun e w'=>e= .returned (.string ⟨(Lib.trimS s.data.toList oQ).toArray⟩) /\ Below w.heap.size w w':=
 Any.strings_Trim_laid Tryz.x9 kR s ⟨#[48,49,50,51,52,53,54,55,56,57]⟩ w h dC (ascii_of_all dC)
theorem Et(s:ByteArray)(w:World)(h:s.size <= 9223372036854775807):
  Calls prog 147 #[.string s, .string ⟨#[48]⟩] w fun e w'=>e= .returned (.string ⟨(Lib.trimS s.data.toList [48]).toArray⟩) /\ Below w.heap.size w w':=
 Any.strings_Trim_laid Tryz.x9 kR s ⟨#[48]⟩ w h dC (ascii_of_all dC)
set_option maxRecDepth 100000 in
set_option maxHeartbeats 3200000 in
theorem uQ(s:ByteArray)(w:World)(hs:s.size <= 9223372036854775807):
  Calls prog 145 #[.string s] w fun e w'=>e= .returned (.bool (dgs s.data.toList)) /\ Below w.heap.size w w':=by
 obtain⟨l,F⟩:=eX (s.data.toList);have O:=lH F;have T:=lH (fun w=>Es s w hs);rw[<- F];by_cases h0:l= []
 ·subst h0
  have a0:s=⟨#[]⟩:=by
   cases s with
   | mk d=>congr 1;exact Array.toList_inj.1 O.o.symm
  subst a0;clear F O T;go_enter func145,ntmps145;go_wp2_with fail
  go_returns;exact⟨rfl,Below.refl _ _⟩
 ·obtain⟨U,X⟩:=oP (D:=s) (by rw[<- F];exact h0);clear F;go_enter func145,ntmps145;go_wp2_with fail
  refine(T.o _).mono ?_;rintro e w1 ⟨rfl,G⟩;rw[<- O.o];by_cases h:l.all gm=true
  ·have E:=(xX l).2 h;rw[E];have R:=lH G;have M:Hid (dgs l=true):=lH (by unfold dgs;rw[h,decide_eq_true h0];rfl);clear G E h U X h0;go_wp2_with fail
   go_returns;exact⟨by rw[M.o];rfl,R.o⟩
  ·have E:Lib.trimS l oQ≠ []:=fun e=>h ((xX l).1 e)
   obtain⟨t,Y⟩:=eX (Lib.trimS l oQ);rw[<- Y] at E ⊢;obtain⟨h3,h4⟩:=oP (D:=⟨t.toArray⟩) (by simpa using E);have R:=lH G;have M:Hid (dgs l=false):=lH (by unfold dgs;rw[Bool.not_eq_true] at h;rw[h,Bool.and_false]);have Z:Hid (t.isEmpty=false):=lH (by simpa using E);clear G h U X h0 Y E;go_wp2_with fail
   go_returns;refine⟨?_,R.o⟩;rw[M.o];show Ending.returned (.bool t.isEmpty)=_;rw[Z.o]
end
section
def sv(l:List Nat)(i:Nat):Nat -> Nat
 | 0=>0
 | j+1=>sv l i j+BB^j*dg l (i+j)
theorem yf(l:List Nat)(i:Nat):sv l i 0=0:=rfl
theorem gK(l:List Nat)(i j:Nat):sv l i (j+1)=sv l i j+BB^j*dg l (i+j):=rfl
theorem lQ{l:List Nat}(h:Dig l)(i j:Nat):sv l i j<BB^j:=by
 induction j with
 | zero=>simp[sv]
 | succ j E=>
  rw[gK,Nat.pow_succ];have h1:dg l (i+j)+1 <= BB:=by have:=h (i+j);simp only[ik];omega
  have t:=Nat.mul_le_mul_left (BB^j) h1;rw[Nat.mul_add] at t;omega
theorem uR{l m:List Nat}{i j:Nat}(h:∀t,t<j -> dg l (i+t)=dg m (i+t)):sv l i j=sv m i j:=by
 induction j with
 | zero=>rfl
 | succ j E=>rw[gK,gK,E (fun t F=>h t (by omega)),h j (by omega)]
theorem Eu(l:List Nat)(i j k x:Nat)(h:i+j <= k):sv (l.set k x) i j=sv l i j:=
 uR fun t E=>by rw[iB,if_neg (by omega)]
theorem qB(l:List Nat)(i j x:Nat)(h:i+j<l.length):sv (l.set (i+j) x) i (j+1)=sv l i j+BB^j*x:=by
 rw[gK,Eu _ _ _ _ _ (Nat.le_refl _),iB,if_pos ⟨rfl,h⟩]
theorem Ev(l:List Nat)(j:Nat):sv l 0 j=val (l.take j):=by
 induction j with
 | zero=>simp[sv,val]
 | succ j h=>rw[gK,ib,h,Nat.zero_add]
theorem Ew{U V h E t F G:Nat}(T:U=h*t+F)(X:F<t)(Y:V=E*t+G)(O:0<E):U / V <= h / E:=by
 rw[Nat.le_div_iff_mul_le O];have h1:U / V*V <= U:=Nat.div_mul_le_self _ _;have R:U / V* (E*t) <= U / V*V:=Nat.mul_le_mul_left _ (by omega)
 have M:U / V*E*t<(h+1)*t:=by
  rw[Nat.mul_assoc,Nat.add_mul,Nat.one_mul];omega
 have:=Nat.lt_of_mul_lt_mul_right M;omega
theorem Ex{U V q P t E H h:Nat}(O:U=H*P+t)(R:t<P)(T:V=h*P+E)(F:0<V)(G:H<q*h):U / V<q:=by
 rw[Nat.div_lt_iff_lt_mul F];have h1:(H+1)*P <= q*h*P:=Nat.mul_le_mul_right _ G;have M:q* (h*P) <= q*V:=Nat.mul_le_mul_left _ (by omega);rw[Nat.add_mul,Nat.one_mul,Nat.mul_assoc] at h1;omega
theorem yg{U V q r P E t H h:Nat}(M:U=H*P+E)(O:V=h*P+t)(T:t<P)(R:0<V)(X:q*h+r <= H)(Y:q <= h+r+1):q <= U / V+1:=by
 rcases q with _ | q
 ·exact Nat.zero_le _
 ·have:q <= U / V:=by
   rw[Nat.le_div_iff_mul_le R,M,O];have h1:q* (h*P+t) <= q* (h*P)+q*P:=by rw[Nat.mul_add];have:=Nat.mul_le_mul_left q (Nat.le_of_lt T);omega
   have F:q*P <= (h+r)*P:=Nat.mul_le_mul_right _ (by omega);have G:((q+1)*h+r)*P <= H*P:=Nat.mul_le_mul_right _ X;rw[Nat.add_mul,Nat.add_mul,Nat.one_mul,Nat.add_mul,Nat.mul_assoc] at G;rw[Nat.add_mul] at F;omega
  omega
theorem yh{q t y0 r h:Nat}(e:q*t+r=h):q* (t*4294967296+y0)+r*4294967296=h*4294967296+q*y0:=by
 rw[Nat.mul_add, <- Nat.mul_assoc, <- e,Nat.add_mul];generalize q*t=a;generalize q*y0=b;omega
theorem Ey{_r E b c h t:Nat}(F:c+t=h+b)(G:t+E<b):h+E<c:=by omega
theorem Ez{q E y0 r h t:Nat}(e:q*E+r=h)(F:r*4294967296+t<q*y0):h*4294967296+t<q* (E*4294967296+y0):=
 Ey (_r:=r) (yh (y0:=y0) e) F
theorem EA{q t y0 r h E:Nat}(e:q*t+r=h)(G:q*y0 <= r*4294967296+E):q* (t*4294967296+y0)+0 <= h*4294967296+E:=by
 have F:=yh (y0:=y0) e;generalize q* (t*4294967296+y0)=c at*;generalize q*y0=b at*;clear e;omega
theorem EB{q h y0:Nat}(t:q<4294967296)(E:2147483648 <= h):q <= h*4294967296+y0+0+1:=by omega
theorem yj{q r t h:Nat}(E:0<q)(e:q*t+r=h):(q-1)*t+ (r+t)=h:=by
 obtain⟨n,rfl⟩:∃n,q=n+1:=⟨q-1,by omega⟩
 rw[Nat.add_sub_cancel];rw[Nat.add_mul,Nat.one_mul] at e;omega
structure Est (D x0 y0 y1 h:Nat):Prop where
 start:D <= h / y1
 far:∀q r,q*y1+r=h -> 4294967296 <= r -> q<4294967296 /\ q <= D+1
 big:∀q,4294967296 <= q -> D <= q-1
 down:∀q r,q*y1+r=h -> r*4294967296+x0<q*y0 -> D <= q-1 /\ 0<q
 up:∀q r,q*y1+r=h -> q*y0 <= r*4294967296+x0 -> q<4294967296 -> q <= D+1
 lt:D<4294967296
theorem EC{t lv:List Nat}{i m X x1 M y0 E h:Nat}(T:Dig t)(Z:Dig lv)(h0:X=dg t (i+m))(h1:x1=dg t (i+ (m+1)))(Y:M=dg t (i+ (m+2)))(k0:y0=dg lv m)(k1:E=dg lv (m+1))
  (hh:h=M*4294967296+x1) (a3:2147483648 <= E) (a2:sv t i (m+3)<BB*sv lv 0 (m+2)):Est (sv t i (m+3) / sv lv 0 (m+2)) X y0 E h /\ 0<sv lv 0 (m+2):=by
 have U:BB^ (m+1)=BB^m*4294967296:=by rw[Nat.pow_succ, <- ik]
 have p2:BB^ (m+2)=BB^m*4294967296*4294967296:=by rw[Nat.pow_succ,U, <- ik]
 have eU:sv t i (m+3)=(h*4294967296+X)*BB^m+sv t i m:=by
  rw[gK,gK,gK, <- h0, <- h1, <- Y,hh,p2,U];generalize BB^m=P;generalize sv t i m=R;grind
 have a0:sv t i (m+3)=h*BB^ (m+1)+sv t i (m+1):=by
  rw[gK t i (m+2),gK t i (m+1), <- h1, <- Y,hh,p2,U];generalize BB^m=P;generalize sv t i (m+1)=R;grind
 have eV:sv lv 0 (m+2)=(E*4294967296+y0)*BB^m+sv lv 0 m:=by
  rw[gK,gK,Nat.zero_add,Nat.zero_add, <- k0, <- k1,U];generalize BB^m=P;generalize sv lv 0 m=R;grind
 have O:sv lv 0 (m+2)=E*BB^ (m+1)+sv lv 0 (m+1):=by
  rw[gK lv 0 (m+1),Nat.zero_add, <- k1,Nat.mul_comm E,Nat.add_comm]
 have lU:=lQ T i m;have a5:=lQ T i (m+1);have lV:=lQ Z 0 m;have a6:=lQ Z 0 (m+1);have hP:0<BB^ (m+1):=Nat.pow_pos (by decide)
 have F:0<sv lv 0 (m+2):=by
  rw[O];have:=Nat.mul_pos (show 0<E by omega) hP;omega
 have a4:M <= E:=by
  have g1:M*BB^ (m+2) <= sv t i (m+3):=by rw[gK t i (m+2), <- Y,Nat.mul_comm];omega
  have g2:sv lv 0 (m+2)<(E+1)*BB^ (m+1):=by rw[O,Nat.add_mul,Nat.one_mul];omega
  have g3:M*BB^ (m+2)<(E+1)*BB^ (m+2):=by
   rw[Nat.pow_succ BB (m+1), <- Nat.mul_assoc, <- Nat.mul_assoc];have g4:=Nat.mul_lt_mul_of_pos_left g2 (show 0<BB by decide);rw[Nat.mul_comm BB ((E+1)*_)] at g4;rw[Nat.pow_succ BB (m+1), <- Nat.mul_assoc] at g1;omega
  have:=Nat.lt_of_mul_lt_mul_right g3;omega
 have a8:x1<4294967296:=by rw[h1];exact T _
 have a7:X<4294967296:=by rw[h0];exact T _
 have a9:y0<4294967296:=by rw[k0];exact Z _
 have a1:sv t i (m+3) / sv lv 0 (m+2)<4294967296:=by
  rw[Nat.div_lt_iff_lt_mul F];exact a2
 refine⟨⟨Ew a0 a5 O (by omega),?_,?_,?_,?_,a1⟩,F⟩
 ·intro q r e hr
  have G:q<4294967296:=by
   rcases Nat.lt_or_ge q 4294967296 with g | g
   ·exact g
   ·have g1:=Nat.mul_le_mul_right E g;have g2:=Nat.mul_le_mul_right 4294967296 a4;omega
  exact⟨G,yg a0 O a6 F (r:=r) (by omega) (by omega)⟩
 ·intro q G;exact Nat.le_sub_one_of_lt (Nat.lt_of_lt_of_le a1 G)
 ·intro q r e ht;have:=Ex (q:=q) eU lU eV F (Ez e ht);exact⟨Nat.le_sub_one_of_lt this,Nat.lt_of_le_of_lt (Nat.zero_le _) this⟩
 ·intro q r e ht G;exact yg eU eV lV F (r:=0) (EA e ht) (EB G a3)
theorem ED{lo l0 lv:List Nat}{i j c b b' q x s:Nat}(E:i+j<lo.length)(h:sv l0 i j+BB^j* (c+b)=sv lo i j+q*sv lv 0 j)(F:s=c+q*dg lv j)
  (G:dg l0 (i+j)+4294967296*b'=x+b+s%4294967296):
  sv l0 i (j+1)+BB^ (j+1)* (s / 4294967296+b')=sv (lo.set (i+j) x) i (j+1)+q*sv lv 0 (j+1):=by
 rw[qB _ _ _ _ E,gK,gK,Nat.zero_add,Nat.pow_succ];have h1:=jZ (BB^j) s;have M:BB^j*s=BB^j*c+q* (BB^j*dg lv j):=by rw[F,Nat.mul_add,Nat.mul_left_comm]
 have t:BB^j* (dg l0 (i+j)+4294967296*b')=BB^j* (x+b+s%4294967296):=by rw[G]
 rw[Nat.mul_add,Nat.mul_add,Nat.mul_add, <- Nat.mul_assoc, <- ik] at t;rw[Nat.mul_add (BB^j*BB),Nat.mul_add q];rw[Nat.mul_add] at h;simp only[<- ik] at*;omega
theorem EE{lo l0 lv:List Nat}{i j c s:Nat}(t:i+j<lo.length)(h:sv lo i j+BB^j*c=sv l0 i j+sv lv 0 j)(E:s=c+ (dg l0 (i+j)+dg lv j)):
  sv (lo.set (i+j) (s%4294967296)) i (j+1)+BB^ (j+1)* (s / 4294967296)=sv l0 i (j+1)+sv lv 0 (j+1):=by
 rw[qB _ _ _ _ t,gK,gK,Nat.zero_add,Nat.pow_succ];have h1:=jZ (BB^j) s;have F:BB^j*s=BB^j*c+BB^j*dg l0 (i+j)+BB^j*dg lv j:=by rw[E,Nat.mul_add,Nat.mul_add];omega
 omega
theorem EF{U V q S:Nat}(E:0<V)(h:U=S+q*V)(F:U / V <= q):q=U / V /\ S=U%V:=by
 have h1:q <= U / V:=by rw[Nat.le_div_iff_mul_le E];omega
 have t:q=U / V:=Nat.le_antisymm h1 F;refine⟨t,?_⟩;have:=Nat.div_add_mod U V;rw[<- t,Nat.mul_comm] at this;omega
theorem EG{U V q S T X ov:Nat}(E:0<V)(h:U+X=S+q*V)(hS:S<X)(a1:V<X)(hq:q <= U / V+1)(G:T+X*ov=S+V)(a0:T<X):q-1=U / V /\ T=U%V /\ 0<q:=by
 have h1:U<q*V:=by omega
 have R:U / V<q:=by rw[Nat.div_lt_iff_lt_mul E];exact h1
 have t:q=U / V+1:=by omega
 have Y:=Nat.div_add_mod U V;have Z:=Nat.mod_lt U E;have h6:q*V=V* (U / V)+V:=by rw[t,Nat.add_mul,Nat.one_mul,Nat.mul_comm]
 have O:ov=1:=by
  rcases Nat.lt_or_ge ov 1 with M | M
  ·have:ov=0:=by omega
   subst this;omega
  ·rcases Nat.lt_or_ge 1 ov with F | F
   ·have:=Nat.mul_le_mul_left X F;omega
   ·omega
 subst O;rw[Nat.mul_one] at G;exact⟨by rw[t,Nat.add_sub_cancel],by omega,by rw[t];exact Nat.succ_pos _⟩
theorem EH(lo t lv:List Nat){i m q x c b:Nat}(E:i+m<lo.length)(h:sv t i m+BB^m* (c+b)=sv lo i m+q*sv lv 0 m)(F:dg t (i+m)=x+b+c):
  sv t i (m+1)=sv (lo.set (i+m) x) i (m+1)+q*sv lv 0 m:=by
 rw[qB _ _ _ _ E,gK,F];rw[Nat.mul_add] at h;rw[Nat.mul_add,Nat.mul_add];omega
theorem EI(lo t lv:List Nat){i m q x c b:Nat}(E:i+m<lo.length)(h:sv t i m+BB^m* (c+b)=sv lo i m+q*sv lv 0 m)(F:dg t (i+m)+4294967296=x+b+c):
  sv t i (m+1)+BB^ (m+1)=sv (lo.set (i+m) x) i (m+1)+q*sv lv 0 m:=by
 rw[qB _ _ _ _ E,gK,Nat.pow_succ];have e:BB^m* (dg t (i+m)+4294967296)=BB^m* (x+b+c):=by rw[F]
 rw[<- ik,Nat.mul_add,Nat.mul_add,Nat.mul_add] at e;rw[Nat.mul_add] at h;omega
theorem EJ(lo l1 lv:List Nat){i m c s:Nat}(t:i+m<lo.length)(h:sv lo i m+BB^m*c=sv l1 i m+sv lv 0 m)(E:s=dg l1 (i+m)+c):
  sv (lo.set (i+m) (s%4294967296)) i (m+1)+BB^ (m+1)* (s / 4294967296)=sv l1 i (m+1)+sv lv 0 m:=by
 rw[qB _ _ _ _ t,gK,Nat.pow_succ];have h1:=jZ (BB^m) s;have F:BB^m*s=BB^m*dg l1 (i+m)+BB^m*c:=by rw[E,Nat.mul_add]
 omega
end
end Go.Proofs.YtdefghfjhgmpfaaGreatDoor
