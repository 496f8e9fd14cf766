/- Parts of this proof: SName STake SWithin ParseM Num Texts Nums Enter Leave. -/
import Derived.Test.YtokagbahdkfagaaGreatDoorMAD
import Derived.Test.YtokagbahdkfagaaGreatDoorMAA
import Derived.Deep.LoopGhost
import Derived.Test.YtokagbahdkfagaaGreatDoorMAO
import Derived.Maps.OwnSet
import Derived.Test.YtokagbahdkfagaaGreatDoorMAC
import Derived.Test.YtokagbahdkfagaaGreatDoorMAR
import Derived.Test.YtokagbahdkfagaaGreatDoorMAE
import Derived.Test.YtokagbahdkfagaaGreatDoorMAM
import Derived.Test.YtokagbahdkfagaaGreatDoorMAP
namespace Go.Proofs.YtokagbahdkfagaaGreatDoor
open Go.Proofs.Tryz
section
open Go.RowKit Go.Lib
def lG(r:Nat):Bool:=decide (r<33) || decide (126<r)
def kr(c:UInt8):Bool:=decide (33 <= c.toNat) && decide (c.toNat <= 126)
theorem FH(s:ByteArray):∀ (f pos:Nat),s.size <= pos+f -> (decide (0 <= idxFuncFrom lG true s f pos)= !((s.data.toList.drop pos).all kr)):=by
 have t:s.data.toList.length=s.size:=by rw[Array.length_toList];rfl
 intro f
 induction f with
 | zero=>
  intro pos h;rw[List.drop_eq_nil_of_le (by rw[t];omega)];rfl
 | succ f U=>
  intro pos h;unfold idxFuncFrom;by_cases r:pos<s.size
  ·rw[if_pos r,List.drop_eq_getElem_cons (by rw[t];exact r),List.all_cons]
   have R:s.data.toList.getD pos 0=s.data.toList[pos]'(by rw[t];exact r):=by
    rw[List.getD_eq_getElem?_getD,List.getElem?_eq_getElem (by rw[t];exact r)];rfl
   have E:=decode_N s pos;rw[R] at E;generalize s.data.toList[pos]'(by rw[t];exact r)=c at E ⊢;by_cases O:c.toNat<128
   ·rw[decodeN_ascii _ _ _ _ _ O] at E;rw[E];by_cases M:kr c=true
    ·have C:=M;unfold kr at C;simp only[Bool.and_eq_true,decide_eq_true_eq] at C;rw[if_neg (by unfold lG;simp;omega),M,Bool.true_and];exact U (pos+1) oM
    ·have G:kr c=false:=by simpa using M
     have C:=G;unfold kr at C;simp only[Bool.and_eq_false_iff,decide_eq_false_iff_not] at C;rw[if_pos (by unfold lG;simp;omega),G];simp
   ·have G:kr c=false:=by unfold kr;simp;omega
    have T:lG (Utf8.decode s pos).1=true:=by
     rw[E];have:=vU (s.data.toList.length-pos) c.toNat (s.data.toList.getD (pos+1) 0).toNat (s.data.toList.getD (pos+2) 0).toNat (s.data.toList.getD (pos+3) 0).toNat oM
     revert this
     generalize (decodeN (s.data.toList.length-pos) c.toNat (s.data.toList.getD (pos+1) 0).toNat (s.data.toList.getD (pos+2) 0).toNat (s.data.toList.getD (pos+3) 0).toNat).1=q;intro this;unfold lG;simp;omega
    rw[if_pos T,G];simp
  ·rw[if_neg r,List.drop_eq_nil_of_le (by rw[t];omega)];rfl
theorem FI(s:ByteArray):decide (0 <= idxFunc lG true s)= !(s.data.toList.all kr):=by
 have:=FH s s.size 0 oM;rw[List.drop_zero] at this;exact this
def ku(s:ByteArray):Bool:=decide (s.size≠0) && decide (s.size <= 40) && s.data.toList.all kr
theorem FJ(w:World):PredAtRunes prog 113 #[] lG w:=fun W r t _=>by
 unfold FnGives;by_cases h1:r<33 <;> by_cases h:126<r
 all_goals
  have C:(r:Int)<33↔r<33:=oM
  have E:(126:Int)<r↔126<r:=oM
  go_enter func113,ntmps113
  go_wp2
  all_goals first | (exfalso;omega) | (go_ret;exact⟨by first | (simp[lG,h1,h];done) | (simp[lG,h1,h];omega),0,rfl⟩)
theorem FK(s:ByteArray)(b:Bool)(r:s.data.toList.all kr= !b)(w:World):
  Calls prog 112 #[.string s, .func (.func 113) #[] #[]] w fun e w'=>e= .returned (.bool b) /\ Below w.heap.size w w':=by
 have h:=Tryz.strings_ContainsFunc_runes 113 #[] (enters_of func113 kR rfl) lG s w (FJ w);rw[FI,r,Bool.not_not] at h;exact h
theorem uo(s:ByteArray)(w:World):
  Calls prog 82 #[.string s] w fun e w'=>e= .returned (.bool (ku s)) /\ Below w.heap.size w w':=by
 by_cases h0:s.size=0
 ·have e:s=⟨#[]⟩:=by
   rcases s with ⟨⟨l⟩⟩
   have:l.length=0:=h0;rw[List.length_eq_zero_iff.1 this]
  subst e;go_enter func82,ntmps82;go_wp2_with fail
  go_returns;exact⟨rfl,by go_grown⟩
 have C:¬s.toList= [] /\ s.toList.isEmpty=false:=mG (fun e=>h0 (by
  have:s.data.toList.length=0:=by rw[e];rfl
  rw[Array.length_toList] at this;exact this))
 obtain⟨G,M⟩:=C;by_cases h1:((s.size:Nat):Int) <= 40
 ·obtain⟨b,t⟩:∃b:Bool,s.data.toList.all kr= !b:=⟨!(s.data.toList.all kr),by simp⟩
  have H:=lH (fun w=>FK s b t w);have h:ku s= !b:=by unfold ku;rw[t];simp[h0];intro _;omega
  have r:=lH h;clear h t;cases b
  all_goals
   go_enter func82,ntmps82;go_wp2_with fail
   refine(H.o _).mono ?_;rintro e O ⟨rfl,E⟩;go_wp2_with fail
   go_returns;exact⟨by rw[r.o];rfl,by go_grown⟩
 ·have h:ku s=false:=by unfold ku;simp;omega
  have r:=lH h;clear h;go_enter func82,ntmps82;go_wp2_with fail
  go_returns;exact⟨by rw[r.o];rfl,by go_grown⟩
end
section
open Go.RowKit Go.Lib Go.Maps
def iX(w:World)(b n:Nat)(S:List (List UInt8)):Prop:=
 ∃D:DataW Unit,w.ownsMap prog 9 (plainElem prog 4) b n D /\ ∀s:ByteArray,D.atKey (.string s.data.toList) (.lit (.bool false))= .lit (.bool (decide (s.data.toList ∈ S)))
def jg(S:List (List UInt8))(s:ByteArray):Nat:=if ku s then(if s.data.toList ∈ S then 9 else 0) else 11
def pW(S:List (List UInt8))(s:ByteArray):List (List UInt8):=if jg S s=0 then s.data.toList::S else S
theorem FL{H:Type}{P:Program}{e:TypeId}(r:P.underlying e=some .bool){v:Value}{y:Bool}{t:List MemPlace}(h:plainElem (H:=H) P e v=some (.lit (.bool y),t)):v= .bool y:=by
 unfold plainElem at h;rw[r] at h;cases v <;> simp at h
 rw[h.1]
theorem iX.made(w:World):iX (w.alloc (.map #[] 0)) w.heap.size 0 []:=
 ⟨_,World.ownsMap_made w _ _ _,fun s=>by simp;rfl⟩
theorem iX.below{w w':World}{b n B:Nat}{S:List (List UInt8)}(h:iX w b n S)(M:Below B w w')(G:b<B):iX w' b n S:=by
 obtain⟨D,⟨t,r,h1,C⟩,E⟩:=h;exact⟨D,⟨t,r,(M.block b G).trans h1,C⟩,E⟩
theorem iX.lt{w:World}{b n:Nat}{S:List (List UInt8)}(h:iX w b n S):b<w.heap.size:=by
 obtain⟨D,h1,_⟩:=h;exact h1.lt
theorem yE{s:ByteArray}(h:s.size <= maxLen):keyOf prog 9 (.string s)=some (.string s.data.toList):=WideMaps.keyOf_string_mk underlying9 h
theorem yF:Keyed prog 9:=string_keyed underlying9
theorem iX.look{w:World}{b n:Nat}{S:List (List UInt8)}(h:iX w b n S){s:ByteArray}(G:s.size <= maxLen):(Instr.lookup 165 (.map (some b)) (.string s) false).run prog w= .ok (.bool (decide (s.data.toList ∈ S))) w:=by
 obtain⟨D,h1,E⟩:=h;obtain⟨v,M,r,C⟩:=h1.lookup (H:=Unit) (t:=165) (e:=4) yF underlying165 (z:= .bool false) kR (plainElem_bool underlying4 false) (yE G);rw[E s] at C;rw[FL underlying4 C] at r;exact r
theorem yG(w:World)(b n:Nat)(S:List (List UInt8))(s:ByteArray)(h:iX w b n S)(hn:n<1000):
  Calls prog 95 #[.map (some b), .string s] w fun e w'=>e= .returned (.int .i64 (jg S s:Nat)) /\ iX w' b (n+1) (pW S s) /\ Chg (fun k=>k=b) w w':=by
 have r:=lH h;cases hnm:ku s
 ·have G:jg S s=11:=by unfold jg;rw[hnm];rfl
  have E:=lH G;have R:=lH (fun w=>by have:=uo s w;rw[hnm] at this;exact this);clear G hnm h;go_enter func95,ntmps95;go_wp2_with fail
  refine(R.o _).mono ?_;rintro e Z ⟨rfl,C⟩;go_wp2_with fail
  go_returns;refine⟨by rw[E.o];rfl,?_,Chg.of_below C⟩;obtain⟨D,h1,M⟩:=r.o.below C r.o.lt;unfold pW;rw[E.o,if_neg dC];exact⟨D,h1.mono (Nat.le_succ _),M⟩
 have V:s.size <= maxLen:=by
  have:=hnm;unfold ku at this;simp only[Bool.and_eq_true,decide_eq_true_eq] at this;unfold maxLen;omega
 have R:=lH (fun w=>by have:=uo s w;rw[hnm] at this;exact this);by_cases O:s.data.toList ∈ S
 ·have G:jg S s=9:=by unfold jg;rw[hnm,if_pos O];rfl
  have E:=lH G;have T:=lH (show decide (s.data.toList ∈ S)=true by simpa using O);clear G hnm h O;go_enter func95,ntmps95;go_wp2_with fail
  refine(R.o _).mono ?_;rintro e Z ⟨rfl,C⟩;have U:=(r.o.below C r.o.lt).look V;rw[T.o] at U;go_wp2_with fail
  go_returns;refine⟨by rw[E.o];rfl,?_,Chg.of_below C⟩;obtain⟨D,h1,M⟩:=r.o.below C r.o.lt;unfold pW;rw[E.o,if_neg dC];exact⟨D,h1.mono (Nat.le_succ _),M⟩
 ·have G:jg S s=0:=by unfold jg;rw[hnm,if_neg O];rfl
  have E:=lH G;have T:=lH (show decide (s.data.toList ∈ S)=false by simpa using O);clear G hnm h O;go_enter func95,ntmps95;go_wp2_with fail
  refine(R.o _).mono ?_;rintro e Z ⟨rfl,C⟩;have U:=(r.o.below C r.o.lt).look V;rw[T.o] at U;obtain⟨D,h1,M⟩:=r.o.below C r.o.lt;have W:=lH h1;have H2:=lH M;clear h1 M
  go_wp2_with (at_mapUpdate;refine wpList_mapUpdate_own _ rfl _ _ _ 165 rfl 9 4 yF underlying165 _ b n D rfl W.o (by unfold maxLen;omega) _ _ _ rfl rfl (yE V) _ [] (plainElem_bool underlying4 true) ?_)
  intro w3 X Y;have H3:=lH X;have HG:=lH Y;have hB:=r.o.lt;clear X Y;go_wp2_with fail
  go_returns;refine⟨by rw[E.o];rfl,⟨_,H3.o,fun t=> ?_⟩,(Chg.of_below C).iW HG.o (.inl rfl)⟩;unfold pW;rw[E.o,if_pos rfl];by_cases e:t.data.toList=s.data.toList
  ·rw[e];rw[atKey_put_same (k:= .string s.data.toList) W.o.isMap (by simp[WideAt.IsKeyLit])];simp
  ·rw[atKey_put_other (fun h=>e (by injection h))];rw[H2.o t];simp[e]
end
section
open Go.RowKit
def jM(n:Int):Bool:=decide (-1073741824 <= n) && decide (n <= 1073741824)
theorem uq(n:Int)(w:World):
  Calls prog 96 #[.int .i64 n] w fun e w'=>e= .returned (.bool (jM n)) /\ Below w.heap.size w w':=by
 by_cases h1: -1073741824 <= n <;> by_cases t:n <= 1073741824
 all_goals
  have h:jM n=(decide (-1073741824 <= n) && decide (n <= 1073741824)):=rfl;simp only[h1,t,decide_true,decide_false,Bool.and_true,Bool.and_false] at h;have r:=lH h;clear h;go_enter func96,ntmps96;go_wp2_with fail
  go_returns;exact⟨by rw[r.o];rfl,by go_grown⟩
end
section
open Go.RowKit
open Lp (RL upd eu)
def fE:Nat -> (Nat -> Nat) -> Nat
 | 0,_=>0
 | n+1,e=>if fE n e≠0 then fE n e else e n
theorem jw{n:Nat}{e:Nat -> Nat}:fE n e=0↔∀j,j<n -> e j=0:=by
 induction n with
 | zero=>exact⟨fun _ j t=>absurd t oM,fun _=>rfl⟩
 | succ n C=>
  show(if fE n e≠0 then fE n e else e n)=0↔_;by_cases h:fE n e=0
  ·rw[if_neg (by simpa using h)];exact⟨fun r j t=>by by_cases E:j=n;subst E;exact r;exact C.1 h j oM,fun r=>r n oM⟩
  ·rw[if_pos h];exact⟨fun r=>absurd r h,fun r=>absurd (C.2 fun j t=>r j oM) h⟩
theorem kv{n j:Nat}{e:Nat -> Nat}(E:j<n)(h1:∀i,i<j -> e i=0)(t:e j≠0):fE n e=e j:=by
 induction n with
 | zero=>omega
 | succ n C=>
  show(if fE n e≠0 then fE n e else e n)=_;by_cases h:j=n
  ·subst h;rw[if_neg (by simpa using jw.2 h1)]
  ·have r:=C oM;rw[if_pos (by rw[r];exact t),r]
def sE(s:ByteArray):Nat:=fo s.data.toList
theorem yH{B:Nat}{w:World}{n:Nat}{s:Nat -> ByteArray}{e:Ending}(h:nP B w n s e):
  (fE n (fun j=>sE (s j))≠0 /\ e= .returned (.tuple #[.slice none 0 0, .int .i64 (fE n (fun j=>sE (s j)):Nat)])) \/
  (fE n (fun j=>sE (s j))=0 /\ ∃g f,B <= g /\ e= .returned (.tuple #[.slice (some ⟨g,0,none⟩) n n, .int .i64 0]) /\ RB w g n f /\ ∀j,j<n -> (s j).data.toList=fB (f j)):=by
 rcases h with ⟨j,t,h1,C,r⟩ | ⟨g,f,h0,r,M,G⟩
 ·have E:=kv (e:=fun j=>sE (s j)) t h1 C;exact .inl ⟨by rw[E];exact C,by rw[E];exact r⟩
 ·exact .inr ⟨jw.2 fun j t=>by show fo _=0;rw[G j t];exact nC _,g,f,h0,r,M,G⟩
def kw(n:Nat)(t:Nat -> ByteArray)(b:ByteArray):Nat:=if fE n (fun j=>sE (t j))≠0 then fE n (fun j=>sE (t j)) else sE b
def iq(n m:Nat)(k:Nat -> Nat)(o:Nat -> ByteArray)(t:Nat -> Nat -> ByteArray)(b:Nat -> ByteArray):Nat:=
 if 96<n \/ 256<m then 6 else if ¬(∀i,i<m -> k i=n) then 13 else
  if fE n (fun j=>sE (o j))≠0 then fE n (fun j=>sE (o j)) else fE m (fun i=>kw n (t i) (b i))
structure ut (n m:Nat) (o:Nat -> ByteArray) (t:Nat -> Nat -> ByteArray) (b:Nat -> ByteArray) (A:Nat -> Nat -> Rat) (bq c:Nat -> Rat):Prop where
 obj:∀j,j<n -> (o j).data.toList=fB (c j)
 rows:∀i,i<m -> ∀j,j<n -> (t i j).data.toList=fB (A i j)
 bounds:∀i,i<m -> (b i).data.toList=fB (bq i)
def RowsIn(w:World)(v:Value)(m:Nat):Prop:=m=0 \/ ∃g c cs,v= .slice (some ⟨g,0,none⟩) m c /\ Row w g 33 cs
def FM(w':World)(n m:Nat)(k:Nat -> Nat)(o:Nat -> ByteArray)(t:Nat -> Nat -> ByteArray)(b:Nat -> ByteArray)(e:Ending):Prop:=
 (iq n m k o t b≠0 /\ e= .returned (.tuple #[.agg #[.slice none 0 0, .slice none 0 0, .slice none 0 0], .int .i64 (iq n m k o t b:Nat)])) \/
 (iq n m k o t b=0 /\ ∃AC AR AD cC cR cD A bq c,e= .returned (.tuple #[.agg #[.slice AC n cC, .slice AR m cR, .slice AD m cD], .int .i64 0]) /\
  fD w' (.slice AC n cC) n c /\ jZ w' (.slice AR m cR) m n A /\ fD w' (.slice AD m cD) m bq /\ ut n m o t b A bq c /\ RowsIn w' (.slice AR m cR) m)
end
section
open Go.RowKit
open Lp (RL upd eu)
set_option maxRecDepth 100000 in
set_option maxHeartbeats 3200000 in
theorem jE(va:Value)(a:Rat)(O:Nat)(w:World)(ha:eP w va a)(hl:RL O a)(Y:O <= 1000000)(ht:Tab w):
  Calls prog 21 #[va] w fun e w'=>e= .returned (.string (eB a)) /\ Below w.heap.size w w':=by
 obtain⟨sa,Aa,la,ca,ta,Ba,ma,da,rfl⟩:=ha.shape;obtain⟨ae,y,ad,hy⟩:=ha.parts;have U:=lH hl;have HY:=lH hy;obtain⟨W,hW,G,r⟩:=eN1 w [.bool sa, .slice Aa la ca, .bool ta, .slice Ba ma da] 40;have Va:=lH ((ha).below r.o);have Vn:=lH ((ae).below r.o);have Vd:=lH ((ad).below r.o);go_enter func21,ntmps21;have M:=lH (ht.below (show Below w.heap.size w W by have:=r.o;exact this));clear ha hl hy ae ad ht;obtain⟨a1,a2,a3,a4⟩:=aT4 G.o;have a5:=G.o.lt;rw[hW] at a1 a2 a3 a4 a5;go_wp2_with fail
 rw[<- hW];clear hW a1 a2 a3 a4 a5;refine(lD _ a _ Va.o (U.o.mono oM)).mono ?_;rintro e w1 ⟨rfl,R⟩;replace Vn:=lH (Vn.o.below R);replace Vd:=lH (Vd.o.below R);replace G:=rW G R;replace r:=bT r R;replace M:=lH (M.o.below R);clear R;by_cases T:a.den=1
 ·have ai:decide (a.den=1)=true:=decide_eq_true T;have a0:=lH T;clear T;obtain⟨a1,a2,a3,a4⟩:=aT4 G.o;have a5:=G.o.lt;go_wp2_with fail
  clear a1 a2 a3 a4 a5;refine(ui _ a.num O _ Vn.o U.o.1 Y M.o).mono ?_;rintro e w2 ⟨rfl,C⟩;replace r:=bT r C;clear C;rw[<- vX a0.o];go_wp2_with fail
  go_returns;exact⟨rfl,r.o⟩
 ·have ai:decide (a.den=1)=false:=decide_eq_false T;have a0:=lH T;have af:y=a.den:=by rcases HY.o with h | h;exact h;exact absurd h.2 a0.o
  have VD:Hid (eT w1 (.agg #[.bool ta, .slice Ba ma da]) (a.den:Int)):=lH (by have h:=Vd.o;rw[af] at h;exact h);clear T af Vd;have a7:Hid (((a.den:Nat):Int).natAbs<10^O):=lH (by rw[Int.natAbs_natCast];exact U.o.2);have a8:Hid ((txt a.num).size <= 1000002):=lH (yB U.o.1 Y);have ag:Hid ((txt (a.den:Int)).size <= 1000002):=lH (yB a7.o Y);go_wp2_with fail
  have E:=rG w1;have ah:=G.o.lt;obtain⟨a9,aa,ab,ac⟩:=aT4 G.o;have V:=lH (kC a9 (kC aa (kC ab (kN ac))));clear ah a9 aa ab ac;refine rL V.o (fun i=>false) ?_;have t:=V.o _ E.o;refine tKs 0 8 t ?_;refine tKs 1 9 t ?_;refine tKs 4 12 t ?_;refine tKs 5 13 t ?_;refine rD 2 (fun K X=> ?_);go_simp;refine(ui _ a.num O _ (by exact Vn.o) U.o.1 Y (by exact M.o)).mono ?_;rintro e w2 ⟨rfl,C⟩;have C:Below w1.heap.size w1 w2:=bD C;replace VD:=lH (VD.o.below C);replace r:=bT r C;replace M:=lH (M.o.below C);replace E:=bT E C;clear t C;have t:=V.o _ E.o;refine kH X t ?_;clear X K;refine jd (i:=3) (v:= .string (txt a.num++ ⟨#[47]⟩)) (some 11) rfl (by rfl) kR kR kR kR (fun _ _ _ h=>h) (Or.inl ⟨by rfl,?_⟩) t ?_
  ·(intro w' a6;clear a6;go_simp;have:=a8.o;omega)
  simp only[Act.put,List.setIfInBounds_toArray,List.set_cons_zero,List.set_cons_succ];refine rD 6 (fun K X=> ?_);go_simp;refine(ui _ (a.den:Int) O _ (by exact VD.o) a7.o Y (by exact M.o)).mono ?_;rintro e w3 ⟨rfl,Z⟩;have Z:Below w2.heap.size w2 w3:=bD Z;replace r:=bT r Z;replace E:=bT E Z;clear t Z;have t:=V.o _ E.o;refine kH X t ?_;clear X K;refine jd (i:=7) (v:= .string (txt a.num++ ⟨#[47]⟩++txt (a.den:Int))) (some 15) rfl (by rfl) kR kR kR kR (fun _ _ _ h=>h) (Or.inl ⟨by rfl,?_⟩) t ?_
  ·(intro w' a6;clear a6;go_simp;have h1:=a8.o;have h2:=ag.o;(try simp only[ByteArray.size_append]);first | omega | (simp;omega) | (show(txt a.num).size+1+ (txt (a.den:Int)).size <= _;omega))
  simp only[Act.put,List.setIfInBounds_toArray,List.set_cons_zero,List.set_cons_succ];refine tKs 8 2 t ?_;refine dN ?_ _;clear t V E;go_wp2_with fail
  rw[yC a0.o];go_returns;exact⟨rfl,r.o⟩
end
section
open Go.RowKit
open Lp (RL upd eu)
def SK(w:World)(g n:Nat)(s:Nat -> ByteArray):Prop:=∃cs:List Value,Row w g 22 cs /\ n <= cs.length /\ ∀j,j<n -> cs[j]? =some (.string (s j))
section
variable {w w':World} {g n:Nat} {s:Nat -> ByteArray}
theorem SK.lt(h:SK w g n s):g<w.heap.size:=by obtain⟨cs,r,_⟩:=h;exact r.lt
theorem SK.below(h:SK w g n s)(t:Below w.heap.size w w'):SK w' g n s:=by obtain⟨cs,r,h⟩:=h;exact⟨cs,r.below t r.lt,h⟩
theorem SK.other{g':Nat}(h:SK w g n s)(r:w.grownBy w' (some g'))(t:g≠g'):SK w' g n s:=by obtain⟨cs,C,h⟩:=h;exact⟨cs,C.other r t,h⟩
theorem SK.at_(h:SK w g n s){j:Nat}(r:j<n): w.cell? ⟨g,j,none⟩=some (.string (s j)):=by obtain⟨cs,t,_,h⟩:=h;exact t.at_ _ (h j r)
theorem SK.free(h:SK w g n s)(j:Nat): w.frozen? ⟨g,j,none⟩=false:=by obtain⟨cs,r,_⟩:=h;exact r.free j
theorem SK.congr{s':Nat -> ByteArray}(h:SK w g n s)(E:∀j,j<n -> s j=s' j):SK w g n s':=by
 obtain⟨cs,C,t,h⟩:=h;exact⟨cs,C,t,fun j r=>by rw[<- E j r];exact h j r⟩
theorem SK.set(h:SK w g n s){j:Nat}{x:ByteArray}(E:j<n):SK (w.setCell ⟨g,j,none⟩ (.string x)) g n (upd s j x):=by
 obtain⟨cs,C,t,h⟩:=h;refine⟨_,C.set j _,by simpa using t,fun k r=> ?_⟩;by_cases e:k=j
 ·subst e;rw[Lp.upd_same];simp[List.getElem?_set];omega
 ·rw[List.getElem?_set_ne oM,Lp.eQ _ _ e];exact h k r
theorem SK.row(h:SK w g n s):∃cs,Row w g 22 cs:=by obtain⟨cs,r,_⟩:=h;exact⟨cs,r⟩
theorem SK.ts(h:SK w g n s){c:Nat}(r:n <= c)(C:c <= maxLen):TS w (.slice (some ⟨g,0,none⟩) n c) n s:=⟨_,_,rfl,r,C, .inr ⟨g,0,rfl,fun j t=>by rw[Nat.zero_add];exact h.at_ t⟩⟩
theorem SK.tsa(h:SK w g n s){c:Nat}(r:n <= c)(t:c <= maxLen):TSA w (.slice (some ⟨g,0,none⟩) n c) n s:=⟨h.ts r t, .inr (.inl ⟨g,0,c,rfl⟩)⟩
end
theorem FN:(prog.info? 22).map (fun i=>(i.zero,i.size,i.bytes))=some (some (.string ⟨#[]⟩),1,16):=by kernel_rfl
theorem SK.made{w:World}{base g n:Nat}(h:w.ownsRow base 22 1 (.slice (some ⟨g,0,none⟩) n n) n (madeCells (Value.string ⟨#[]⟩).cells (n*1)).toList):SK w g n (fun _=>⟨#[]⟩):=by
 have t:=Row.made (z:= .string ⟨#[]⟩) (by rw[Nat.mul_one] at h;exact h);refine⟨_,t,by simp,fun j r=> ?_⟩;rw[List.getElem?_replicate,if_pos r]
theorem yI(w:World){ops:Array Oper}{rest:List Oper}{o:Oper}{a:Act}{Q:Exit -> Act -> World -> Prop}
  (M:o.guard=none) (l c:Operand) (U:o.op=Op.makeSlice 26 l c) (L C:Int) (n:Nat) (T:a.eval l= .int .i64 L) (G:a.eval c= .int .i64 C) (E:L=(n:Int)) (r:C=(n:Int)) (b2:n <= 4398046511104)
  (t:∀w',SK w' w.heap.size n (fun _=>⟨#[]⟩) -> Below w.heap.size w w' -> w.heap.size<w'.heap.size -> wpList prog ops Q rest (a.put o.dst (.slice (some ⟨w.heap.size,0,none⟩) n n)) w'):
  wpList prog ops Q (o::rest) a w:=by
 obtain⟨i,R,W,X,Y⟩:=info_parts FN;refine wpList_make_full w M l c _ U w.heap.size _ i _ 1 underlying26 R W X .i64 .i64 L C n T G E r (by rw[Y];omega) (by unfold maxLen;omega) (Nat.le_refl _) ?_;intro w' V O;have h:=SK.made V;exact t w' h ((Below.refl _ _).grown O (Nat.le_refl _) (by simp)) h.lt
end
section
open Go.RowKit
open Lp (RL upd eu)
set_option maxRecDepth 100000 in
set_option maxHeartbeats 6400000 in
theorem pX(va:Value)(n U:Nat)(f:Nat -> Rat)(w:World)(Y:fD w va n f)(hn:n <= 1000000000)(hl:∀j,j<n -> RL U (f j))(ad:U <= 1000000)(ht:Tab w):
  Calls prog 92 #[va] w fun e w'=>∃g,e= .returned (.slice (some ⟨g,0,none⟩) n n) /\ w.heap.size <= g /\ SK w' g n (fun j=>eB (f j)) /\ Below w.heap.size w w':=by
 obtain⟨A,c,rfl,ak,al⟩:=Y.shape;have HA:=lH Y;have HL:=lH hl;have HT:=lH ht;clear Y hl ht;go_enter func92,ntmps92
 go_wp2_with (at_make;refine yI _ rfl (.tmp 7) (.tmp 7) rfl _ _ n rfl rfl rfl rfl oM ?_)
 intro w1 C t ae;have a0:=lH C;have a1:=lH t;clear C t ae;go_wp2_with fail
 go_loopw [11] (fun iv wr=>∃k:Nat,k <= n /\ iv= .int .i64 k /\ SK wr w.heap.size n (fun j=>if j<k then eB (f j) else⟨#[]⟩) /\ Below w.heap.size w wr)
  (fun iv _=>n-(intOf iv).toNat)
 case atStart=>exact⟨0,Nat.zero_le _,rfl,a0.o.congr (fun j _=>by rw[if_neg oM]),a1.o⟩
 case round=>
  clear a0 a1;obtain⟨k,hk,rfl,a3,a4⟩:=hrel;have h:=lH a3;have r:=lH a4;clear a3 a4;by_cases ao:((k:Nat):Int)<(n:Nat)
  ·have M:k<n:=oM
   obtain⟨gA,rfl,C⟩:=HA.o.at_ oM;have a5:=C.below r.o;have am:=C.lt;obtain⟨sx,R,lx,W,tx,T,mx,X,a2,a6⟩:=(a5).fK M;have V:=lH a2;have E:=lH a6;clear a2 a6;clear C a5;obtain⟨af,ag,ah,ai⟩:=V.o;have aj:=V.o.lt;clear V;have G:=hN wr [.bool sx, .slice R lx W, .bool tx, .slice T mx X] 40;have t:=eD wr (.cells #[.bool sx, .slice R lx W, .bool tx, .slice T mx X] 40);obtain⟨w1,O⟩:=eX (wr.alloc (.cells #[.bool sx, .slice R lx W, .bool tx, .slice T mx X] 40));rw[<- O] at G t;have an:=h.o.lt;replace E:=lH (E.o.below t);replace h:=lH (h.o.below t);replace r:=bT r t;clear t;obtain⟨a7,a8,a9,aa⟩:=aT4 G.o;have ab:=G.o.lt;rw[O] at a7 a8 a9 aa ab;go_wp2_with fail
   rw[<- O];clear O a7 a8 a9 aa ab af ag ah ai aj;refine(jE _ (f k) U _ E.o (HL.o k M) ad (HT.o.below r.o)).mono ?_;rintro e w2 ⟨rfl,Z⟩;replace h:=lH (h.o.below Z);replace r:=bT r Z;clear Z G E;have kg:=h.o.at_ M;have fg:=h.o.free k;have kl:=h.o.lt;have hg:World.grownBy w2 (w2.setCell ⟨w.heap.size,k,none⟩ (.string (eB (f k)))) (some w.heap.size):=grownBy_set _ _ _ _;have BN:=h.o.set (x:=eB (f k)) M;have ac:=r.o.grown hg r.o.size (by first | (simp;done) | (simp;omega));go_wp2_with fail
   clear kg fg kl;go_roundw
   case rel=>
    refine⟨k+1,by omega,by simp,BN.congr (fun j hj=> ?_),ac⟩;by_cases e:j=k
    ·subst e;rw[Lp.upd_same,if_pos oM]
    ·rw[Lp.eQ _ _ e];by_cases e2:j<k
     ·rw[if_pos e2,if_pos oM]
     ·rw[if_neg e2,if_neg oM]
   case measure=>exact mZ
  ·obtain rfl:n=k:=oM
   go_wp2_with fail
   go_returns;exact⟨_,rfl,Nat.le_refl _,h.o.congr (fun j hj=>if_pos hj),r.o⟩
end
section
open Go.RowKit
open Lp (RL upd eu)
theorem yJ{a:Int}:sgI a<0↔a<0:=by unfold sgI;split <;> (try split) <;> omega
theorem yK{a:Int}:0<sgI a↔0<a:=by unfold sgI;split <;> (try split) <;> omega
theorem yL{q:Rat}:q.num<0↔q<0:=by
 rw[<- Rat.not_le, <- Rat.num_nonneg];omega
theorem uu{q:Rat}:0<q.num↔0<q:=by
 have h1:= @Rat.num_nonneg q;have r:= @Rat.num_eq_zero q;constructor
 ·intro h;exact Rat.lt_of_le_of_ne (h1.1 oM) (fun e=>by have:=r.2 e.symm;omega)
 ·intro h;have t:=h1.2 (Rat.le_of_lt h);have C:q.num≠0:=fun e=>by have:=r.1 e;rw[this] at h;exact absurd h Rat.lt_irrefl
  omega
theorem uw{q:Rat}(h:q<0):sgI q.num<0:=yJ.2 (yL.2 h)
theorem uy{q:Rat}(h:0 <= q):0 <= sgI q.num:=by
 have h1:=Rat.num_nonneg.2 h;exact Int.not_lt.1 (fun e=>by have:=yJ.1 e;omega)
theorem FO{q:Rat}(h:0<q):0<sgI q.num:=yK.2 (uu.2 h)
theorem FP{q:Rat}(h:q <= 0):sgI q.num <= 0:=by
 have r:¬0<q:=Rat.not_lt.2 h;exact Int.not_lt.1 (fun e=>r (uu.1 (yK.1 e)))
def iY(n b:Nat)(o:Nat -> Nat)(f:Nat -> Rat)(out:Int):Prop:=
 (out= -1 /\ ∀c,c<b -> n <= o c -> 0 <= f c) \/ ∃x:Nat,out=(x:Nat) /\ x<b /\ n <= o x /\ f x<0 /\ ∀c,c<b -> n <= o c -> o c<o x -> 0 <= f c
theorem qY{n k:Nat}{o:Nat -> Nat}{f:Nat -> Rat}{out:Int}(h:iY n k o f out)(C:n <= o k -> 0 <= f k):iY n (k+1) o f out:=by
 rcases h with ⟨h1,t⟩ | ⟨x,h1,t,E,G,M⟩
 ·exact .inl ⟨h1,fun c O r=>by by_cases e:c=k;subst e;exact C r;exact t c oM r⟩
 ·exact .inr ⟨x,h1,by omega,E,G,fun c O r R=>by by_cases e:c=k;subst e;exact C r;exact M c oM r R⟩
theorem yM{n k x:Nat}{o:Nat -> Nat}{f:Nat -> Rat}(h:iY n k o f (x:Nat))(M:¬o k<o x):iY n (k+1) o f (x:Nat):=by
 rcases h with ⟨h1,t⟩ | ⟨y,h1,t,C,E,G⟩
 ·omega
 ·obtain rfl:x=y:=oM
  exact .inr ⟨x,rfl,by omega,C,E,fun c R O r=>by by_cases e:c=k;subst e;exact absurd r M;exact G c oM O r⟩
theorem yN{n k:Nat}{o:Nat -> Nat}{f:Nat -> Rat}(h:iY n k o f (-1))(C:n <= o k)(t:f k<0):iY n (k+1) o f (k:Nat):=by
 rcases h with ⟨h1,r⟩ | ⟨x,h1,r,G,M,O⟩
 ·exact .inr ⟨k,rfl,by omega,C,t,fun c R E T=>by by_cases e:c=k;subst e;omega;exact r c oM E⟩
 ·omega
theorem yO{n k x:Nat}{o:Nat -> Nat}{f:Nat -> Rat}(h:iY n k o f (x:Nat))(E:n <= o k)(C:f k<0)(T:o k<o x):iY n (k+1) o f (k:Nat):=by
 rcases h with ⟨h1,r⟩ | ⟨y,h1,r,M,O,t⟩
 ·omega
 ·obtain rfl:x=y:=oM
  exact .inr ⟨k,rfl,by omega,E,C,fun c R G U=>by by_cases e:c=k;subst e;omega;exact t c oM G oM⟩
set_option maxRecDepth 100000 in
set_option maxHeartbeats 6400000 in
theorem FQ(L:Lay)(m n i:Nat)(D:eu)(w:World)(hT:eZ w L m n D)(hi:i<m)(hm:m <= 4611686018427387904)(hn:n <= 4611686018427387904):
  Calls prog 179 #[.pointer (some ⟨L.gt,0,none⟩), .int .i64 i] w fun e w'=>∃out:Int,e= .returned (.int .i64 out) /\ iY n n D.off (D.cell i) out /\ Below w.heap.size w w':=by
 have a5:0<m:=oM
 have ah:=lH hT;obtain⟨sv,Av,lv,cv,tv,Bv,mv,dv,a3,ac⟩:=hT.st;unfold Lay.cells at a3;rw[(hT.ab a5).1,(hT.ab a5).2.1,(hT.ab a5).2.2] at a3;have h:=lH a3;clear a3 ac;have k2:=aI 2 h;have kl:=h.o.lt;clear hT;have ad:Hid (iY n 0 D.off (D.cell i) (-1)):=lH (.inl ⟨rfl,fun c hc=>absurd hc oM⟩);have am:((i:Nat):Int)<(m:Nat):=oM
 go_enter func179,ntmps179;go_wp2_with fail
 clear k2 kl h
 go_loopw [5,13] (fun ov iv wr=>∃ (k:Nat) (out:Int),k <= n /\ iv= .int .i64 k /\ ov= .int .i64 out /\ Hid (iY n k D.off (D.cell i) out) /\ Below w.heap.size w wr)
  (fun _ iv _=>n-(intOf iv).toNat)
 case atStart=>exact⟨0, -1,Nat.zero_le _,rfl,rfl,ad,Below.refl _ _⟩
 case round=>
  clear ad;obtain⟨k,out,hk,rfl,rfl,HS,aa⟩:=hrel;have HB:=lH aa;have HT:=lH (ah.o.below aa);clear aa;by_cases an:((k:Nat):Int)<(n:Nat)
  ·have af:k<n:=oM
   have a6:0<n:=oM
   rw[(HT.o.ao a6).1];obtain⟨sv,Av,lv,cv,tv,Bv,mv,dv,a3,ac⟩:=HT.o.st;unfold Lay.cells at a3;rw[(HT.o.ab a5).1,(HT.o.ab a5).2.1,(HT.o.ab a5).2.2] at a3;rw[(HT.o.ao a6).1,(HT.o.ao a6).2] at a3;have h:=lH a3;clear a3 ac;have t:=lH ((HT.o.off a6).at_ af);have C:=lH ((HT.o.out a5).at_ a6 hi);obtain⟨sx,Ax,lx,cx,tx,Bx,mx,dx,ae,ag⟩:=((HT.o.rows a6 i hi)).fK af;have E:=lH ae;have Vx:=lH ag;clear ae ag;by_cases hf:¬n <= D.off k
   ·have ai:decide (n <= D.off k)=false:=by simp;omega
    have HF:=lH hf;clear hf;have R:=aI 0 h;have U:=aI 1 h;have W:=aI 2 h;have Y:=aI 4 h;have a2:=h.o.lt;have G:=t.o;have Z:=eF t.o;have M:=C.o;have a0:=eF C.o;obtain⟨O,T,V,X⟩:=E.o;have a1:=E.o.lt;go_wp2_with fail
    clear R U W Y a2 G Z M a0 O T V X a1;go_roundw
    case rel=>exact⟨k+1,out,by omega,by simp,rfl,lH (qY HS.o (fun e=>absurd e HF.o)),HB.o⟩
    case measure=>exact mZ
   ·have ai:decide (n <= D.off k)=true:=by simp;omega
    have HF:Hid (n <= D.off k):=lH oM;clear hf;by_cases hc:0 <= D.cell i k
    ·have a4:decide (sgI (D.cell i k).num<0)=false:=by have:=hc;simp;exact uy hc
     have HC:=lH hc;have a9:=lH a4;clear hc a4;have R:=aI 0 h;have U:=aI 1 h;have W:=aI 2 h;have Y:=aI 4 h;have a2:=h.o.lt;have G:=t.o;have Z:=eF t.o;have M:=C.o;have a0:=eF C.o;obtain⟨O,T,V,X⟩:=E.o;have a1:=E.o.lt;go_wp2_with fail
     clear R U W Y a2 G Z M a0 O T V X a1;refine(fQ _ (D.cell i k) _ Vx.o).mono ?_;rintro e w1 ⟨rfl,r⟩;replace h:=rW h r;replace E:=lH (E.o.below r);replace t:=lH (cell_below r t.o);replace C:=lH (cell_below r C.o);replace HB:=bT HB r;clear r;have a4:=a9.o;have R:=aI 0 h;have U:=aI 1 h;have W:=aI 2 h;have Y:=aI 4 h;have a2:=h.o.lt;have G:=t.o;have Z:=eF t.o;have M:=C.o;have a0:=eF C.o;obtain⟨O,T,V,X⟩:=E.o;have a1:=E.o.lt;go_wp2_with fail
     clear R U W Y a2 G Z M a0 O T V X a1;go_roundw
     case rel=>exact⟨k+1,out,by omega,by simp,rfl,lH (qY HS.o (fun _=>HC.o)),HB.o⟩
     case measure=>exact mZ
    ·replace hc:D.cell i k<0:=Rat.not_le.1 hc;have a4:decide (sgI (D.cell i k).num<0)=true:=by simp;exact uw hc
     have HC:Hid (D.cell i k<0):=lH hc;have a9:=lH a4;clear hc a4;by_cases ho:out= -1
     ·obtain rfl:out= -1:=ho;have al:=HS;have R:=aI 0 h;have U:=aI 1 h;have W:=aI 2 h;have Y:=aI 4 h;have a2:=h.o.lt;have G:=t.o;have Z:=eF t.o;have M:=C.o;have a0:=eF C.o;obtain⟨O,T,V,X⟩:=E.o;have a1:=E.o.lt;go_wp2_with fail
      clear R U W Y a2 G Z M a0 O T V X a1;refine(fQ _ (D.cell i k) _ Vx.o).mono ?_;rintro e w1 ⟨rfl,r⟩;replace h:=rW h r;replace E:=lH (E.o.below r);replace t:=lH (cell_below r t.o);replace C:=lH (cell_below r C.o);replace HB:=bT HB r;clear r;have a4:=a9.o;have R:=aI 0 h;have U:=aI 1 h;have W:=aI 2 h;have Y:=aI 4 h;have a2:=h.o.lt;have G:=t.o;have Z:=eF t.o;have M:=C.o;have a0:=eF C.o;obtain⟨O,T,V,X⟩:=E.o;have a1:=E.o.lt;go_wp2_with fail
      clear R U W Y a2 G Z M a0 O T V X a1;go_roundw
      case rel=>exact⟨k+1,(k:Nat),by omega,by simp,rfl,lH (yN HS.o HF.o HC.o),HB.o⟩
      case measure=>exact mZ
     ·obtain⟨x,hx⟩:∃x:Nat,out=(x:Nat):=by rcases HS.o with ⟨h1,_⟩ | ⟨x,h1,_⟩;exact absurd h1 ho;exact⟨x,h1⟩
      subst hx;have ak:x<n:=by rcases HS.o with ⟨h1,_⟩ | ⟨y,h1,h2,_⟩;omega;omega
      have ap:decide (((x:Nat):Int)<0)=false:=by simp
      have aq:((x:Nat):Int)<(n:Nat):=oM
      clear ho;have C2:=lH ((HT.o.off a6).at_ ak);by_cases hl:D.off k<D.off x
      ·have aj:decide (D.off k<D.off x)=true:=by simpa using hl
       have HL:=lH hl;clear hl;have R:=aI 0 h;have U:=aI 1 h;have W:=aI 2 h;have Y:=aI 4 h;have a2:=h.o.lt;have G:=t.o;have Z:=eF t.o;have M:=C.o;have a0:=eF C.o;obtain⟨O,T,V,X⟩:=E.o;have a1:=E.o.lt;have a7:=C2.o;have a8:=eF C2.o;go_wp2_with fail
       clear R U W Y a2 G Z M a0 O T V X a1 a7 a8;refine(fQ _ (D.cell i k) _ Vx.o).mono ?_;rintro e w1 ⟨rfl,r⟩;replace h:=rW h r;replace E:=lH (E.o.below r);replace t:=lH (cell_below r t.o);replace C:=lH (cell_below r C.o);replace C2:=lH (cell_below r C2.o);replace HB:=bT HB r;clear r;have a4:=a9.o;have R:=aI 0 h;have U:=aI 1 h;have W:=aI 2 h;have Y:=aI 4 h;have a2:=h.o.lt;have G:=t.o;have Z:=eF t.o;have M:=C.o;have a0:=eF C.o;obtain⟨O,T,V,X⟩:=E.o;have a1:=E.o.lt;have a7:=C2.o;have a8:=eF C2.o;go_wp2_with fail
       clear R U W Y a2 G Z M a0 O T V X a1 a7 a8;go_roundw
       case rel=>exact⟨k+1,(k:Nat),by omega,by simp,rfl,lH (yO HS.o HF.o HC.o HL.o),HB.o⟩
       case measure=>exact mZ
      ·have aj:decide (D.off k<D.off x)=false:=by simpa using hl
       have HL:=lH hl;clear hl;have R:=aI 0 h;have U:=aI 1 h;have W:=aI 2 h;have Y:=aI 4 h;have a2:=h.o.lt;have G:=t.o;have Z:=eF t.o;have M:=C.o;have a0:=eF C.o;obtain⟨O,T,V,X⟩:=E.o;have a1:=E.o.lt;have a7:=C2.o;have a8:=eF C2.o;go_wp2_with fail
       clear R U W Y a2 G Z M a0 O T V X a1 a7 a8;refine(fQ _ (D.cell i k) _ Vx.o).mono ?_;rintro e w1 ⟨rfl,r⟩;replace h:=rW h r;replace E:=lH (E.o.below r);replace t:=lH (cell_below r t.o);replace C:=lH (cell_below r C.o);replace C2:=lH (cell_below r C2.o);replace HB:=bT HB r;clear r;have a4:=a9.o;have R:=aI 0 h;have U:=aI 1 h;have W:=aI 2 h;have Y:=aI 4 h;have a2:=h.o.lt;have G:=t.o;have Z:=eF t.o;have M:=C.o;have a0:=eF C.o;obtain⟨O,T,V,X⟩:=E.o;have a1:=E.o.lt;have a7:=C2.o;have a8:=eF C2.o;go_wp2_with fail
       clear R U W Y a2 G Z M a0 O T V X a1 a7 a8;go_roundw
       case rel=>exact⟨k+1,(x:Nat),by omega,by simp,rfl,lH (yM HS.o HL.o),HB.o⟩
       case measure=>exact mZ
  ·obtain rfl:n=k:=oM
   go_wp2_with fail
   go_returns;exact⟨out,rfl,HS.o,HB.o⟩
end
section
open Go.RowKit
open Lp (RL upd eu)
def jN(n b:Nat)(o:Nat -> Nat)(f:Nat -> Rat)(out:Int):Prop:=
 (out= -1 /\ ∀c,c<b -> n <= o c -> f c <= 0) \/ ∃x:Nat,out=(x:Nat) /\ x<b /\ n <= o x /\ 0<f x /\ ∀c,c<b -> n <= o c -> o c<o x -> f c <= 0
theorem yP{n k:Nat}{o:Nat -> Nat}{f:Nat -> Rat}{out:Int}(h:jN n k o f out)(C:n <= o k -> f k <= 0):jN n (k+1) o f out:=by
 rcases h with ⟨h1,t⟩ | ⟨x,h1,t,E,G,M⟩
 ·exact .inl ⟨h1,fun c O r=>by by_cases e:c=k;subst e;exact C r;exact t c oM r⟩
 ·exact .inr ⟨x,h1,by omega,E,G,fun c O r R=>by by_cases e:c=k;subst e;exact C r;exact M c oM r R⟩
theorem FR{n k x:Nat}{o:Nat -> Nat}{f:Nat -> Rat}(h:jN n k o f (x:Nat))(M:¬o k<o x):jN n (k+1) o f (x:Nat):=by
 rcases h with ⟨h1,t⟩ | ⟨y,h1,t,C,E,G⟩
 ·omega
 ·obtain rfl:x=y:=oM
  exact .inr ⟨x,rfl,by omega,C,E,fun c R O r=>by by_cases e:c=k;subst e;exact absurd r M;exact G c oM O r⟩
theorem FT{n k:Nat}{o:Nat -> Nat}{f:Nat -> Rat}(h:jN n k o f (-1))(C:n <= o k)(t:0<f k):jN n (k+1) o f (k:Nat):=by
 rcases h with ⟨h1,r⟩ | ⟨x,h1,r,G,M,O⟩
 ·exact .inr ⟨k,rfl,by omega,C,t,fun c R E T=>by by_cases e:c=k;subst e;omega;exact r c oM E⟩
 ·omega
theorem FU{n k x:Nat}{o:Nat -> Nat}{f:Nat -> Rat}(h:jN n k o f (x:Nat))(E:n <= o k)(C:0<f k)(T:o k<o x):jN n (k+1) o f (k:Nat):=by
 rcases h with ⟨h1,r⟩ | ⟨y,h1,r,M,O,t⟩
 ·omega
 ·obtain rfl:x=y:=oM
  exact .inr ⟨k,rfl,by omega,E,C,fun c R G U=>by by_cases e:c=k;subst e;omega;exact t c oM G oM⟩
set_option maxRecDepth 100000 in
set_option maxHeartbeats 6400000 in
theorem FV(L:Lay)(m n j:Nat)(D:eu)(w:World)(hT:eZ w L m n D)(hi:j<n)(hm:m <= 4611686018427387904)(hn:n <= 4611686018427387904):
  Calls prog 180 #[.pointer (some ⟨L.gt,0,none⟩), .int .i64 j] w fun e w'=>∃out:Int,e= .returned (.int .i64 out) /\ jN n m D.basic (fun r=>D.cell r j) out /\ Below w.heap.size w w':=by
 have a9:0<n:=oM
 have ai:=lH hT;obtain⟨sv,Av,lv,cv,tv,Bv,mv,dv,a4,ae⟩:=hT.st;unfold Lay.cells at a4;rw[(hT.ao a9).1,(hT.ao a9).2] at a4;have h:=lH a4;clear a4 ae;have k1:=aI 1 h;have kl:=h.o.lt;clear hT;have af:Hid (jN n 0 D.basic (fun r=>D.cell r j) (-1)):=lH (.inl ⟨rfl,fun c hc=>absurd hc oM⟩);have an:((j:Nat):Int)<(n:Nat):=oM
 go_enter func180,ntmps180;go_wp2_with fail
 clear k1 kl h
 go_loopw [5,13] (fun ov iv wr=>∃ (k:Nat) (out:Int),k <= m /\ iv= .int .i64 k /\ ov= .int .i64 out /\ Hid (jN n k D.basic (fun r=>D.cell r j) out) /\ Below w.heap.size w wr)
  (fun _ iv _=>m-(intOf iv).toNat)
 case atStart=>exact⟨0, -1,Nat.zero_le _,rfl,rfl,af,Below.refl _ _⟩
 case round=>
  clear af;obtain⟨k,out,hk,rfl,rfl,HS,ac⟩:=hrel;have HB:=lH ac;have HT:=lH (ai.o.below ac);clear ac;by_cases ap:((k:Nat):Int)<(m:Nat)
  ·have ad:k<m:=oM
   have a6:0<m:=oM
   rw[(HT.o.ab a6).1];obtain⟨sv,Av,lv,cv,tv,Bv,mv,dv,a4,ae⟩:=HT.o.st;unfold Lay.cells at a4;rw[(HT.o.ab a6).1,(HT.o.ab a6).2.1,(HT.o.ab a6).2.2] at a4;rw[(HT.o.ao a9).1,(HT.o.ao a9).2] at a4;have h:=lH a4;clear a4 ae;have C:=lH ((HT.o.bas a6).at_ ad);have E:=lH ((HT.o.out a6).at_ a9 ad);obtain⟨sx,Ax,lx,cx,tx,Bx,mx,dx,ag,ah⟩:=((HT.o.rows a9 k ad)).fK hi;have G:=lH ag;have Vx:=lH ah;clear ag ah;by_cases hf:¬n <= D.basic k
   ·have aj:decide (n <= D.basic k)=false:=by simp;omega
    have HF:=lH hf;clear hf;have T:=aI 0 h;have V:=aI 1 h;have X:=aI 2 h;have Z:=aI 4 h;have a3:=h.o.lt;have M:=C.o;have a0:=eF C.o;have O:=E.o;have a1:=eF E.o;obtain⟨R,U,W,Y⟩:=G.o;have a2:=G.o.lt;go_wp2_with fail
    clear T V X Z a3 M a0 O a1 R U W Y a2;go_roundw
    case rel=>exact⟨k+1,out,by omega,by simp,rfl,lH (yP HS.o (fun e=>absurd e HF.o)),HB.o⟩
    case measure=>exact mZ
   ·have aj:decide (n <= D.basic k)=true:=by simp;omega
    have HF:Hid (n <= D.basic k):=lH oM;clear hf;by_cases hc:D.cell k j <= 0
    ·have a5:decide (0<sgI (D.cell k j).num)=false:=by have:=hc;simp;exact FP hc
     have HC:=lH hc;have aa:=lH a5;clear hc a5;have T:=aI 0 h;have V:=aI 1 h;have X:=aI 2 h;have Z:=aI 4 h;have a3:=h.o.lt;have M:=C.o;have a0:=eF C.o;have O:=E.o;have a1:=eF E.o;obtain⟨R,U,W,Y⟩:=G.o;have a2:=G.o.lt;go_wp2_with fail
     clear T V X Z a3 M a0 O a1 R U W Y a2;refine(fQ _ (D.cell k j) _ Vx.o).mono ?_;rintro e w1 ⟨rfl,t⟩;replace h:=rW h t;replace G:=lH (G.o.below t);replace C:=lH (cell_below t C.o);replace E:=lH (cell_below t E.o);replace HB:=bT HB t;clear t;have a5:=aa.o;have T:=aI 0 h;have V:=aI 1 h;have X:=aI 2 h;have Z:=aI 4 h;have a3:=h.o.lt;have M:=C.o;have a0:=eF C.o;have O:=E.o;have a1:=eF E.o;obtain⟨R,U,W,Y⟩:=G.o;have a2:=G.o.lt;go_wp2_with fail
     clear T V X Z a3 M a0 O a1 R U W Y a2;go_roundw
     case rel=>exact⟨k+1,out,by omega,by simp,rfl,lH (yP HS.o (fun _=>HC.o)),HB.o⟩
     case measure=>exact mZ
    ·replace hc:0<D.cell k j:=Rat.not_le.1 hc;have a5:decide (0<sgI (D.cell k j).num)=true:=by simp;exact FO hc
     have HC:Hid (0<D.cell k j):=lH hc;have aa:=lH a5;clear hc a5;by_cases ho:out= -1
     ·obtain rfl:out= -1:=ho;have am:=HS;have T:=aI 0 h;have V:=aI 1 h;have X:=aI 2 h;have Z:=aI 4 h;have a3:=h.o.lt;have M:=C.o;have a0:=eF C.o;have O:=E.o;have a1:=eF E.o;obtain⟨R,U,W,Y⟩:=G.o;have a2:=G.o.lt;go_wp2_with fail
      clear T V X Z a3 M a0 O a1 R U W Y a2;refine(fQ _ (D.cell k j) _ Vx.o).mono ?_;rintro e w1 ⟨rfl,t⟩;replace h:=rW h t;replace G:=lH (G.o.below t);replace C:=lH (cell_below t C.o);replace E:=lH (cell_below t E.o);replace HB:=bT HB t;clear t;have a5:=aa.o;have T:=aI 0 h;have V:=aI 1 h;have X:=aI 2 h;have Z:=aI 4 h;have a3:=h.o.lt;have M:=C.o;have a0:=eF C.o;have O:=E.o;have a1:=eF E.o;obtain⟨R,U,W,Y⟩:=G.o;have a2:=G.o.lt;go_wp2_with fail
      clear T V X Z a3 M a0 O a1 R U W Y a2;go_roundw
      case rel=>exact⟨k+1,(k:Nat),by omega,by simp,rfl,lH (FT HS.o HF.o HC.o),HB.o⟩
      case measure=>exact mZ
     ·obtain⟨x,hx⟩:∃x:Nat,out=(x:Nat):=by rcases HS.o with ⟨h1,_⟩ | ⟨x,h1,_⟩;exact absurd h1 ho;exact⟨x,h1⟩
      subst hx;have al:x<m:=by rcases HS.o with ⟨h1,_⟩ | ⟨y,h1,h2,_⟩;omega;omega
      have aq:decide (((x:Nat):Int)<0)=false:=by simp
      have ar:((x:Nat):Int)<(m:Nat):=oM
      clear ho;have C2:=lH ((HT.o.bas a6).at_ al);by_cases hl:D.basic k<D.basic x
      ·have ak:decide (D.basic k<D.basic x)=true:=by simpa using hl
       have HL:=lH hl;clear hl;have T:=aI 0 h;have V:=aI 1 h;have X:=aI 2 h;have Z:=aI 4 h;have a3:=h.o.lt;have M:=C.o;have a0:=eF C.o;have O:=E.o;have a1:=eF E.o;obtain⟨R,U,W,Y⟩:=G.o;have a2:=G.o.lt;have a7:=C2.o;have a8:=eF C2.o;go_wp2_with fail
       clear T V X Z a3 M a0 O a1 R U W Y a2 a7 a8;refine(fQ _ (D.cell k j) _ Vx.o).mono ?_;rintro e w1 ⟨rfl,t⟩;replace h:=rW h t;replace G:=lH (G.o.below t);replace C:=lH (cell_below t C.o);replace E:=lH (cell_below t E.o);replace C2:=lH (cell_below t C2.o);replace HB:=bT HB t;clear t;have a5:=aa.o;have T:=aI 0 h;have V:=aI 1 h;have X:=aI 2 h;have Z:=aI 4 h;have a3:=h.o.lt;have M:=C.o;have a0:=eF C.o;have O:=E.o;have a1:=eF E.o;obtain⟨R,U,W,Y⟩:=G.o;have a2:=G.o.lt;have a7:=C2.o;have a8:=eF C2.o;go_wp2_with fail
       clear T V X Z a3 M a0 O a1 R U W Y a2 a7 a8;go_roundw
       case rel=>exact⟨k+1,(k:Nat),by omega,by simp,rfl,lH (FU HS.o HF.o HC.o HL.o),HB.o⟩
       case measure=>exact mZ
      ·have ak:decide (D.basic k<D.basic x)=false:=by simpa using hl
       have HL:=lH hl;clear hl;have T:=aI 0 h;have V:=aI 1 h;have X:=aI 2 h;have Z:=aI 4 h;have a3:=h.o.lt;have M:=C.o;have a0:=eF C.o;have O:=E.o;have a1:=eF E.o;obtain⟨R,U,W,Y⟩:=G.o;have a2:=G.o.lt;have a7:=C2.o;have a8:=eF C2.o;go_wp2_with fail
       clear T V X Z a3 M a0 O a1 R U W Y a2 a7 a8;refine(fQ _ (D.cell k j) _ Vx.o).mono ?_;rintro e w1 ⟨rfl,t⟩;replace h:=rW h t;replace G:=lH (G.o.below t);replace C:=lH (cell_below t C.o);replace E:=lH (cell_below t E.o);replace C2:=lH (cell_below t C2.o);replace HB:=bT HB t;clear t;have a5:=aa.o;have T:=aI 0 h;have V:=aI 1 h;have X:=aI 2 h;have Z:=aI 4 h;have a3:=h.o.lt;have M:=C.o;have a0:=eF C.o;have O:=E.o;have a1:=eF E.o;obtain⟨R,U,W,Y⟩:=G.o;have a2:=G.o.lt;have a7:=C2.o;have a8:=eF C2.o;go_wp2_with fail
       clear T V X Z a3 M a0 O a1 R U W Y a2 a7 a8;go_roundw
       case rel=>exact⟨k+1,(x:Nat),by omega,by simp,rfl,lH (FR HS.o HL.o),HB.o⟩
       case measure=>exact mZ
  ·obtain rfl:m=k:=oM
   go_wp2_with fail
   go_returns;exact⟨out,rfl,HS.o,HB.o⟩
end
end Go.Proofs.YtokagbahdkfagaaGreatDoor
