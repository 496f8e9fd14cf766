/- Parts of this proof: Reduce DelF. -/
import Derived.Test.YtdefghfjhgmpfaaGreatDoorMCO
import Derived.Test.YtdefghfjhgmpfaaGreatDoorMBV
import Derived.Test.YtdefghfjhgmpfaaGreatDoorMCJ
import Derived.Test.YtdefghfjhgmpfaaGreatDoorMAE
import Derived.Shelf.SlicesE.DeleteFunc
import Derived.Shelf.SlicesE.Equal
namespace Go.Proofs.YtdefghfjhgmpfaaGreatDoor
open Go.Proofs.Tryz
section
open Go.RowKit
open Lp (RL upd eu)
theorem Mj{m n:Nat}{kk:Int}{A A':Nat -> Nat -> Rat}{b b' c c' x y d:Nat -> Rat}{q:Rat}(r:∀i,i<m -> ∀j,j<n -> A i j=A' i j)(t:∀i,i<m -> b i=b' i)(C:∀j,j<n -> c j=c' j)(h:kI m n kk A b c q x y d):kI m n kk A' b' c' q x y d:=
 ⟨fun e=>IL r t C (fun _ _=>rfl) (fun _ _=>rfl) rfl (h.1 e),fun e=>IM r t (fun _ _=>rfl) (h.2.1 e),fun e=>IP r t C (fun _ _=>rfl) (fun _ _=>rfl) (h.2.2 e)⟩
theorem Mq{r n:Nat}{A A':Nat -> Nat -> Rat}{b b' a t:Nat -> Rat}{β:Rat}{z C:Bool}(M:∀i,i<r -> ∀j,j<n -> A i j=A' i j)(R:∀i,i<r -> b i=b' i)(O:∀j,j<n -> a j=t j)(h:Ll r n A b a β z)(G:Ll r n A' b' t β C):z=C:=by
 obtain⟨kk,q,x,y,d,T,V,rfl⟩:=h;obtain⟨kk',q',x',y',d',U,W,rfl⟩:=G;obtain⟨E,F⟩:=KM T U (Mj M R O V) W;subst E;by_cases h1:kk=1
 ·rw[F h1]
 ·have e:∀u:Rat,(kk=2 \/ kk=1 /\ u <= β)↔kk=2:=fun u=>⟨fun h=>h.elim id (fun h=>absurd h.1 h1), .inl⟩
  simp only[e]
def Mg(n:Nat)(A:Nat -> Nat -> Rat)(bq:Nat -> Rat)(i:Nat)(l:List Nat):Prop:=Ll l.length n (pick l A) (pick l bq) (A i) (bq i) true
theorem Mk{n:Nat}{A:Nat -> Nat -> Rat}{r:Nat -> Rat}{i:Nat}{l:List Nat}{z:Bool}(h:Ll l.length n (pick l A) (pick l r) (A i) (r i) z):Mg n A r i l↔z=true:=
 ⟨fun t=>Mq (fun _ _ _ _=>rfl) (fun _ _=>rfl) (fun _ _=>rfl) h t,fun e=>by subst e;exact h⟩
open Classical in
noncomputable def Me(n:Nat)(A:Nat -> Nat -> Rat)(bq:Nat -> Rat):Nat -> List Nat -> List Nat
 | 0,l=>l
 | i+1,l=>Me n A bq i (if Mg n A bq i (wo l i) then wo l i else l)
theorem Ml{n:Nat}{A:Nat -> Nat -> Rat}{r:Nat -> Rat}{i:Nat}{l:List Nat}(h:Mg n A r i (wo l i)):Me n A r (i+1) l=Me n A r i (wo l i):=by
 rw[Me,if_pos h]
theorem Mm{n:Nat}{A:Nat -> Nat -> Rat}{r:Nat -> Rat}{i:Nat}{l:List Nat}(h:¬Mg n A r i (wo l i)):Me n A r (i+1) l=Me n A r i l:=by
 rw[Me,if_neg h]
def Mr(w':World)(v:Int)(m:Nat)(k:Nat -> Nat)(t:Nat -> Nat -> ByteArray)(b:Nat -> ByteArray)(e:Ending):Prop:=
 ∃ (A:Option Addr) (nl c:Nat) (y:Int),e= .returned (.tuple #[.slice A nl c, .int .i64 y]) /\
  ((jF v m k t b≠0 /\ A=none /\ nl=0 /\ c=0 /\ y=(jF v m k t b:Nat)) \/
  (jF v m k t b=0 /\ y=0 /\ ∃A' bq c',jk v.toNat m (fun _=>⟨#[48]⟩) t b A' bq c' /\ Li w' (.slice A nl c) (Me v.toNat A' bq m (List.range m))))
set_option maxRecDepth 100000 in
set_option maxHeartbeats 12800000 in
theorem Mo(v:Int)(AR:Option Addr)(m cR:Nat)(k:Nat -> Nat)(t:Nat -> Nat -> ByteArray)(b:Nat -> ByteArray)(G:Nat)(w:World)(Y:fZ w (.slice AR m cR) m k t b)(T:RowsFit m k t b)
  (ac:0<G) (ad:G <= 65536) (hK:jF v m k t b=0 -> ∀r,r <= m -> Lp.wide r v.toNat G+1 <= 1000000) (af:∀i,i<m -> ∀j,j<k i -> (t i j).size <= G) (ae:∀i,i<m -> (b i).size <= G) (hg:iG w):
  Calls prog 50 #[.int .i64 v, .slice AR m cR] w fun e w'=>Mr w' v m k t b e /\ Below w.heap.size w w':=by
 have HR:=lH Y;have HF:=lH T;have HL:=lH (And.intro af ae);have V:=lH (And.intro ac (And.intro ad hK));have aj:=lH hg;clear Y T af ae ac ad hK hg;go_enter func50,ntmps50;go_wp2_with fail
 refine(Jl v AR m cR k t b _ HR.o HF.o aj.o).mono ?_;rintro e U ⟨Y,E⟩;have M:=lH E;clear E
 rcases JV Y with ⟨h0,rfl⟩ | ⟨h0,a7,ar,AC,AS,AD,cC,cS,cD,A,R,c,rfl,hc,hA,hD,hP,_⟩
 ·obtain⟨cc,a5⟩:=eX (jF v m k t b);rw[<- a5] at h0 ⊢;have ap:((cc:Nat):Int)≠0:=oM
  have ay:(((cc:Nat):Int) !=0)=true:=by simpa using ap
  have az:(cc !=0)=true:=by simpa using h0
  have ai:=lH h0;have a8:=lH a5;clear h0 a5;have C:=lH (M.o.trans ((eD U (.cells #[.slice none 0 0, .slice none 0 0, .slice none 0 0] 98)).mono M.o.size));go_wp2_with fail
  go_returns;exact⟨⟨_,_,_,_,rfl, .inl ⟨by rw[<- a8.o];exact ai.o,rfl,rfl,rfl,by rw[<- a8.o]⟩⟩,C.o⟩
 ·have ak:=lH (V.o.2.2 h0);have al:=lH h0;have am:=lH a7;have ab:=lH hP;have HA:=lH hA;have HD:=lH hD;have O:=lH (mo a7);clear h0 a7 hP hc hA hD ar;have aa:=lH (pO am.o ab.o (fun j _=>by show 1 <= G;exact V.o.1) HL.o.1 HL.o.2);obtain⟨w2,Z⟩:=eX (U.alloc (.cells #[.slice AC v.toNat cC, .slice AS m cS, .slice AD m cD] 98));obtain⟨gQ,a6⟩:=eX (U.heap.size);have X:Below U.heap.size U w2:=by rw[Z];exact eD _ _
  have QB:Hid (Row w2 gQ 98 [.slice AC v.toNat cC, .slice AS m cS, .slice AD m cD]):=lH (by rw[Z,a6];exact eP _ _);replace HA:=lH (HA.o.below X);replace HD:=lH (HD.o.below X);replace M:=bT M X;clear X;go_wp2_with fail
  rw[<- Z, <- a6];clear Z a6;refine(LM m _ (by have:=O.o.2.1;omega)).mono ?_;rintro e w3 ⟨vl,rfl,hi,E⟩;have F:=lH hi;have C:=lH E;clear hi E;obtain⟨Al,cl,rfl,_,_⟩:=F.o.shape
  skip
  have aA:((m:Nat):Int) <= 256:=by have:=O.o.2.1;omega
  go_wp2_with fail
  go_loopw [8,9] (fun lv iv wr=>∃ (q:Nat) (l:List Nat) (B:Option Addr) (d:Nat),q <= m /\ lv= .slice B l.length d /\ iv= .int .i64 ((q:Int)-1) /\ Hid (Li wr (.slice B l.length d) l) /\ Hid (∀x,x ∈ l -> x<m) /\ Hid (l.length <= m) /\ Hid (Me v.toNat A R q l=Me v.toNat A R m (List.range m)) /\ Hid (Below w2.heap.size w2 wr)) (fun _ iv _=>(intOf iv+1).toNat)
  case atStart=>exact⟨m,List.range m,Al,cl,Nat.le_refl _,by first | rfl | (rw[List.length_range]),by first | rfl | go_num,F,lH (fun x hx=>List.mem_range.1 hx),lH (by rw[List.length_range];exact Nat.le_refl _),lH rfl,C⟩
  case round=>
   clear F C;obtain⟨q,l,B,d,hq,rfl,rfl,F,HX,a0,a2,C⟩:=hrel;by_cases aq:(0:Int) <= (q:Int)-1
   ·obtain⟨p,rfl⟩:∃p,q=p+1:=⟨q-1,by omega⟩
    have ag:(((p+1:Nat):Int)-1)=(p:Int):=oM
    rw[ag] at aq ⊢;have a1:Hid (p<m):=lH oM;clear ag;go_wp2_with fail
    refine(LU _ l p _ F.o (by have:=a0.o;have:=O.o.2.1;omega)).mono ?_;rintro e w4 ⟨vo,rfl,ho,E⟩;obtain⟨Bo,ao,rfl,_,_⟩:=ho.shape;have W:=lH ho;replace F:=lH (F.o.below E);replace C:=lH (C.o.trans (E.mono C.o.size));clear ho E;have a3:Hid ((wo l p).length <= m):=lH (by have:=Lu l p;have:=a0.o;omega);have a4:=lH (QB.o.below C.o QB.o.lt);obtain⟨au,av,aw⟩:=aT3 a4.o;have ax:=a4.o.lt;go_wp2_with fail
    clear au av aw ax;clear a4;refine(LW AC AS AD v.toNat v.toNat m cC cS cD A R p _ (wo l p) G _ (HA.o.below C.o) (HD.o.below C.o) W.o a1.o (fun y hy=>HX.o y (LG hy).1) (by have:=O.o.1;omega) (by have:=O.o.2.1;omega) (by have:=a3.o;have:=O.o.2.1;omega) aa.o.2.1 aa.o.2.2 V.o.1 V.o.2.1 (ak.o _ a3.o)).mono ?_;rintro e w5 ⟨z,rfl,T,E⟩;replace F:=lH (F.o.below E);replace W:=lH (W.o.below E);replace C:=lH (C.o.trans (E.mono C.o.size));have a9:=lH (Mk T);clear E T;cases z
    ·go_wp2_with fail
     go_roundw
     case rel=>exact⟨p,l,B,d,by have:=a1.o;omega,rfl,by first | rfl | go_num,F,HX,a0,lH (by rw[<- Mm (fun h=>by have:=a9.o.1 h;cases this)];exact a2.o),C⟩
     case measure=>exact mZ
    ·go_wp2_with fail
     go_roundw
     case rel=>exact⟨p,wo l p,Bo,ao,by have:=a1.o;omega,rfl,by first | rfl | go_num,W,lH (fun y hy=>HX.o y (LG hy).1),a3,lH (by rw[<- Ml (a9.o.2 (by first | rfl | trivial))];exact a2.o),C⟩
     case measure=>exact mZ
   ·have ah:q=0:=oM
    have an:Hid (l=Me v.toNat A R m (List.range m)):=lH (by rw[<- a2.o,ah];rfl);clear ah;go_wp2_with fail
    go_returns;exact⟨⟨_,_,_,_,rfl, .inr ⟨al.o,rfl,A,R,c,ab.o,by rw[<- an.o];exact F.o⟩⟩,M.o.trans (C.o.mono M.o.size)⟩
end
section
open Go.RowKit
open Lp (RL upd eu)
open Go.Lib Go.Sort
def Ms:Go.Shelf.Ren:=⟨fun | 6=>88 | 10=>51 | n=>n,fun | 22=>76 | 23=>3 | 25=>80 | n=>n,fun | n=>n⟩
set_option maxRecDepth 100000 in
theorem Mt:Go.Proofs.SlLaysH.n10 prog Ms:=by
 constructor <;> first | kernel_rfl | (intro w;kernel_rfl) | exact⟨Tryz.f88.name,by decide,func88.trans (congrArg some kR)⟩ | exact⟨Tryz.f51.name,by decide,func51.trans (congrArg some kR)⟩ | decide
def encI(x:Nat):Value:= .int .i64 (x:Nat)
set_option maxRecDepth 100000 in
theorem Mv(k p h:Nat)(w:World)(t: w.cell? ⟨h,0,none⟩=some (.int .i64 (p:Nat))):
  Calls prog 52 #[.int .i64 (k:Nat), .pointer (some ⟨h,0,none⟩)] w fun e w'=>e= .returned (.bool (k==p)) /\ w'=w:=by
 have C:=eG t
 have r:(((k:Nat):Int)== ((p:Nat):Int))=(k==p):=by
  by_cases e:k=p
  ·subst e;simp
  ·have h1:((k:Nat):Int)≠((p:Nat):Int):=oM
   rw[beq_eq_false_iff_ne.2 h1,beq_eq_false_iff_ne.2 e]
 go_enter func52,ntmps52;go_wp2_with fail
 go_returns;exact⟨by first | rfl | (rw[r]) | simp,rfl⟩
theorem Mw(g c r p:Nat)(l:List Nat)(w:World)(h:IB w g l.length (fun j=>l.getD j 0))(hc:l.length <= c)(hl:l.length <= 1000000000)(F: w.cell? ⟨r,0,none⟩=some (.int .i64 (p:Nat)))(a1:r≠g):
  Calls prog 51 #[.slice (some ⟨g,0,none⟩) l.length c, .func (.func 52) #[] #[.pointer (some ⟨r,0,none⟩)]] w fun e w'=>e= .returned (.slice (some ⟨g,0,none⟩) (wo l p).length c) /\ IB w' g (wo l p).length (fun j=>(wo l p).getD j 0) /\ w.grownBy w' (some g):=by
 have R:=eG F;have M:l.toArray.size=l.length:=by simp
 have O:∀ (W:World) (x:Nat),W.cell? ⟨r,0,none⟩=some (.int .i64 (p:Nat)) -> FnGives prog 52 #[.pointer (some ⟨r,0,none⟩)] #[encI x] (.bool (x==p)) W:=fun W x Y=>by
  refine(Mv x p r W Y).mono ?_;rintro e w' ⟨rfl,rfl⟩;exact⟨rfl,0,rfl⟩
 have X:Sort.Holds encI w g 0 l.toArray:=fun j t=>by
  have G:j<l.length:=by simpa using t
  refine⟨?_,by rw[Nat.zero_add];exact h.free j⟩;rw[Nat.zero_add,h.at_ G,List.getD_eq_getElem?_getD,List.getElem?_eq_getElem G];simp[encI,getElem!_pos,G]
 have hp:PredAt prog 52 #[.pointer (some ⟨r,0,none⟩)] encI (fun x=>x==p) w:=fun W x Z=>O W x (((fw Z).1 r 0 R).trans F)
 have a3:PredOver prog 52 #[.pointer (some ⟨r,0,none⟩)] encI (fun x=>x==p) g 0 l.toArray.size w:=fun n os U x hs=>O _ x (by
  unfold sortWorld;rw[cell?_grow _ _ _ (by rw[size_putRow];exact R),cell?_putRow_other encI _ g 0 U ⟨r,0,none⟩ (Or.inl a1)]
  exact F)
 have T:=AnyE.slices_DeleteFunc Mt encI (fun _=>rfl) (fun x=>x==p) 52 #[.pointer (some ⟨r,0,none⟩)] (fun _ _=>by kernel_rfl) 0 (fun _=>by kernel_rfl) g 0 c l.toArray w hp a3 X (by rw[M];omega) (by rw[M];exact hc);rw[M] at T;refine T.mono ?_;rintro e w' ⟨rfl,q,rfl⟩;have C:(l.toArray.toList.filter fun x=> !(x==p))=wo l p:=rfl;refine⟨by rw[C],?_,?_⟩
 ·obtain⟨cs,hr,a7,a0⟩:=h;have a8:=Lu l p;obtain⟨D,E⟩:∃D:Array Nat,D=((l.toArray.toList.filter fun x=> !(x==p))++List.replicate (l.length-(l.toArray.toList.filter fun x=> !(x==p)).length) 0).toArray:=⟨_,rfl⟩
  rw[<- E];have a5:(wo l p).length <= D.size:=by rw[E,C];simp
  have V:∀j,j<(wo l p).length -> D[j]! =(wo l p).getD j 0:=fun j t=>by
   rw[getElem!_pos D j oM,List.getD_eq_getElem?_getD,List.getElem?_eq_getElem t];simp only[E,C,List.getElem_toArray];rw[List.getElem_append_left t];rfl
  refine⟨(putCells encI 0 D cs.toArray).toList,?_,by simp[putCells];omega,fun j t=> ?_⟩
  ·have a4:w.heap[g]? =some (.cells cs.toArray 3 (0,0)):=hr;show(putRow encI (Sort.ahead w q) g 0 D).heap[g]? =_;unfold putRow mapBlock;rw[Array.getElem?_modify,if_pos rfl];rw[show(Sort.ahead w q).heap[g]? =some (.cells cs.toArray 3 (0,0)) from a4];rfl
  ·have a6:j<cs.length:=oM
   rw[Array.getElem?_toList];simp only[putCells,Array.getElem?_mapIdx,List.getElem?_toArray,a0 j oM,Option.map_some];rw[if_pos ⟨by omega,by omega⟩,Nat.sub_zero,V j t];rfl
 ·refine⟨rfl,rfl,rfl,by simp,fun k hk a2=> ?_⟩;show(putRow encI (Sort.ahead w q) g 0 _).heap[k]? =_;unfold putRow mapBlock;rw[Array.getElem?_modify,if_neg (fun e=>a2 (by rw[e]))];rfl
set_option maxRecDepth 100000 in
theorem Mx(v u:Value)(l:List Nat)(w:World)(M:Li w v l)(G:Li w u l)(hl:l.length <= 1000000000):
  Calls prog 53 #[v,u] w fun e w'=>e= .returned (.bool true) /\ Below w.heap.size w w':=by
 obtain⟨A,c,rfl,_,_⟩:=M.shape;obtain⟨B,d,rfl,_,_⟩:=G.shape;have HV:=lH M;have HU:=lH G;clear M G;go_enter func53,ntmps53;go_wp2_with fail
 go_loopw [13] (fun O wr=>∃q:Nat,q <= l.length /\ O= .int .i64 q /\ Hid (Below w.heap.size w wr)) (fun O _=>l.length-(intOf O).toNat)
 case atStart=>exact⟨0,Nat.zero_le _,rfl,lH (Below.refl _ _)⟩
 case round=>
  obtain⟨q,hq,rfl,t⟩:=hrel;by_cases a4:((q:Nat):Int)<((l.length:Nat):Int)
  ·have Y:q<l.length:=oM
   obtain⟨g1,rfl,h1⟩:=HV.o.at_ oM;obtain⟨g2,rfl,X⟩:=HU.o.at_ oM;have C:=(h1.below t.o).at_ Y;have E:=(X.below t.o).at_ Y;have l1:=eG C;have l2:=eG E;clear h1 X;obtain⟨y,Z⟩:=eX (l.getD q 0);rw[<- Z] at C E;clear Z;have R:=lH C;have T:=lH E;have a3:((q:Nat):Int) <= 1000000000:=oM
   clear C E l1 l2
   go_upto_region 6 with (fail)
   go_wp2_with fail
   have U:=rG wr;have a0:=eG R.o;have V:=R.o;have a1:=eG T.o;have W:=T.o;have F:=lH (kC V (kN W));clear a0 V a1 W;refine rL F.o (fun i=>false) ?_;have r:=F.o _ U.o;refine tKs 0 16 r ?_;refine tKs 1 17 r ?_;refine tKs 2 18 r ?_;refine tKs 3 19 r ?_;refine tKs 4 20 r ?_;refine tKs 5 21 r ?_;refine tKs 6 22 r ?_;refine tKs 7 23 r ?_;refine jf (i:=8) (v:= .bool false) (some 24) rfl (by rfl) kR kR kR kR (fun _ _ _ h=>h) (Or.inl ⟨by rfl,?_⟩) r ?_
   ·(intro w' a2;clear a2;go_simp;first | done | simp)
   simp only[Act.put,List.setIfInBounds_toArray,List.set_cons_zero,List.set_cons_succ];refine dN ?_ _;clear r F U;go_wp2_with fail
   go_roundw
   case rel=>exact⟨q+1,by omega,by go_num,lH t.o.drew⟩
   case measure=>exact mZ
  ·go_wp2_with fail
   go_returns;exact⟨rfl,t.o⟩
end
end Go.Proofs.YtdefghfjhgmpfaaGreatDoor
