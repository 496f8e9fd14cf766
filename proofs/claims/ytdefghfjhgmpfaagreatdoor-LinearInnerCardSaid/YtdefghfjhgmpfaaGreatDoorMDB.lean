/- Parts of this proof: Inner. -/
import Derived.Test.YtdefghfjhgmpfaaGreatDoorMAE
import Derived.Test.YtdefghfjhgmpfaaGreatDoorMBB
import Derived.Test.YtdefghfjhgmpfaaGreatDoorMBG
import Derived.Test.YtdefghfjhgmpfaaGreatDoorMAV
import Derived.Test.YtdefghfjhgmpfaaGreatDoorMAY
import Derived.Test.YtdefghfjhgmpfaaGreatDoorMAZ
import Derived.Test.YtdefghfjhgmpfaaGreatDoorMBC
import Derived.Test.YtdefghfjhgmpfaaGreatDoorMBK
import Derived.Test.YtdefghfjhgmpfaaGreatDoorMBV
import Derived.Test.YtdefghfjhgmpfaaGreatDoorMDA
import Derived.Test.YtdefghfjhgmpfaaGreatDoorMCO
namespace Go.Proofs.YtdefghfjhgmpfaaGreatDoor
open Go.Proofs.Tryz
open Go.RowKit
open Lp (RL upd eu)
theorem Row.ne{w:World}{g g':Nat}{e e':TypeId}{cs t:List Value}(h:Row w g e cs)(E:Row w g' e' t)(G:cs≠t):g≠g':=by
 rintro rfl;have h1:=h.symm.trans E;simp only[Option.some.injEq,Obj.cells.injEq] at h1;exact G (by simpa using h1.1)
theorem gH.made{w:World}{base g n:Nat}(h:w.ownsRow base 105 4 (.slice (some ⟨g,0,none⟩) n n) n (madeCells (Value.agg #[.bool false, .slice none 0 0, .bool false, .slice none 0 0]).cells (n*4)).toList):gH w (.slice (some ⟨g,0,none⟩) n n) n (fun _=>0):=by
 refine⟨_,sO h (Nat.zero_le _),fun j t=>⟨false,none,0,0,false,none,0,0,?_,?_,?_,?_,eO.jU w⟩⟩
 ·rw[sN _ _ _ oM];simp[Value.cells,show j*4%4=0 by omega]
 ·rw[sN _ _ _ oM];simp[Value.cells,show(j*4+1)%4=1 by omega]
 ·rw[sN _ _ _ oM];simp[Value.cells,show(j*4+2)%4=2 by omega]
 ·rw[sN _ _ _ oM];simp[Value.cells,show(j*4+3)%4=3 by omega]
theorem gH.congr{w:World}{v:Value}{k:Nat}{f f':Nat -> Rat}(h:gH w v k f)(E:∀j,j<k -> f j=f' j):gH w v k f':=by
 obtain⟨xs,G,M⟩:=h;exact⟨xs,G,fun j t=>by rw[<- E j t];exact M j t⟩
theorem O5(w:World){o:Oper}{a:Act}{K:Act -> World -> Prop}{Q:Exit -> Act -> World -> Prop}
  (l c:Operand) (R:o.op=Op.makeSlice 95 l c) (L C:Int) (n:Nat) (O:a.eval l= .int .i64 L) (G:a.eval c= .int .i64 C) (E:L=(n:Int)) (h:C=(n:Int)) (b2:n <= 4398046511104)
  (t:∀w',gH w' (.slice (some ⟨w.heap.size,0,none⟩) n n) n (fun _=>0) -> Below w.heap.size w w' -> K (a.put o.dst (.slice (some ⟨w.heap.size,0,none⟩) n n)) w'):
  Oper.wp prog o a w K Q:=by
 obtain⟨i,M,U,X,Y⟩:=info_parts qM;obtain⟨w',T,Z,r2⟩:=run_make_full (P:=prog) w w.heap.size _ _ i _ 4 underlying95 M U X .i64 .i64 n (by rw[Y];omega) (by unfold maxLen;omega) (Nat.le_refl _);subst E;subst h;unfold Oper.wp;simp[execOp,R,O,G,T,Result.andThen];exact t w' (gH.made Z) ((Below.refl _ _).grown r2 (Nat.le_refl _) (by simp))
theorem O9(w:World){o:Oper}{a:Act}{K:Act -> World -> Prop}{Q:Exit -> Act -> World -> Prop}(s x:Operand)
  (Z:o.op= .call {callee:= .builtin .append,args:= #[s,x],argTypes:= #[95,95]})
  (t n:Nat) (f:Nat -> Rat) (A:Option Addr) (c:Nat) (hs:a.eval s= .slice (some ⟨t,0,none⟩) 0 0) (hE:Row w t 105 [])
  (hx:a.eval x= .slice A n c) (hr:eZ w (.slice A n c) n f) (ak:A=none -> c=0) (hn:n <= 1000000000000)
  (h:∀A' c' w',gH w' (.slice A' n c') n f -> (∀g,(Value.slice A' n c').ownBlock=some g -> g=t \/ w.heap.size <= g) -> w.grownBy w' (some t) -> K (a.put o.dst (.slice A' n c')) w'):Oper.wp prog o a w K Q:=by
 obtain⟨i,X,aa,ab,ac⟩:=info_parts qM;have a0:w.ownsRow 0 105 4 (.slice (some ⟨t,0,none⟩) 0 0) 0 []:=⟨rfl, .inr ⟨t,0, #[],rfl,Nat.zero_le _,hE,Nat.le_refl _,Nat.zero_le _,rfl,rfl⟩⟩;have ai:w.grownBy w (some t):=⟨rfl,rfl,rfl,Nat.le_refl _,fun _ _ _=>rfl⟩;have a8:∀g,(Value.slice (some ⟨t,0,none⟩) 0 0).ownBlock=some g -> g=t \/ w.heap.size <= g:=fun g R=>by simp only[Value.ownBlock,Option.some.injEq] at R;omega
 rcases Nat.eq_zero_or_pos n with h0 | h0
 ·subst h0;cases A with
  | none=>
   have hc:=ak rfl;subst hc;have a6:=run_append_owned_none (P:=prog) w 0 95 o.type 105 i 4 underlying95 X _ 0 [] a0;unfold Oper.wp;simp[execOp,Z,resolve,invoke,builtin,hs,hx,a6,Result.andThen];exact h _ _ w ⟨[],a0,fun j E=>absurd E oM⟩ a8 ai
  | some ad=>
   refine lW w s x _ Z _ i _ 4 64 underlying95 X aa ab ac rfl dC _ 0 [] hs a0 ad 0 c [] hx rfl (by simp) (by simp) (by unfold maxLen;omega) oM ?_;intro v' w' G a9;obtain⟨A',c',O,h1,h2⟩:=sP G;subst O;refine h A' c' w' ⟨_,G,fun j E=>absurd E oM⟩ (fun g R=> ?_) (by have:=a9.grown;simpa [Value.ownBlock] using this)
   rcases a9.own with e | ⟨g',e,hb⟩
   ·rw[e] at R;exact a8 g R
   ·rw[R] at e;simp only[Option.some.injEq] at e;omega
 ·obtain⟨g,rfl,al⟩:∃g,A=some ⟨g,0,none⟩ /\ RB w g n f:=by
   obtain⟨A',c',O,_,_,T⟩:=hr;simp only[Value.slice.injEq,true_and] at O;obtain⟨rfl,rfl⟩:=O
   rcases T with T | T
   ·omega
   ·exact T
  obtain⟨cs,am,an,af⟩:=al;have a7:(cs.take (n*4)).length=n*4:=by rw[List.length_take];omega
  have aj:∀j y,(cs.take (n*4))[j]? =some y -> w.cell? ((⟨g,0,none⟩:Addr).add j)=some y:=by
   intro j y E;have ah:j<n*4:=by rw[<- a7];exact(List.getElem?_eq_some_iff.1 E).1
   rw[List.getElem?_take,if_pos ah] at E;rw[add0];exact am.at_ j E
  obtain⟨v',w',a6,G,M⟩:=run_append_arg_grows (P:=prog) w 95 o.type 105 i _ 4 64 underlying95 X aa ab ac rfl dC ⟨t,0,none⟩ 0 0 [] rfl (by simp) ⟨g,0,none⟩ n c (cs.take (n*4)) a7 aj oM (by unfold maxLen;omega) oM;rw[Nat.zero_add] at G;have ae:Below w.heap.size w w':=⟨M.os,M.tape,M.output,M.size,fun k Y=>M.block k Y (by simp)⟩;obtain⟨A',c',O,_,_⟩:=sP (sO G (Nat.zero_le _));subst O;unfold Oper.wp;simp[execOp,Z,resolve,invoke,builtin,hs,hx,a6,Result.andThen];refine h A' c' w' ⟨_,sO G (Nat.zero_le _),fun j E=> ?_⟩ (fun g' ag=> .inr (G.lt g' ag).1) (FT M _);obtain⟨s1,A1,l1,c1,t1,B1,m1,d1,a1,a2,a3,a4,a5⟩:=af j E;have U:∀k u,k<n*4 -> cs[k]? =some u -> ([]++cs.take (n*4))[k]? =some u:=fun k u Y hu=>by rw[List.nil_append,List.getElem?_take,if_pos Y];exact hu
  exact⟨s1,A1,l1,c1,t1,B1,m1,d1,U _ _ oM a1,U _ _ oM a2,U _ _ oM a3,U _ _ oM a4,a5.below ae⟩
def O0(w:World)(B:Nat)(V:Value)(gr:Nat -> Nat)(n k:Nat)(F:Nat -> Nat -> Rat):Prop:=∀j,j<k -> RB w (gr j) n (F j) /\ B <= gr j /\ V.ownBlock≠some (gr j)
section
variable {w w':World} {B n k:Nat} {V V' u u':Value} {gr:Nat -> Nat} {F:Nat -> Nat -> Rat} {e:TypeId}
theorem O0.below(h:O0 w B V gr n k F)(E:Below w.heap.size w w'):O0 w' B V gr n k F:=fun j t=>⟨(h j t).1.below E,(h j t).2⟩
theorem O0.other{g:Nat}{cs:List Value}(h:O0 w B V gr n k F)(R:w.grownBy w' (some g))(E:Row w g e cs)(O:e≠105)(T:e≠160):O0 w' B V gr n k F:=fun j t=>⟨(h j t).1.other R E T (fun M=>by obtain⟨_,G⟩:=(h j t).1.row;rw[M] at G;exact O (E.ty G)),(h j t).2⟩
theorem O0.turned{size q:Nat}{xs:List Value}(h:O0 w B V gr n k F)(O:Turned w w' u u')(E:w.ownsRow 0 e size u q xs)(M:e≠105)(R:e≠160):O0 w' B V gr n k F:=fun j t=>
 ⟨(h j t).1.turned O E R (fun G=>by obtain⟨_,T⟩:=(h j t).1.row;obtain⟨_,U⟩:=qN E G;exact M (U.ty T)),(h j t).2⟩
theorem O0.grow{size q:Nat}{xs:List Value}(h:O0 w B V gr n k F)(E:Turned w w' V V')(G:w.ownsRow 0 e size V q xs)(M:e≠160):O0 w' B V' gr n k F:=fun j t=>
 ⟨(h j t).1.turned E G M (h j t).2.2,(h j t).2.1,E.apart (h j t).1.lt (h j t).2.2⟩
theorem O0.add{g:Nat}(h:O0 w B V gr n k F)(M:RB w g n (F k))(E:B <= g)(G:V.ownBlock≠some g):O0 w B V (upd gr k g) n (k+1) F:=fun j O=>by
 by_cases t:j=k
 ·subst t;rw[Lp.upd_same];exact⟨M,E,G⟩
 ·rw[Lp.eT _ _ t];exact h j oM
def O4(n:Nat)(gr cr:Nat -> Nat)(j:Nat)(u:Value):Prop:=u= .slice (some ⟨gr (j+1),0,none⟩) n (cr (j+1))
theorem eY.newer{g c:Nat}{cr:Nat -> Nat}(h:eY w V e k (O4 n gr cr)):eY w V e k (O4 n (upd gr (k+1) g) (upd cr (k+1) c)):=eY.congr h fun j E u t=>by
 unfold O4 at t ⊢;rw[t,Lp.eT _ _ oM,Lp.eT _ _ oM]
theorem Oz{cr:Nat -> Nat}(h:eY w V 95 k (O4 n gr cr))(U:O0 w B u gr n (k+1) F)(E:∀j,j<k -> n <= cr (j+1) /\ cr (j+1) <= maxLen):iD w V k n (fun i=>F (i+1)):=by
 obtain⟨A',c,rfl,h1,R⟩:=h.shape;refine⟨A',c,rfl,h1,R,?_⟩
 rcases Nat.eq_zero_or_pos k with h0 | h0
 ·exact .inl h0
 ·obtain⟨g,c',cs,G,X,_,T⟩:=h.done h0;simp only[Value.slice.injEq,true_and] at G;refine .inr ⟨g,G.1,fun i t=> ?_⟩;obtain⟨y,Y,M⟩:=T i t;unfold O4 at M;subst M;exact⟨_,_,X.at_ _ Y,fun O=>by simp at O,⟨_,_,rfl,(E i t).1,(E i t).2, .inr ⟨_,rfl,(U (i+1) oM).1⟩⟩⟩
end
def inF(m n:Nat)(A:Nat -> Nat -> Rat)(i:Nat):Nat -> Rat:=if i=0 then inC n else inA m n A (i-1)
theorem O7{m n q j:Nat}{A:Nat -> Nat -> Rat}(t:q<m)(h:j<n):inF m n A (q+1) j=A q j:=by
 unfold inF;rw[if_neg oM,Nat.add_sub_cancel];unfold inA;rw[if_pos t,if_pos h]
theorem O6{m n q:Nat}{A:Nat -> Nat -> Rat}:inF m n A (q+1) n=1:=by
 unfold inF;rw[if_neg oM,Nat.add_sub_cancel];unfold inA;split <;> rw[if_neg oM]
theorem Oa{m n j:Nat}{A:Nat -> Nat -> Rat}(h:j<n):inF m n A (m+1) j=0:=by
 unfold inF;rw[if_neg oM,Nat.add_sub_cancel];unfold inA;rw[if_neg oM,if_pos h]
def Ob(w':World)(v:Int)(m K:Nat)(k:Nat -> Nat)(t:Nat -> Nat -> ByteArray)(b:Nat -> ByteArray)(e:Ending):Prop:=
 (jF v m k t b≠0 /\ e= .returned (.tuple #[.slice none 0 0, .int .i64 (jF v m k t b:Nat)])) \/
 (jF v m k t b=0 /\ ∃A bq c q x y d,jk v.toNat m (fun _=>⟨#[48]⟩) t b A bq c /\ kI (m+1) (v.toNat+1) 1 (inA m v.toNat A) (inB m bq) (inC v.toNat) q x y d /\
  ((0<q /\ ∃X xc,e= .returned (.tuple #[.slice X v.toNat xc, .int .i64 0]) /\ TS w' (.slice X v.toNat xc) v.toNat (fun j=>eF (x j)) /\ ∀j,j<v.toNat -> RL K (x j)) \/
   (q <= 0 /\ e= .returned (.tuple #[.slice none 0 0, .int .i64 21]))))
set_option maxRecDepth 100000 in
set_option maxHeartbeats 12800000 in
theorem Ol(v:Int)(AR:Option Addr)(m cR:Nat)(k:Nat -> Nat)(t:Nat -> Nat -> ByteArray)(b:Nat -> ByteArray)(Kl:Nat)(w:World)(hr:fZ w (.slice AR m cR) m k t b)(hf:RowsFit m k t b)
  (bh:0<Kl) (E:jF v m k t b=0 -> Lp.wide (m+1) (v.toNat+1) Kl+1 <= 1000000) (bs:∀i,i<m -> ∀j,j<k i -> (t i j).size <= Kl) (br:∀i,i<m -> (b i).size <= Kl) (T:Tab w) (hg:iG w):
  Calls prog 38 #[.int .i64 v, .slice AR m cR] w fun e w'=>Ob w' v m (Lp.wide (m+1) (v.toNat+1) Kl+1) k t b e /\ Below w.heap.size w w':=by
 have HR:=lH hr;have HF:=lH hf;have HL:=lH (And.intro bs br);have HK:=lH (And.intro bh E);have bK:=lH hg;have bR:=lH T;clear hr hf bs br bh E hg T;obtain⟨iS,bm,bC,bE,bF⟩:=info_parts zo;go_enter func38,ntmps38;go_wp2_with fail
 refine(Jl v AR m cR k t b _ HR.o HF.o bK.o).mono ?_;rintro e w1 ⟨hr,M⟩;have HB:=lH M;clear M
 rcases JV hr with ⟨h0,rfl⟩ | ⟨h0,aH,bB,AC,AS,AD,cC,cS,cD,A,bq,c,rfl,hc,hA,hD,hP,_⟩
 ·obtain⟨cc,aS⟩:=eX (jF v m k t b);rw[<- aS] at h0 ⊢;have bX:((cc:Nat):Int)≠0:=oM
  have ci:(((cc:Nat):Int) !=0)=true:=by simpa using bX
  have cj:(cc !=0)=true:=by simpa using h0
  have bG:=lH h0;have b8:=lH aS;clear h0 aS;obtain⟨w2,ac⟩:=eX (w1.alloc (.cells #[.slice none 0 0, .slice none 0 0, .slice none 0 0] 98));obtain⟨gQ,ak⟩:=eX (w1.heap.size);have aj:Below w1.heap.size w1 w2:=by rw[ac];exact eD _ _
  have QB:Hid (Row w2 gQ 98 [.slice none 0 0, .slice none 0 0, .slice none 0 0]):=lH (by rw[ac,ak];exact eP _ _);replace HB:=bT HB aj;go_wp2_with fail
  rw[<- ac];go_returns;refine⟨.inl ⟨by rw[<- b8.o];exact bG.o,?_⟩,HB.o⟩;rw[<- b8.o];rfl
 ·obtain⟨n,rfl⟩:∃n:Nat,v=(n:Int):=⟨v.toNat,bB⟩
  have aU:((n:Nat):Int).toNat=n:=Int.toNat_natCast n;replace HK:=lH (And.intro HK.o.1 (HK.o.2 h0));rw[aU] at HK aH hc hA hP ⊢;have av:=lH aU;clear aU;have bf:=lH h0;have bO:=lH aH;have aQ:=lH hP;have HA:=lH hA;have HD:=lH hD;have bd:=lH (mo aH);clear h0 aH hP hA hD bB hc;have au:Hid (n <= 96 /\ m <= 256):=lH ⟨bd.o.1,bd.o.2.1⟩;obtain⟨w2,ac⟩:=eX (w1.alloc (.cells #[.slice AC n cC, .slice AS m cS, .slice AD m cD] 98));obtain⟨gQ,ak⟩:=eX (w1.heap.size);have aj:Below w1.heap.size w1 w2:=by rw[ac];exact eD _ _
  have QB:Hid (Row w2 gQ 98 [.slice AC n cC, .slice AS m cS, .slice AD m cD]):=lH (by rw[ac,ak];exact eP _ _);replace HA:=lH (HA.o.below aj);replace HD:=lH (HD.o.below aj);replace HB:=bT HB aj;have ch:Hid (w.heap.size <= w2.heap.size):=lH HB.o.size;have cl:((n:Nat):Int) <= 96:=by have:=au.o.1;omega
  obtain⟨aY,b0,b2⟩:=aT3 QB.o;have b5:=QB.o.lt;rw[ac] at aY b0 b2 b5;rw[ak] at aY b0 b2 b5
  go_upto_region 4 with (fail)
  rw[<- ac, <- ak];clear ac aj ak aY b0 b2 b5
  go_cut [8] (fun v wx=>∃gP gO c3,v= .pointer (some ⟨gP,0,none⟩) /\ w2.heap.size <= gP /\ w2.heap.size <= gO /\ Hid (Row wx gP 98 [.slice (some ⟨gO,0,none⟩) (n+1) c3, .slice none 0 0, .slice none 0 0]) /\ Hid (RB wx gO (n+1) (inC n)) /\ Hid (n+1 <= c3 /\ c3 <= maxLen) /\ Hid (Below w2.heap.size w2 wx))
  case first=>
   refine kT (fun w'=>True) (fun i=>decide (7 <= i)) kR ?_;obtain⟨O,ad⟩:=eX (w2.drew);rw[<- ad];have G:Hid (Below w2.heap.size w2 O):=OO (by rw[ad];exact(Below.refl _ _).drew);clear ad;have a8:=trivial;refine OY 0 21 a8 ?_;clear a8
   repeat' first
    | (with_reducible show gF _ _ _ _ _ _ _ _ _ _
       first
       | (refine OY 5 26 (trivial) ?_)
       | (refine OP [1,2,6] ?_
          refine OX 1 rfl (fun K E=> ?_) (OX 2 rfl (fun K E=> ?_) (OX 6 rfl (fun K E=> ?_) (gG.nil))))
       | (refine OP [1,3,6] ?_
          refine OX 1 rfl (fun K E=> ?_) (OX 3 rfl (fun K E=> ?_) (OX 6 rfl (fun K E=> ?_) (gG.nil))))
       | (refine OP [1,2] ?_
          refine OX 1 rfl (fun K E=> ?_) (OX 2 rfl (fun K E=> ?_) (gG.nil)))
       | (refine OP [1,3] ?_
          refine OX 1 rfl (fun K E=> ?_) (OX 3 rfl (fun K E=> ?_) (gG.nil)))
       | (refine OP [1,6] ?_
          refine OX 1 rfl (fun K E=> ?_) (OX 6 rfl (fun K E=> ?_) (gG.nil)))
       | (refine OP [2,6] ?_
          refine OX 2 rfl (fun K E=> ?_) (OX 6 rfl (fun K E=> ?_) (gG.nil)))
       | (refine OP [3,6] ?_
          refine OX 3 rfl (fun K E=> ?_) (OX 6 rfl (fun K E=> ?_) (gG.nil)))
       | (refine OP [4,6] ?_
          refine OX 4 rfl (fun K E=> ?_) (OX 6 rfl (fun K E=> ?_) (gG.nil)))
       | (refine OP [1] ?_
          refine OX 1 rfl (fun K E=> ?_) (gG.nil))
       | (refine OP [2] ?_
          refine OX 2 rfl (fun K E=> ?_) (gG.nil))
       | (refine OP [3] ?_
          refine OX 3 rfl (fun K E=> ?_) (gG.nil))
       | (refine OP [4] ?_
          refine OX 4 rfl (fun K E=> ?_) (gG.nil))
       | (refine OP [6] ?_
          refine OX 6 rfl (fun K E=> ?_) (gG.nil))
       | (refine OP [7] ?_
          refine OX 7 rfl (fun K E=> ?_) (gG.nil))
       | (refine OU ?_ _
          clear q0 q1 q2 f0 f1 f2 ql;have hg:World.grownBy O (((O.setCell ⟨gP,0,none⟩ (.slice A3 (n+1) c3)).setCell ⟨gP,1,none⟩ (.slice none 0 0)).setCell ⟨gP,2,none⟩ (.slice none 0 0)) (some gP):=grownBy_trans (grownBy_trans (grownBy_set _ _ _ _) (grownBy_set _ _ _ _)) (grownBy_set _ _ _ _);have e1:=((RP.o.set 0 (.slice A3 (n+1) c3)).set 1 (.slice none 0 0)).set 2 (.slice none 0 0);have e2:=FO.o.other hg RP.o dC (fun e=>by obtain⟨_,U⟩:=FO.o.row e;exact absurd (RP.o.ty U) dC);have e3:=G.o.grown hg G.o.size (by have:=ba.o;first | (simp;done) | (simp;omega));obtain⟨gO,cO,hv,e4⟩:=e2.done oM;simp only[Value.slice.injEq,true_and] at hv;obtain⟨rfl,rfl⟩:=hv;have aK:w2.heap.size <= gO:=bL.o gO rfl;go_wp2_with fail
          go_meet
          exact⟨gP,gO,c3,rfl,ba.o,aK,OO e1,OO e4,az,OO e3⟩))
    | (refine EvZ.mk (i:=1) ?_
       rw[if_pos (by rfl)];refine O5 _ (.tmp 21) (.tmp 21) rfl _ _ n rfl rfl rfl rfl oM ?_;intro a3 ho M;obtain⟨gM,aw⟩:=eX (O.heap.size);rw[<- aw] at ho ⊢;have aB:Hid (w2.heap.size <= gM):=OO (by rw[aw];exact G.o.size);have FM:=OO ho;clear ho aw
       refine onZ 99 ?_)
    | (refine EvZ.mk (i:=2) ?_
       go_simp;refine(sK 1 dC dC _).mono ?_;rintro e a3 ⟨vx,rfl,U,M⟩;obtain⟨sx,Ax,lx,cx,tx,Bx,mx,dx,rfl⟩:=U.shape;have VX:Hid (eO a3 (.agg #[.bool sx, .slice Ax lx cx, .bool tx, .slice Bx mx dx]) 1):=OO (by have h:=U;simpa using h);clear U
       refine onZ 99 ?_)
    | (refine EvZ.mk (i:=3) ?_
       go_simp;obtain⟨gc,a4⟩:=eX (O.heap.size);obtain⟨a3,a0⟩:=eX (O.alloc (.cells #[.bool sx, .slice Ax lx cx, .bool tx, .slice Bx mx dx] 105));rw[<- a0, <- a4];have M:Below O.heap.size O a3:=by rw[a0];exact eD _ _
       have Rc:Hid (Row a3 gc 105 [.bool sx, .slice Ax lx cx, .bool tx, .slice Bx mx dx]):=OO (by rw[a0,a4];exact eP _ _);clear a0 a4
       refine onZ 99 ?_)
    | (refine EvZ.mk (i:=4) ?_
       rw[if_pos (by rfl)];refine wh _ (.tmp 22) (.tmp 24) rfl (.slice (some ⟨gM,0,none⟩) n n) n (inC n) rfl (FM.o.congr (fun j hj=>by unfold inC;rw[if_pos hj])) sx Ax lx cx tx Bx mx dx (by rw[show inC n n=1 from if_neg oM];exact VX.o) gc Rc.o rfl oM ?_;intro va a3 ho T;obtain⟨A3,c3,rfl,ar⟩:=ho.shape;have ah:=T.base G.o.size (fun g hg=>by have:=aB.o;simp only[Value.ownBlock,Option.some.injEq] at hg;omega)
       (try replace RP:=OO (RP.o.turned T (fun e=>by simp only[Value.ownBlock,Option.some.injEq] at e;subst e;obtain⟨_,U⟩:=FM.o.row rfl;exact absurd (RP.o.ty U) dC)))
       replace G:=OO (G.o.trans (T.below (B:=w2.heap.size) G.o.size (fun g hg=>by have:=aB.o;simp only[Value.ownBlock,Option.some.injEq] at hg;omega)));have FO:=OO ho;have bL:=OO ah;have az:=OO ar;clear ho T ah ar FM VX Rc
       refine onZ 98 ?_)
    | (refine EvZ.mk (i:=6) ?_
       go_simp;obtain⟨gP,a4⟩:=eX (O.heap.size);obtain⟨a3,a0⟩:=eX (O.alloc (.cells #[.slice none 0 0, .slice none 0 0, .slice none 0 0] 98));rw[<- a0, <- a4];have M:Below O.heap.size O a3:=by rw[a0];exact eD _ _
       have ba:Hid (w2.heap.size <= gP):=OO (by rw[a4];exact G.o.size);have RP:Hid (Row a3 gP 98 [.slice none 0 0, .slice none 0 0, .slice none 0 0]):=OO (by rw[a0,a4];exact eP _ _);clear a0 a4
       refine onZ 99 ?_)
    | (refine EvZ.mk (i:=7) ?_
       obtain⟨q0,q1,q2⟩:=And.intro (RP.o.at_ 0 rfl) (And.intro (RP.o.at_ 1 rfl) (RP.o.at_ 2 rfl));obtain⟨f0,f1,f2⟩:=And.intro (RP.o.free 0) (And.intro (RP.o.free 1) (RP.o.free 2));have ql:=RP.o.lt;go_simp;refine OT E ?_
       clear E K)
    | (refine EvZ.mk (i:=99) ?_
       (try replace FM:=OO (FM.o.below M))
       (try replace VX:=OO (VX.o.below M))
       (try replace FO:=OO (FO.o.below M))
       (try replace Rc:=OO (Rc.o.below M Rc.o.lt))
       (try replace RP:=OO (RP.o.below M RP.o.lt))
       (try replace G:=OO (G.o.trans (M.mono G.o.size)))
       clear M
       refine onZ 98 ?_)
    | (refine EvZ.mk (i:=98) ?_
       obtain⟨O,rfl⟩:=eX (a3);refine OV E (trivial) ?_
       clear E K)
  case rest=>
   obtain⟨gP,gO,cO,rfl,bl,bk,Z,OB,bH,a5⟩:=hcut;have aL:=lH bl;have aK:=lH bk;clear bl bk;have QX:=lH (QB.o.below a5.o QB.o.lt);have c8:=aI 1 QX;have ce:=QX.o.lt;go_wp2_with fail
   clear QX c8 ce
   go_loopw [30] (fun iv wr=>∃ (q:Nat) (Ar:Option Addr) (cr:Nat) (Ad:Option Addr) (cd:Nat) (gr a7:Nat -> Nat),q <= m /\ iv= .int .i64 q /\ Hid (eY wr (.slice Ar q cr) 95 q (O4 (n+1) gr a7)) /\ Hid (gH wr (.slice Ad q cd) q bq) /\ Hid (∀g,(Value.slice Ar q cr).ownBlock=some g -> w2.heap.size <= g) /\ Hid (∀g,(Value.slice Ad q cd).ownBlock=some g -> w2.heap.size <= g) /\ Hid (O0 wr w2.heap.size (.slice Ad q cd) gr (n+1) (q+1) (inF m n A)) /\ Hid (gr 0=gO /\ a7 0=cO /\ ∀j,j <= q -> n+1 <= a7 j /\ a7 j <= maxLen) /\ Hid (Row wr gP 98 [.slice (some ⟨gO,0,none⟩) (n+1) cO, .slice Ar q cr, .slice Ad q cd]) /\ Hid (Below w2.heap.size w2 wr))
    (fun iv _=>m-(intOf iv).toNat)
   case atStart=>exact⟨0,none,0,none,0,fun _=>gO,fun _=>cO,Nat.zero_le _,rfl,lH (eY.nil _ _ _),lH (gH.nil _ _),lH (fun g hg=>by simp[Value.ownBlock] at hg),lH (fun g hg=>by simp[Value.ownBlock] at hg),lH (fun j hj=>by obtain rfl:j=0:=oM;exact⟨OB.o,aK.o,by simp[Value.ownBlock]⟩),lH ⟨rfl,rfl,fun j _=>bH.o⟩,Z,a5⟩
   case round=>
    clear Z OB a5;obtain⟨q,Ar,cr,Ad,cd,gr,a7,hq,rfl,OR,OQ,LR,LQ,RN,ag,Z,a5⟩:=hrel;by_cases c5:((q:Nat):Int)<((m:Nat):Int)
    ·have aW:q<m:=oM
     have bP:=lH aW;have cm:q <= 256:=by have:=au.o.2;omega
     obtain⟨gS,rfl,bz⟩:=HA.o.at_ oM;obtain⟨X,x,bj,bi,bx⟩:=bz q aW;have kc:=cell_below a5.o bj;have ca:=eG kc;have HX:=lH (bx.below a5.o);have bS:=lH bi;clear bz bj bx bi;obtain⟨gD,rfl,ai⟩:=HD.o.at_ oM;obtain⟨sy,Ay,ly,cy,ty,By,my,dy,hQ,hv⟩:=ai.fO aW;have VY:=lH hv;obtain⟨z0,z1,z2,z3⟩:=hQ;have Z0:=lH (cell_below a5.o z0);have Z1:=lH (cell_below a5.o z1);have Z2:=lH (cell_below a5.o z2);have Z3:=lH (cell_below a5.o z3);have bJ:Hid (∃cs,Row wr gD 105 cs):=lH (by obtain⟨cs,U⟩:=(ai.below a5.o).row;exact⟨cs,U⟩);have bI:Hid (gD<w2.heap.size):=lH ai.lt;clear ai hv z0 z1 z2 z3;have QR:=lH (QB.o.below a5.o QB.o.lt)
     go_upto_region 8 with (fail)
     clear kc ca;refine kT (fun w'=> w'.cell? ⟨gP,1,none⟩=some (.slice Ar q cr) /\ w'.cell? ⟨gP,2,none⟩=some (.slice Ad q cd) /\ w'.cell? ⟨gQ,2,none⟩=some (.slice (some ⟨gD,0,none⟩) m cD) /\ w'.cell? ⟨gD,q*4,none⟩=some (.bool sy) /\ w'.cell? ⟨gD,q*4+1,none⟩=some (.slice Ay ly cy) /\ w'.cell? ⟨gD,q*4+2,none⟩=some (.bool ty) /\ w'.cell? ⟨gD,q*4+3,none⟩=some (.slice By my dy)) (fun i=>decide (20 <= i)) kR ?_;obtain⟨O,ad⟩:=eX (wr.drew);rw[<- ad];have G:Hid (Below wr.heap.size wr O):=OO (by rw[ad];exact(Below.refl _ _).drew);clear ad;have a8:=And.intro ((Z.o.below G.o Z.o.lt).at_ 1 rfl) (And.intro ((Z.o.below G.o Z.o.lt).at_ 2 rfl) (And.intro ((QR.o.below G.o QR.o.lt).at_ 2 rfl) (And.intro (cell_below G.o Z0.o) (And.intro (cell_below G.o Z1.o) (And.intro (cell_below G.o Z2.o) (cell_below G.o Z3.o))))));refine OY 0 35 a8 ?_;refine OY 1 36 a8 ?_;refine OY 3 38 a8 ?_;refine OY 10 45 a8 ?_;refine OY 11 46 a8 ?_;refine OZ 12 [12,13,15,16,17,18] 47 a8 ?_;refine OZ 13 [13,15,16,17,18] 48 a8 ?_;refine OZ 14 [14,15,16,17,18] 49 a8 ?_;refine OZ 15 [15,16,17,18] 50 a8 ?_;refine OZ 16 [16,17,18] 51 a8 ?_;clear a8
     repeat' first
      | (with_reducible show gF _ _ _ _ _ _ _ _ _ _
         first
         | (refine P5 21 55 ?_)
         | (refine OY 19 54 (by first | exact And.intro ((Z.o.below G.o Z.o.lt).at_ 1 rfl) (And.intro ((Z.o.below G.o Z.o.lt).at_ 2 rfl) (And.intro ((QR.o.below G.o QR.o.lt).at_ 2 rfl) (And.intro (cell_below G.o Z0.o) (And.intro (cell_below G.o Z1.o) (And.intro (cell_below G.o Z2.o) (cell_below G.o Z3.o)))))) | exact And.intro (PN.o.at_ 1 rfl) (And.intro (PN.o.at_ 2 rfl) (And.intro (QN.o.at_ 2 rfl) (And.intro (Y0.o) (And.intro (Y1.o) (And.intro (Y2.o) (Y3.o))))))) ?_)
         | (refine OP [2,17] ?_
            refine OX 2 rfl (fun K E=> ?_) (OX 17 rfl (fun K E=> ?_) (gG.nil)))
         | (refine OP [4,17] ?_
            refine OX 4 rfl (fun K E=> ?_) (OX 17 rfl (fun K E=> ?_) (gG.nil)))
         | (refine OP [5,17] ?_
            refine OX 5 rfl (fun K E=> ?_) (OX 17 rfl (fun K E=> ?_) (gG.nil)))
         | (refine OP [6,17] ?_
            refine OX 6 rfl (fun K E=> ?_) (OX 17 rfl (fun K E=> ?_) (gG.nil)))
         | (refine OP [7,17] ?_
            refine OX 7 rfl (fun K E=> ?_) (OX 17 rfl (fun K E=> ?_) (gG.nil)))
         | (refine OP [8,17] ?_
            refine OX 8 rfl (fun K E=> ?_) (OX 17 rfl (fun K E=> ?_) (gG.nil)))
         | (refine OP [9,17] ?_
            refine OX 9 rfl (fun K E=> ?_) (OX 17 rfl (fun K E=> ?_) (gG.nil)))
         | (refine OP [2] ?_
            refine OX 2 rfl (fun K E=> ?_) (gG.nil))
         | (refine OP [4] ?_
            refine OX 4 rfl (fun K E=> ?_) (gG.nil))
         | (refine OP [5] ?_
            refine OX 5 rfl (fun K E=> ?_) (gG.nil))
         | (refine OP [6] ?_
            refine OX 6 rfl (fun K E=> ?_) (gG.nil))
         | (refine OP [7] ?_
            refine OX 7 rfl (fun K E=> ?_) (gG.nil))
         | (refine OP [8] ?_
            refine OX 8 rfl (fun K E=> ?_) (gG.nil))
         | (refine OP [9] ?_
            refine OX 9 rfl (fun K E=> ?_) (gG.nil))
         | (refine OP [17] ?_
            refine OX 17 rfl (fun K E=> ?_) (gG.nil))
         | (refine OP [18] ?_
            refine OX 18 rfl (fun K E=> ?_) (gG.nil))
         | (refine OP [20] ?_
            refine OX 20 rfl (fun K E=> ?_) (gG.nil))
         | (refine OP [22] ?_
            refine OX 22 rfl (fun K E=> ?_) (gG.nil))
         | (refine OU ?_ _
            clear q1 q2 f1 f2 ql;have hg:World.grownBy O ((O.setCell ⟨gP,1,none⟩ (.slice ap (q+1) aq)).setCell ⟨gP,2,none⟩ (.slice am (q+1) ao)) (some gP):=grownBy_trans (grownBy_set _ _ _ _) (grownBy_set _ _ _ _);have e1:=(PN.o.set 1 (.slice ap (q+1) aq)).set 2 (.slice am (q+1) ao);have e2:=ae.o.other hg (fun e=>by obtain⟨_,U⟩:=ae.o.row e;exact absurd (PN.o.ty U) dC);have e3:=ab.o.other hg PN.o dC (fun e=>by obtain⟨_,U⟩:=ab.o.row e;exact absurd (PN.o.ty U) dC);have e4:=an.o.other hg PN.o dC dC;have e5:=aa.o.grown hg aa.o.size (by have:=aL.o;first | (simp;done) | (simp;omega));have e6:(upd gr (q+1) g3) 0=gO /\ (upd a7 (q+1) c3) 0=cO /\ ∀j,j <= q+1 -> n+1 <= (upd a7 (q+1) c3) j /\ (upd a7 (q+1) c3) j <= maxLen:=⟨by rw[Lp.eT _ _ oM];exact ag.o.1,by rw[Lp.eT _ _ oM];exact ag.o.2.1,fun j hj=>by by_cases e:j=q+1;(· rw[e,Lp.upd_same];exact az.o);rw[Lp.eT _ _ e];exact ag.o.2.2 j oM⟩
            obtain⟨wE,aC⟩:=eX (((O.setCell ⟨gP,1,none⟩ (.slice ap (q+1) aq)).setCell ⟨gP,2,none⟩ (.slice am (q+1) ao)));rw[<- aC] at e1 e2 e3 e4 e5 ⊢;clear aC hg;have G1:=OO e1;have G2:=OO e2;have G3:=OO e3;have G4:=OO e4;have G5:=OO e5;have G6:=OO e6;clear e1 e2 e3 e4 e5 e6;go_wp2_with fail
            go_roundw
            case rel=>exact⟨q+1,ap,aq,am,ao,(upd gr (q+1) g3),(upd a7 (q+1) c3),by omega,by go_num,G2,G3,bW,bU,G4,G6,G1,G5⟩
            case measure=>exact mZ))
      | (refine EvZ.mk (i:=2) ?_
         go_simp;obtain⟨gE,a4⟩:=eX (O.heap.size);obtain⟨a3,a0⟩:=eX (O.alloc (.cells #[] 105));rw[<- a0, <- a4];have M:Below O.heap.size O a3:=by rw[a0];exact eD _ _
         have b9:Hid (wr.heap.size <= gE):=OO (by rw[a4];exact G.o.size);have RE:Hid (Row a3 gE 105 []):=OO (by rw[a0,a4];exact eP _ _);clear a0 a4
         refine onZ 99 ?_)
      | (refine EvZ.mk (i:=4) ?_
         rw[if_pos (by rfl)];refine O9 _ (.tmp 37) (.tmp 38) rfl gE n (A q) X x rfl RE.o rfl (HX.o.below G.o) bS.o oM ?_;intro A2 c2 a3 ho ah aT
         (try (have bu:=Rc.o.ne RE.o (by simp);have bc:Hid ((Value.slice A2 n c2).ownBlock≠some gc):=OO (fun e=>by have:=Rc.o.lt;rcases ah gc e with h | h;exact bu h;omega);replace Rc:=OO (Rc.o.other aT bu)))
         have aM:Hid (∀g,(Value.slice A2 n c2).ownBlock=some g -> wr.heap.size <= g):=OO (fun g e=>by have:=b9.o;have:=G.o.size;rcases ah g e with h | h <;> omega);replace G:=OO (G.o.grown aT G.o.size (by have:=b9.o;first | (simp;done) | (simp;omega)));have FM:=OO ho;clear ho ah aT RE
         refine onZ 98 ?_)
      | (refine EvZ.mk (i:=5) ?_
         go_simp;refine(sK 1 dC dC _).mono ?_;rintro e a3 ⟨vx,rfl,U,M⟩;obtain⟨sx,Ax,lx,cx,tx,Bx,mx,dx,rfl⟩:=U.shape;have VX:Hid (eO a3 (.agg #[.bool sx, .slice Ax lx cx, .bool tx, .slice Bx mx dx]) 1):=OO (by have h:=U;simpa using h);clear U
         refine onZ 99 ?_)
      | (refine EvZ.mk (i:=6) ?_
         go_simp;obtain⟨gd,a4⟩:=eX (O.heap.size);obtain⟨a3,a0⟩:=eX (O.alloc (.cells #[.bool sx, .slice Ax lx cx, .bool tx, .slice Bx mx dx] 105));rw[<- a0, <- a4];have M:Below O.heap.size O a3:=by rw[a0];exact eD _ _
         have Rd:Hid (Row a3 gd 105 [.bool sx, .slice Ax lx cx, .bool tx, .slice Bx mx dx]):=OO (by rw[a0,a4];exact eP _ _);clear a0 a4
         refine onZ 99 ?_)
      | (refine EvZ.mk (i:=7) ?_
         rw[if_pos (by rfl)];refine wh _ (.tmp 39) (.tmp 41) rfl (.slice A2 n c2) n (inF m n A (q+1)) rfl (FM.o.congr (fun j hj=>(O7 bP.o hj).symm)) sx Ax lx cx tx Bx mx dx (by rw[O6];exact VX.o) gd Rd.o rfl oM ?_;intro va a3 ho T;obtain⟨A3,c3,rfl,ar⟩:=ho.shape;have ah:=T.base G.o.size aM.o
         (try replace Rc:=OO (Rc.o.turned T bc.o))
         replace G:=OO (G.o.trans (T.below (B:=wr.heap.size) G.o.size aM.o));obtain⟨g3,c4,hv,ai⟩:=ho.done oM;simp only[Value.slice.injEq,true_and] at hv;obtain⟨rfl,rfl⟩:=hv;have R3:=OO ai;have az:=OO ar;have aA:Hid (wr.heap.size <= g3):=OO (ah g3 rfl);clear ho T ah ai ar FM VX Rd aM
         refine onZ 98 ?_)
      | (refine EvZ.mk (i:=8) ?_
         go_simp;obtain⟨ga,a4⟩:=eX (O.heap.size);obtain⟨a3,a0⟩:=eX (O.alloc (.cells #[.slice (some ⟨g3,0,none⟩) (n+1) c3] 95));rw[<- a0, <- a4];have M:Below O.heap.size O a3:=by rw[a0];exact eD _ _
         have Ra:Hid (Row a3 ga 95 [.slice (some ⟨g3,0,none⟩) (n+1) c3]):=OO (by rw[a0,a4];exact eP _ _);clear a0 a4
         refine onZ 99 ?_)
      | (refine EvZ.mk (i:=9) ?_
         rw[if_pos (by rfl)];have ax:eY O (.slice Ar q cr) 95 q (O4 (n+1) (upd gr (q+1) g3) (upd a7 (q+1) c3)):=(eY.below OR.o G.o).newer;have aV:=ax;obtain⟨xs,a6,_⟩:=aV;refine vZ _ (.tmp 36) (.tmp 43) 96 rfl 95 iS (.slice none 0 0) 24 underlying96 bm bC bE bF rfl (.slice Ar q cr) q _ rfl ax (.slice (some ⟨g3,0,none⟩) (n+1) c3) rfl (by unfold O4;rw[Lp.upd_same,Lp.upd_same]) ga Ra.o rfl ⟨by unfold maxLen;omega,by omega⟩ ?_;intro va a3 ho T;obtain⟨ap,aq,rfl,_,_⟩:=ho.shape;have af:w2.heap.size <= O.heap.size:=Nat.le_trans a5.o.size G.o.size;have PN:=OO ((Z.o.below G.o Z.o.lt).turned T (fun e=>by obtain⟨_,U⟩:=qN a6 e;exact absurd ((Z.o.below G.o Z.o.lt).ty U) dC));have QN:=OO ((QR.o.below G.o QR.o.lt).turned T (fun e=>by obtain⟨_,U⟩:=qN a6 e;exact absurd ((QR.o.below G.o QR.o.lt).ty U) dC));have al:some gD≠(Value.slice Ar q cr).ownBlock:=fun e=>by obtain⟨_,U⟩:=qN a6 e.symm;obtain⟨_,hy⟩:=bJ.o;exact absurd ((hy.below G.o hy.lt).ty U) dC
         have Y0:=OO (T.grown.cell (cell_below G.o Z0.o) al);have Y1:=OO (T.grown.cell (cell_below G.o Z1.o) al);have Y2:=OO (T.grown.cell (cell_below G.o Z2.o) al);have Y3:=OO (T.grown.cell (cell_below G.o Z3.o) al);have ab:=OO ((OQ.o.below G.o).turned T a6 dC (zl (fun g e=>(OQ.o.below G.o).row e) (fun g e=>qN a6 e) dC));have an:=OO (((RN.o.below G.o).add R3.o (Nat.le_trans a5.o.size aA.o) (fun e=>by have:=OQ.o.lt e;have:=aA.o;omega)).turned T a6 dC dC);have bW:=OO (T.base af LR.o);have aa:=OO ((a5.o.trans (G.o.mono a5.o.size)).trans (T.below af LR.o));have ae:=OO ho
         (try replace Rc:=OO (Rc.o.turned T (fun e=>by obtain⟨_,U⟩:=qN a6 e;exact absurd (Rc.o.ty U) dC)))
         clear ho T a6 ax af al R3 Ra G
         refine onZ 98 ?_)
      | (refine EvZ.mk (i:=17) ?_
         go_simp;obtain⟨gc,a4⟩:=eX (O.heap.size);obtain⟨a3,a0⟩:=eX (O.alloc (.cells #[.bool sy, .slice Ay ly cy, .bool ty, .slice By my dy] 105));rw[<- a0, <- a4];have M:Below O.heap.size O a3:=by rw[a0];exact eD _ _
         (try have bc:Hid ((Value.slice A2 n c2).ownBlock≠some gc):=OO (fun e=>by have:=FM.o.lt e;omega))
         have Rc:Hid (Row a3 gc 105 [.bool sy, .slice Ay ly cy, .bool ty, .slice By my dy]):=OO (by rw[a0,a4];exact eP _ _);clear a0 a4
         refine onZ 99 ?_)
      | (refine EvZ.mk (i:=18) ?_
         rw[if_pos (by rfl)];obtain⟨xs,a6,_⟩:=ab.o;refine wh _ (.tmp 46) (.tmp 52) rfl (.slice Ad q cd) q bq rfl ab.o sy Ay ly cy ty By my dy (VY.o.below aa.o) gc Rc.o rfl oM ?_;intro va a3 ho T;obtain⟨am,ao,rfl,_,_⟩:=ho.shape;have af:w2.heap.size <= O.heap.size:=aa.o.size;replace PN:=OO (PN.o.turned T (fun e=>by obtain⟨_,U⟩:=qN a6 e;exact absurd (PN.o.ty U) dC));replace an:=OO (an.o.grow T a6 dC);replace ae:=OO (ae.o.turned T (zl (fun g e=>ae.o.row e) (fun g e=>qN a6 e) dC));have bU:=OO (T.base af LQ.o);replace aa:=OO (aa.o.trans (T.below af LQ.o));clear ab;have ab:=OO ho;replace QN:=OO (QN.o.turned T (fun e=>by obtain⟨_,U⟩:=qN a6 e;exact absurd (QN.o.ty U) dC));have al:some gD≠(Value.slice Ad q cd).ownBlock:=fun e=>by have:=LQ.o gD e.symm;have:=bI.o;omega
         replace Y0:=OO (T.grown.cell Y0.o al);replace Y1:=OO (T.grown.cell Y1.o al);replace Y2:=OO (T.grown.cell Y2.o al);replace Y3:=OO (T.grown.cell Y3.o al);clear ho T a6 af al Rc
         refine onZ 98 ?_)
      | (refine EvZ.mk (i:=20) ?_
         have q1:=aI 1 PN;have q2:=aI 2 PN;have f1:=PN.o.free 1;have f2:=PN.o.free 2;have ql:=PN.o.lt;go_simp;refine OT E ?_
         clear E K)
      | (refine EvZ.mk (i:=22) ?_
         go_simp;refine OT E ?_
         clear E K)
      | (refine EvZ.mk (i:=99) ?_
         (try replace FM:=OO (FM.o.below M))
         (try replace VX:=OO (VX.o.below M))
         (try replace R3:=OO (R3.o.below M))
         (try replace ab:=OO (ab.o.below M))
         (try replace an:=OO (an.o.below M))
         (try replace RE:=OO (RE.o.below M RE.o.lt))
         (try replace Rc:=OO (Rc.o.below M Rc.o.lt))
         (try replace Rd:=OO (Rd.o.below M Rd.o.lt))
         (try replace Ra:=OO (Ra.o.below M Ra.o.lt))
         (try replace PN:=OO (PN.o.below M PN.o.lt))
         (try replace QN:=OO (QN.o.below M QN.o.lt))
         (try replace Y0:=OO (cell_below M Y0.o))
         (try replace Y1:=OO (cell_below M Y1.o))
         (try replace Y2:=OO (cell_below M Y2.o))
         (try replace Y3:=OO (cell_below M Y3.o))
         (try replace ae:=OO (eY.below ae.o M))
         (try replace aa:=OO (aa.o.trans (M.mono aa.o.size)))
         (try replace G:=OO (G.o.trans (M.mono G.o.size)))
         clear M
         refine onZ 98 ?_)
      | (refine EvZ.mk (i:=98) ?_
         obtain⟨O,rfl⟩:=eX (a3);refine OV E (by first | exact And.intro ((Z.o.below G.o Z.o.lt).at_ 1 rfl) (And.intro ((Z.o.below G.o Z.o.lt).at_ 2 rfl) (And.intro ((QR.o.below G.o QR.o.lt).at_ 2 rfl) (And.intro (cell_below G.o Z0.o) (And.intro (cell_below G.o Z1.o) (And.intro (cell_below G.o Z2.o) (cell_below G.o Z3.o)))))) | exact And.intro (PN.o.at_ 1 rfl) (And.intro (PN.o.at_ 2 rfl) (And.intro (QN.o.at_ 2 rfl) (And.intro (Y0.o) (And.intro (Y1.o) (And.intro (Y2.o) (Y3.o))))))) ?_
         clear E K)
    ·obtain rfl:m=q:=oM
     have ck:m <= 256:=au.o.2;clear hq c5
     go_upto_region 10 with (fail)
     go_cut [8] (fun v wx=>∃ (Ar:Option Addr) (cr:Nat) (gr a7:Nat -> Nat),v= .pointer (some ⟨gP,0,none⟩) /\ Hid (eY wx (.slice Ar (m+1) cr) 95 (m+1) (O4 (n+1) gr a7)) /\ Hid (gH wx (.slice Ad m cd) m bq) /\ Hid (O0 wx w2.heap.size (.slice Ad m cd) gr (n+1) (m+1+1) (inF m n A)) /\ Hid (gr 0=gO /\ a7 0=cO /\ ∀j,j <= m+1 -> n+1 <= a7 j /\ a7 j <= maxLen) /\ Hid (Row wx gP 98 [.slice (some ⟨gO,0,none⟩) (n+1) cO, .slice Ar (m+1) cr, .slice Ad m cd]) /\ Hid (Below w2.heap.size w2 wx))
     case first=>
      refine kT (fun w'=> w'.cell? ⟨gP,1,none⟩=some (.slice Ar m cr)) (fun i=>decide (8 <= i)) kR ?_;obtain⟨O,ad⟩:=eX (wr.drew);rw[<- ad];have G:Hid (Below wr.heap.size wr O):=OO (by rw[ad];exact(Below.refl _ _).drew);clear ad;have a8:=(Z.o.below G.o Z.o.lt).at_ 1 rfl;refine OY 0 57 a8 ?_;refine OY 1 58 a8 ?_;refine OZ 2 [2,3,6,7] 59 a8 ?_;clear a8
      repeat' first
       | (with_reducible show gF _ _ _ _ _ _ _ _ _ _
          first
          | (refine P5 9 66 ?_)
          | (refine OP [3,4] ?_
             refine OX 3 rfl (fun K E=> ?_) (OX 4 rfl (fun K E=> ?_) (gG.nil)))
          | (refine OP [3,5] ?_
             refine OX 3 rfl (fun K E=> ?_) (OX 5 rfl (fun K E=> ?_) (gG.nil)))
          | (refine OP [3] ?_
             refine OX 3 rfl (fun K E=> ?_) (gG.nil))
          | (refine OP [4] ?_
             refine OX 4 rfl (fun K E=> ?_) (gG.nil))
          | (refine OP [5] ?_
             refine OX 5 rfl (fun K E=> ?_) (gG.nil))
          | (refine OP [6] ?_
             refine OX 6 rfl (fun K E=> ?_) (gG.nil))
          | (refine OP [7] ?_
             refine OX 7 rfl (fun K E=> ?_) (gG.nil))
          | (refine OP [8] ?_
             refine OX 8 rfl (fun K E=> ?_) (gG.nil))
          | (refine OP [10] ?_
             refine OX 10 rfl (fun K E=> ?_) (gG.nil))
          | (refine OU ?_ _
             clear q1 f1 ql;have hg:World.grownBy O (O.setCell ⟨gP,1,none⟩ (.slice ap (m+1) aq)) (some gP):=grownBy_set _ _ _ _;have e1:=PN.o.set 1 (.slice ap (m+1) aq);have e2:=ae.o.other hg (fun e=>by obtain⟨_,U⟩:=ae.o.row e;exact absurd (PN.o.ty U) dC);have e3:=ab.o.other hg PN.o dC (fun e=>by obtain⟨_,U⟩:=ab.o.row e;exact absurd (PN.o.ty U) dC);have e4:=an.o.other hg PN.o dC dC;have e5:=aa.o.grown hg aa.o.size (by have:=aL.o;first | (simp;done) | (simp;omega));have e6:(upd gr (m+1) g3) 0=gO /\ (upd a7 (m+1) c3) 0=cO /\ ∀j,j <= m+1 -> n+1 <= (upd a7 (m+1) c3) j /\ (upd a7 (m+1) c3) j <= maxLen:=⟨by rw[Lp.eT _ _ oM];exact ag.o.1,by rw[Lp.eT _ _ oM];exact ag.o.2.1,fun j hj=>by by_cases e:j=m+1;(· rw[e,Lp.upd_same];exact az.o);rw[Lp.eT _ _ e];exact ag.o.2.2 j oM⟩
             go_wp2_with fail
             go_meet
             exact⟨ap,aq,(upd gr (m+1) g3),(upd a7 (m+1) c3),rfl,OO e2,OO e3,OO e4,OO e6,OO e1,OO e5⟩))
       | (refine EvZ.mk (i:=3) ?_
          rw[if_pos (by rfl)];refine O5 _ (.tmp 59) (.tmp 59) rfl _ _ n rfl rfl rfl rfl oM ?_;intro a3 ho M;obtain⟨gM,aw⟩:=eX (O.heap.size);rw[<- aw] at ho ⊢;have aB:Hid (wr.heap.size <= gM):=OO (by rw[aw];exact G.o.size);have FM:=OO ho;clear ho aw
          refine onZ 99 ?_)
       | (refine EvZ.mk (i:=4) ?_
          go_simp;refine(sK 1 dC dC _).mono ?_;rintro e a3 ⟨vx,rfl,U,M⟩;obtain⟨sx,Ax,lx,cx,tx,Bx,mx,dx,rfl⟩:=U.shape;have VX:Hid (eO a3 (.agg #[.bool sx, .slice Ax lx cx, .bool tx, .slice Bx mx dx]) 1):=OO (by have h:=U;simpa using h);clear U
          refine onZ 99 ?_)
       | (refine EvZ.mk (i:=5) ?_
          go_simp;obtain⟨gc,a4⟩:=eX (O.heap.size);obtain⟨a3,a0⟩:=eX (O.alloc (.cells #[.bool sx, .slice Ax lx cx, .bool tx, .slice Bx mx dx] 105));rw[<- a0, <- a4];have M:Below O.heap.size O a3:=by rw[a0];exact eD _ _
          have Rc:Hid (Row a3 gc 105 [.bool sx, .slice Ax lx cx, .bool tx, .slice Bx mx dx]):=OO (by rw[a0,a4];exact eP _ _);clear a0 a4
          refine onZ 99 ?_)
       | (refine EvZ.mk (i:=6) ?_
          rw[if_pos (by rfl)];refine wh _ (.tmp 60) (.tmp 62) rfl (.slice (some ⟨gM,0,none⟩) n n) n (inF m n A (m+1)) rfl (FM.o.congr (fun j hj=>(Oa hj).symm)) sx Ax lx cx tx Bx mx dx (by rw[O6];exact VX.o) gc Rc.o rfl oM ?_;intro va a3 ho T;obtain⟨A3,c3,rfl,ar⟩:=ho.shape;have ah:=T.base G.o.size (fun g hg=>by have:=aB.o;simp only[Value.ownBlock,Option.some.injEq] at hg;omega);replace G:=OO (G.o.trans (T.below (B:=wr.heap.size) G.o.size (fun g hg=>by have:=aB.o;simp only[Value.ownBlock,Option.some.injEq] at hg;omega)));obtain⟨g3,c4,hv,ai⟩:=ho.done oM;simp only[Value.slice.injEq,true_and] at hv;obtain⟨rfl,rfl⟩:=hv;have R3:=OO ai;have az:=OO ar;have aA:Hid (wr.heap.size <= g3):=OO (ah g3 rfl);clear ho T ah ai ar FM VX Rc
          refine onZ 98 ?_)
       | (refine EvZ.mk (i:=7) ?_
          go_simp;obtain⟨ga,a4⟩:=eX (O.heap.size);obtain⟨a3,a0⟩:=eX (O.alloc (.cells #[.slice (some ⟨g3,0,none⟩) (n+1) c3] 95));rw[<- a0, <- a4];have M:Below O.heap.size O a3:=by rw[a0];exact eD _ _
          have Ra:Hid (Row a3 ga 95 [.slice (some ⟨g3,0,none⟩) (n+1) c3]):=OO (by rw[a0,a4];exact eP _ _);clear a0 a4
          refine onZ 99 ?_)
       | (refine EvZ.mk (i:=8) ?_
          rw[if_pos (by rfl)];have ax:eY O (.slice Ar m cr) 95 m (O4 (n+1) (upd gr (m+1) g3) (upd a7 (m+1) c3)):=(eY.below OR.o G.o).newer;have aV:=ax;obtain⟨xs,a6,_⟩:=aV;refine vZ _ (.tmp 58) (.tmp 64) 96 rfl 95 iS (.slice none 0 0) 24 underlying96 bm bC bE bF rfl (.slice Ar m cr) m _ rfl ax (.slice (some ⟨g3,0,none⟩) (n+1) c3) rfl (by unfold O4;rw[Lp.upd_same,Lp.upd_same]) ga Ra.o rfl ⟨by unfold maxLen;omega,by omega⟩ ?_;intro va a3 ho T;obtain⟨ap,aq,rfl,_,_⟩:=ho.shape;have af:w2.heap.size <= O.heap.size:=Nat.le_trans a5.o.size G.o.size;have PN:=OO ((Z.o.below G.o Z.o.lt).turned T (fun e=>by obtain⟨_,U⟩:=qN a6 e;exact absurd ((Z.o.below G.o Z.o.lt).ty U) dC));have ab:=OO ((OQ.o.below G.o).turned T a6 dC (zl (fun g e=>(OQ.o.below G.o).row e) (fun g e=>qN a6 e) dC));have an:=OO (((RN.o.below G.o).add R3.o (Nat.le_trans a5.o.size aA.o) (fun e=>by have:=OQ.o.lt e;have:=aA.o;omega)).turned T a6 dC dC);have aa:=OO ((a5.o.trans (G.o.mono a5.o.size)).trans (T.below af LR.o));have ae:=OO ho;clear ho T a6 ax af R3 Ra G;obtain⟨O,rfl⟩:=eX (a3);refine OT E ?_
          clear E K)
       | (refine EvZ.mk (i:=10) ?_
          have q1:=aI 1 PN;have f1:=PN.o.free 1;have ql:=PN.o.lt;go_simp;refine OT E ?_
          clear E K)
       | (refine EvZ.mk (i:=99) ?_
          (try replace FM:=OO (FM.o.below M))
          (try replace VX:=OO (VX.o.below M))
          (try replace R3:=OO (R3.o.below M))
          (try replace Rc:=OO (Rc.o.below M Rc.o.lt))
          (try replace Ra:=OO (Ra.o.below M Ra.o.lt))
          (try replace G:=OO (G.o.trans (M.mono G.o.size)))
          clear M
          refine onZ 98 ?_)
       | (refine EvZ.mk (i:=98) ?_
          obtain⟨O,rfl⟩:=eX (a3);refine OV E ((Z.o.below G.o Z.o.lt).at_ 1 rfl) ?_
          clear E K)
     case rest=>
      clear OR OQ LR RN ag Z a5;obtain⟨Ar,cr,gr,a7,rfl,OR,OQ,RN,ag,Z,a5⟩:=hcut
      go_upto_region 11 with (fail)
      refine kT (fun w'=> w'.cell? ⟨gP,2,none⟩=some (.slice Ad m cd)) (fun i=>decide (4 <= i)) kR ?_;obtain⟨cf,ad⟩:=eX (wc.drew);rw[<- ad];have M:Below wc.heap.size wc cf:=by rw[ad];exact(Below.refl _ _).drew
      clear ad;have a9:=lH M;clear M;have hh:=(Z.o.below a9.o Z.o.lt).at_ 2 rfl;refine tKs 0 67 hh ?_;refine tKs 1 68 hh ?_;refine rD 2 (fun K E=> ?_);go_simp;refine(sK 1 dC dC _).mono ?_;rintro e aF ⟨vx,rfl,U,M⟩;obtain⟨sx,Ax,lx,cx,tx,Bx,mx,dx,rfl⟩:=U.shape;have VX:Hid (eO aF (.agg #[.bool sx, .slice Ax lx cx, .bool tx, .slice Bx mx dx]) 1):=lH (by have h:=U;simpa using h);clear U;replace a9:=bT a9 M;clear M;clear hh;have hh:=(Z.o.below a9.o Z.o.lt).at_ 2 rfl;refine kH E hh ?_;clear E K;refine rD 3 (fun K E=> ?_);go_simp;obtain⟨gc,a4⟩:=eX (aF.heap.size);obtain⟨aJ,a0⟩:=eX (aF.alloc (.cells #[.bool sx, .slice Ax lx cx, .bool tx, .slice Bx mx dx] 105));have M:Below aF.heap.size aF aJ:=by rw[a0];exact eD _ _
      have Rc:Hid (Row aJ gc 105 [.bool sx, .slice Ax lx cx, .bool tx, .slice Bx mx dx]):=lH (by rw[a0,a4];exact eP _ _);have cg:Hid (wc.heap.size <= gc):=lH (by rw[a4];exact a9.o.size);rw[<- a0, <- a4];clear a0 a4;replace VX:=lH (VX.o.below M);replace a9:=bT a9 M;clear M;clear hh;have hh:=(Z.o.below a9.o Z.o.lt).at_ 2 rfl;refine kH E hh ?_;clear E K;refine rD 4 (fun K E=> ?_);have bv:gH aJ (.slice Ad m cd) m (inB m bq):=(OQ.o.below a9.o).congr (fun j hj=>by unfold inB;rw[if_pos hj]);obtain⟨xs,a6,_⟩:=OQ.o.below a9.o;rw[if_pos (by rfl)];refine wh _ (.tmp 68) (.tmp 70) rfl (.slice Ad m cd) m (inB m bq) rfl bv sx Ax lx cx tx Bx mx dx (by unfold inB;rw[if_neg oM];exact VX.o) gc Rc.o rfl oM ?_;intro va aG ho T;obtain⟨am,ao,rfl,_,_⟩:=ho.shape;have af:w2.heap.size <= aJ.heap.size:=Nat.le_trans a5.o.size a9.o.size;have PN:Hid (Row aG gP 98 [.slice (some ⟨gO,0,none⟩) (n+1) cO, .slice Ar (m+1) cr, .slice Ad m cd]):=lH ((Z.o.below a9.o Z.o.lt).turned T (fun e=>by obtain⟨_,U⟩:=qN a6 e;exact absurd ((Z.o.below a9.o Z.o.lt).ty U) dC));have an:=lH ((RN.o.below a9.o).grow T a6 dC);have ae:=lH (eY.turned (eY.below OR.o a9.o) T (zl (fun g e=>eY.row (eY.below OR.o a9.o) e) (fun g e=>qN a6 e) dC));have aa:Hid (Below w2.heap.size w2 aG):=lH ((a5.o.trans (a9.o.mono a5.o.size)).trans (T.below af LQ.o));have ab:=lH ho;clear ho T a6 af bv Rc VX;refine kL E ?_;clear E K;refine tWs 5 72 ?_;refine rD 6 (fun K E=> ?_);have q1:=aI 2 PN;have f1:=PN.o.free 2;have ql:=PN.o.lt;go_simp;refine kL E ?_;clear E K;refine dN ?_ _;clear hh;clear q1 f1 ql;have hg:World.grownBy aG (aG.setCell ⟨gP,2,none⟩ (.slice am (m+1) ao)) (some gP):=grownBy_set _ _ _ _;have e1:=PN.o.set 2 (.slice am (m+1) ao);have e2:=ae.o.other hg (fun e=>by obtain⟨_,U⟩:=ae.o.row e;exact absurd (PN.o.ty U) dC);have e3:=ab.o.other hg PN.o dC (fun e=>by obtain⟨_,U⟩:=ab.o.row e;exact absurd (PN.o.ty U) dC);have e4:=an.o.other hg PN.o dC dC;have e5:=aa.o.grown hg aa.o.size (by have:=aL.o;first | (simp;done) | (simp;omega));obtain⟨wE,aC⟩:=eX ((aG.setCell ⟨gP,2,none⟩ (.slice am (m+1) ao)));rw[<- aC] at e1 e2 e3 e4 e5 ⊢;clear aC hg OR OQ RN Z a5 PN ae ab an aa;have OR:=lH e2;have OQ:=lH e3;have RN:=lH e4;have Z:Hid (Row wE gP 98 [.slice (some ⟨gO,0,none⟩) (n+1) cO, .slice Ar (m+1) cr, .slice am (m+1) ao]):=lH e1;have a5:=lH e5;clear e1 e2 e3 e4 e5;obtain⟨c6,c7,c9⟩:=aT3 Z.o;have cb:=Z.o.lt;go_wp2_with fail
      clear c6 c7 c9 cb;have bb:=lH (pO bO.o aQ.o (fun j _=>by show 1 <= Kl;exact HK.o.1) HL.o.1 HL.o.2);have he:(fun i=>inF m n A (i+1))=inA m n A:=funext fun i=>by unfold inF;rw[if_neg oM,Nat.add_sub_cancel]
      have b6:Hid (iD wE (.slice Ar (m+1) cr) (m+1) (n+1) (inA m n A)):=lH (by rw[<- he];exact Oz OR.o RN.o (fun j hj=>ag.o.2.2 (j+1) oM));have b7:Hid (eZ wE (.slice (some ⟨gO,0,none⟩) (n+1) cO) (n+1) (inC n)):=lH (by have h:=(RN.o 0 oM).1;rw[ag.o.1] at h;have hc:=ag.o.2.2 0 oM;rw[ag.o.2.1] at hc;exact⟨_,_,rfl,hc.1,hc.2, .inr ⟨_,rfl,h⟩⟩);clear he;have bn:∀i,i<m+1 -> ∀j,j<n+1 -> RL Kl (inA m n A i j):=fun i hi j hj=>by unfold inA;split;(· split;(· exact bb.o.2.1 i (by assumption) j (by assumption));exact RL.one.mono HK.o.1);split;(· exact RL.zero.mono HK.o.1);exact RL.one.mono HK.o.1
      have bo:∀i,i<m+1 -> RL Kl (inB m bq i):=fun i hi=>by unfold inB;split;(· exact bb.o.2.2 i (by assumption));exact RL.one.mono HK.o.1
      have bp:∀j,j<n+1 -> RL Kl (inC n j):=fun j hj=>by unfold inC;split;(· exact RL.zero.mono HK.o.1);exact RL.one.mono HK.o.1
      have aN:=lH (And.intro bn (And.intro bo bp));clear bn bo bp;refine(Cr (some ⟨gO,0,none⟩) Ar am (n+1) (m+1) cO cr ao Kl (inA m n A) (inB m bq) (inC n) _ b7.o aN.o.2.2 b6.o OQ.o.ky (by have:=au.o.1;omega) (by have:=au.o.2;omega) aN.o.1 aN.o.2.1 HK.o.1 (by have:=HK.o.2;omega)).mono ?_;rintro e wS ⟨V,rfl,hv,M⟩;replace HB:=lH (HB.o.trans ((a5.o.trans (M.mono a5.o.size)).mono HB.o.size));clear M b7 b6 OR OQ RN Z a5;have aO:Hid (∀kk:Int,1 <= kk /\ kk <= 3 -> ∀q x y d,kI (m+1) (n+1) kk (inA m n A) (inB m bq) (inC n) q x y d -> kk=1):=lH (fun kk hk q x y d h=>Ox hk h);cases hv with
      | inf Y cy y h1 h2 h3 h4=>exact absurd (aO.o 2 ⟨by decide,by decide⟩ 0 (fun _=>0) y (fun _=>0) ⟨fun e=>absurd e dC,fun _=>h4,fun e=>absurd e dC⟩) dC
      | unb P cp R cr x d h1 h2 h3 h4 h5 h6=>exact absurd (aO.o 3 ⟨by decide,by decide⟩ 0 x (fun _=>0) d ⟨fun e=>absurd e dC,fun e=>absurd e dC,fun _=>h6⟩) dC
      | opt s A' l c' t' B d f P cp Y cy q x y h1 h2 h3 h4 h5 h6 h7 h8=>
       subst h1;have VQ:=lH h2;have PX:=lH h3;have bg:=lH (And.intro h5 h6);have be:=lH h8;clear h2 h3 h4 h5 h6 h7 h8 aO;obtain⟨_,_,bw,c0,c1,_⟩:=PX.o;simp only[Value.slice.injEq] at bw;have aP:Hid (n+1 <= cp /\ cp <= maxLen):=lH (by obtain⟨_,_,e,a1,a2,_⟩:=PX.o;simp only[Value.slice.injEq] at e;obtain⟨_,_,rfl⟩:=e;exact⟨a1,a2⟩);clear bw c0 c1;obtain⟨wT,ac⟩:=eX (wS.alloc (.cells #[.int .i64 1, .bool s, .slice A' l c', .bool t', .slice B d f, .slice P (n+1) cp, .slice Y (m+1) cy, .slice none 0 0] 107));obtain⟨gV,ak⟩:=eX (wS.heap.size);have aj:Below wS.heap.size wS wT:=by rw[ac];exact eD _ _
       have OB:Hid (Row wT gV 107 [.int .i64 1, .bool s, .slice A' l c', .bool t', .slice B d f, .slice P (n+1) cp, .slice Y (m+1) cy, .slice none 0 0]):=lH (by rw[ac,ak];exact eP _ _);replace VQ:=lH (VQ.o.below aj);replace PX:=lH (PX.o.below aj);replace HB:=bT HB aj;have aX:=aI 0 OB;have aZ:=aI 1 OB;have b1:=aI 2 OB;have b3:=aI 3 OB;have b4:=aI 4 OB;have aD:=aI 5 OB;have aE:=OB.o.lt;rw[ac] at aX aZ b1 b3 b4 aD aE;rw[ak] at aX aZ b1 b3 b4 aD aE;go_wp2_with fail
       rw[<- ac, <- ak];clear ac ak aj aX aZ b1 b3 b4 aD aE;refine(fU _ q _ VQ.o).mono ?_;rintro e wU ⟨rfl,M⟩;replace OB:=rW OB M;replace PX:=lH (PX.o.below M);replace HB:=bT HB M;clear M;by_cases ay:0<q
       ·have hd:decide (sgI q.num <= 0)=false:=decide_eq_false (by have:=AQ.2 (vR.2 ay);omega);have aR:=lH ay;clear ay;have bY:((n:Nat):Int) <= ((n+1:Nat):Int):=oM
        have bZ:((n:Nat):Int) <= ((cp:Nat):Int):=by have:=aP.o;omega
        have aD:=aI 5 OB;have aE:=OB.o.lt;go_wp2_with fail
        clear hd bY bZ aD aE;have bM:Hid (eZ wU (.slice P n cp) n x):=lH (by obtain⟨g0,rfl,ai⟩:=PX.o.at_ oM;exact(ai.take oM).ky (by have:=aP.o;omega) aP.o.2);refine(om _ n (Lp.wide (m+1) (n+1) Kl+1) x _ bM.o (by have:=au.o.1;omega) (fun j hj=>bg.o.2 j oM) HK.o.2 (bR.o.below HB.o)).mono ?_;rintro e wV ⟨g,rfl,_,bA,M⟩;replace HB:=bT HB M;have bQ:=lH bA;clear M bA;go_wp2_with fail
        go_returns;refine⟨.inr ⟨bf.o,A,bq,c,q,x,y,fun _=>0,(by rw[av.o];exact aQ.o),(by rw[av.o];exact⟨fun _=>be.o,fun e=>absurd e dC,fun e=>absurd e dC⟩), .inl ⟨aR.o,some ⟨g,0,none⟩,n,?_,?_,?_⟩⟩,HB.o⟩
        ·rw[av.o];rfl
        ·rw[av.o];exact bQ.o.ts (Nat.le_refl _) (by have:=au.o.1;unfold maxLen;omega)
        ·rw[av.o];exact fun j hj=>bg.o.2 j oM
       ·have hd:decide (sgI q.num <= 0)=true:=decide_eq_true (by have:=mt AQ.1 (fun h=>ay (vR.1 h));omega);have aR:Hid (q <= 0):=lH (Rat.not_lt.1 ay);clear ay;go_wp2_with fail
        go_returns;exact⟨.inr ⟨bf.o,A,bq,c,q,x,y,fun _=>0,(by rw[av.o];exact aQ.o),(by rw[av.o];exact⟨fun _=>be.o,fun e=>absurd e dC,fun e=>absurd e dC⟩), .inr ⟨aR.o,rfl⟩⟩,HB.o⟩
end Go.Proofs.YtdefghfjhgmpfaaGreatDoor
