/- Parts of this proof: ChM Grow SMag. -/
import Derived.Test.YtokagbahdkfagaaGreatDoorMBG
import Derived.Test.YtokagbahdkfagaaGreatDoorMAR
import Derived.Test.YtokagbahdkfagaaGreatDoorMAP
import Derived.Laws.IdiomStrings
namespace Go.Proofs.YtokagbahdkfagaaGreatDoor
open Go.Proofs.Tryz
section
open Go.RowKit
open Lp (RL upd eH)
def Half(B:Nat)(q:Rat):Prop:=∃z:Int,z.natAbs <= B /\ q*2=(z:Rat)
section
variable {B C:Nat} {p q:Rat}
theorem Half.mono(h:Half B q)(t:B <= C):Half C q:=by obtain⟨z,h1,r⟩:=h;exact⟨z,by omega,r⟩
theorem Half.add(h:Half B q)(r:Half C p):Half (B+C) (q+p):=by
 obtain⟨z,h1,t⟩:=h;obtain⟨y,E,G⟩:=r;exact⟨z+y,by omega,by rw[Rat.intCast_add];grind⟩
theorem Half.neg(h:Half B q):Half B (-q):=by
 obtain⟨z,h1,r⟩:=h;exact⟨-z,by omega,by rw[Rat.intCast_neg];grind⟩
theorem Half.sub(h:Half B q)(r:Half C p):Half (B+C) (q-p):=by rw[Rat.sub_eq_add_neg];exact h.add r.neg
theorem Half.zero:Half 0 0:=⟨0,by decide,by decide+kernel⟩
theorem Half.int(z:Int)(h:z.natAbs <= B):Half (2*B) (z:Rat):=⟨2*z,by omega,by rw[Rat.intCast_mul];grind⟩
theorem Half.Jp(h:Half B q)(z:Int)(r:z.natAbs <= C):Half (B*C) (q* (z:Rat)):=by
 obtain⟨y,h1,t⟩:=h;exact⟨y*z,by rw[Int.natAbs_mul];exact Nat.mul_le_mul h1 r,by rw[Rat.intCast_mul];grind⟩
theorem Half.Jq(z:Int)(h:z.natAbs <= B):Half B ((z:Rat) / 2):=⟨z,h,by grind⟩
theorem Half.rl(h:Half B q)(t:B<10000000):RL 7 q:=by
 obtain⟨z,h1,r⟩:=h;have e:q=Rat.divInt z 2:=by rw[Rat.divInt_eq_div];show q=(z:Rat) / ((2:Int):Rat);rw[show((2:Int):Rat)=2 from rfl];grind
 rw[e];exact Lp.xL dC oM dC
theorem Half.size(h:Half B q)(r:B<10000000):(eB q).size <= 20:=by have:=ky (h.rl r);omega
end
theorem Jd{q:Rat}(h:(eB q).size <= 400):gm (eB q).data.toList=0:=by
 unfold gm;rw[if_neg (by rw[<- zi];omega),jA,nC]
structure IX (n:Nat) (F:Frm):Prop where
 few:F.N <= n
 dim:∀k,k<F.N -> 0 <= F.d k /\ F.d k<(n:Nat)
 inc:∀k,k+1<F.N -> F.d k<F.d (k+1)
 fac:∀k,k<F.N -> ∃q,F.f k=eB q /\ q≠0 /\ Half 6 q
def J2(F:Frm):Prop:=∃q,F.c=eB q /\ Half 1000000 q
theorem IX.tok{n:Nat}{F:Frm}(h:IX n F)(O:n <= 64):TOk (n:Nat) F:=by
 refine⟨by have:=h.few;omega,fun k r=> ?_⟩;obtain⟨q,e,h0,E⟩:=h.fac k r;have M:=h.dim k r;unfold fG;rw[if_neg oM,if_neg,e,Jd (Nat.le_trans (E.size dC) dC),if_neg (by simp),if_neg]
 ·rw[jA,show [48]=fB 0 by kernel_rfl];exact fun e=>h0 (kZ e)
 ·rintro⟨h1,G⟩;have t:=h.inc (k-1) oM;rw[show k-1+1=k by omega] at t;omega
theorem IX.fok{n:Nat}{F:Frm}(h:IX n F)(E:n <= 64)(r:J2 F):FOk (n:Nat) F:=by
 obtain⟨q,e,t⟩:=r;exact⟨h.tok E,by omega,by omega,by rw[e];exact Jd (Nat.le_trans (t.size dC) dC)⟩
theorem IX.form{n:Nat}{F:Frm}(h:IX n F)(t:n <= 64)(r:J2 F):iL (n:Nat) F=0:=(h.fok t r).zero
theorem IX.size{n:Nat}{F:Frm}(h:IX n F):∀k,k<F.N -> (F.f k).size <= 20:=fun k t=>by
 obtain⟨q,e,h0,r⟩:=h.fac k t;rw[e];exact r.size dC
theorem J2.size{F:Frm}(h:J2 F):F.c.size <= 20:=by obtain⟨q,e,r⟩:=h;rw[e];exact r.size dC
theorem IX.half{n:Nat}{F:Frm}(h:IX n F):∀k,k<F.N -> Half 6 (qof (F.f k)):=fun k t=>by
 obtain⟨q,e,h0,r⟩:=h.fac k t;rw[e,zo];exact r
theorem IX.val{n M B:Nat}{F:Frm}(h:IX n F)(r:Half B (qof F.c))(x:Nat -> Int)(t:∀k,k<n -> (x k).natAbs <= M):∀k,k <= F.N -> Half (B+k* (6*M)) (fw F (fun j=>(x j:Rat)) k):=by
 intro k
 induction k with
 | zero=>intro _;rw[Nat.zero_mul];exact r
 | succ k E=>
  intro O;have G:=h.dim k oM;have h1:=((h.half k oM).Jp (x (F.d k).toNat) (t _ oM));rw[fw,Nat.succ_mul, <- Nat.add_assoc];exact(E oM).add h1
def nmT(c i:Nat):ByteArray:=⟨#[UInt8.ofNat c,UInt8.ofNat (48+i)]⟩
structure ChP (nL:Nat) (P:Prb):Prop where
 n:P.n=min nL 5
 m:P.m <= 2
 s:P.s=nmT 100
 t:P.t=nmT 116
 dim:∀k,k<P.n -> (-12800 <= P.a k /\ P.a k <= 12700) /\ (-128 <= P.l k /\ P.l k <= 0) /\ (0 <= P.u k /\ P.u k <= 128)
 frm:∀i,i<P.m -> IX P.n (P.F i) /\ J2 (P.F i)
theorem Je(c:Nat)(h:c=100 \/ c=116)(k:Nat)(r:k<5):jg (kT (nmT c) k) (nmT c k)=0:=by
 have:k=0 \/ k=1 \/ k=2 \/ k=3 \/ k=4:=oM
 rcases h with rfl | rfl <;> rcases this with rfl | rfl | rfl | rfl | rfl <;> decide+kernel
theorem J9{z:Int}(h: -1073741824 <= z /\ z <= 1073741824):jM z=true:=by unfold jM;simpa using h
theorem ChP.n5{nL:Nat}{P:Prb}(h:ChP nL P):P.n <= 5:=by rw[h.n];exact Nat.min_le_right _ _
theorem ChP.check{nL:Nat}{P:Prb}(h:ChP nL P):iA P=0:=by
 have R:=h.n5;have O:=h.m;unfold iA
 have h1:fE P.n (gW P.s P.a P.l P.u)=0:=jw.2 fun k r=>by
  have M:=h.dim k r;unfold gW;rw[h.s,Je 100 (.inl rfl) k oM,if_neg (by simp),if_neg,if_neg oM];rw[J9 oM,J9 oM,J9 oM];simp
 rw[if_neg oM,h1,if_neg (by simp)];refine jw.2 fun k r=> ?_
 obtain⟨E,G⟩:=h.frm k r;unfold jP;rw[h.t,Je 116 (.inr rfl) k oM,if_neg (by simp),E.form oM G]
end
section
open Go.RowKit
theorem Jf:(prog.info? 126).map (fun i=>(i.zero,i.size,i.bytes))=some (some (.agg #[.int .i64 0, .string ⟨#[]⟩]),2,24):=by kernel_rfl
theorem Jr:(prog.info? 76).map (fun i=>(i.zero,i.size,i.bytes))=some (some (.agg #[.string ⟨#[]⟩, .int .i64 0, .int .i64 0, .int .i64 0]),4,40):=by kernel_rfl
theorem Js:(prog.info? 120).map (fun i=>(i.zero,i.size,i.bytes))=some (some (.agg #[.string ⟨#[]⟩, .string ⟨#[]⟩, .slice none 0 0]),3,56):=by kernel_rfl
theorem JK:(prog.info? 25).map (fun i=>(i.zero,i.size,i.bytes))=some (some (.agg #[.string ⟨#[]⟩, .slice none 0 0]),2,40):=by kernel_rfl
def IW(w:World)(v:Value)(e:TypeId)(z q:Nat)(c:Nat -> Nat -> Value):Prop:=∃xs,w.ownsRow 0 e z v q xs /\ ∀i,i<q -> ∀j,j<z -> xs[i*z+j]? =some (c i j)
section
variable {w w':World} {v v':Value} {e:TypeId} {z q:Nat} {c c':Nat -> Nat -> Value}
theorem IW.nil(w:World)(e:TypeId)(z:Nat)(c:Nat -> Nat -> Value):IW w (.slice none 0 0) e z 0 c:=⟨[],World.ownsRow_nil _ _ _ _,fun i h=>absurd h oM⟩
theorem IW.shape(h:IW w v e z q c):∃A k,v= .slice A q k /\ q <= k /\ k <= maxLen:=by obtain⟨xs,r,_⟩:=h;exact om r
theorem IW.row(h:IW w v e z q c){g:Nat}(r:v.ownBlock=some g):∃cs,Row w g e cs:=by obtain⟨xs,t,_⟩:=h;exact qU t r
theorem IW.lt(h:IW w v e z q c){g:Nat}(r:v.ownBlock=some g):g<w.heap.size:=by obtain⟨_,t⟩:=h.row r;exact t.lt
theorem IW.grown{r:Option Nat}(h:IW w v e z q c)(t:w.grownBy w' r)(E:∀g,v.ownBlock=some g -> r≠some g):IW w' v e z q c:=by
 obtain⟨xs,G,M⟩:=h;exact⟨xs,jr G t E,M⟩
theorem IW.below(h:IW w v e z q c)(r:Below w.heap.size w w'):IW w' v e z q c:=h.grown (below_grown r) (by simp)
theorem IW.other{g:Nat}{e':TypeId}{cs:List Value}(h:IW w v e z q c)(G:w.grownBy w' (some g))(M:Row w g e' cs)(E:e'≠e):IW w' v e z q c:=
 h.grown G fun R t r=>by
  simp only[Option.some.injEq] at r;subst r;obtain⟨_,O⟩:=h.row t;exact E (M.ty O)
theorem IW.turned{u u':Value}{e':TypeId}{U T:Nat}{d:Nat -> Nat -> Value}(h:IW w v e z q c)(G:Turned w w' u u')(M:IW w u e' U T d)(E:e'≠e):IW w' v e z q c:=
 h.grown G.grown fun V t r=>by
  obtain⟨_,O⟩:=h.row t;obtain⟨_,R⟩:=M.row r;exact E (R.ty O)
theorem IW.ne(h:IW w v e z q c){g:Nat}{e':TypeId}{cs:List Value}(E:Row w g e' cs)(t:e'≠e):v.ownBlock≠some g:=fun r=>by
 obtain⟨_,G⟩:=h.row r;exact t (E.ty G)
theorem IW.done(h:IW w v e z q c)(V:0<q):∃g k,v= .slice (some ⟨g,0,none⟩) q k /\ ∀i,i<q -> ∀j,j<z -> w.cell? ⟨g,i*z+j,none⟩=some (c i j):=by
 obtain⟨xs,r,O⟩:=h;have U:=r.1
 rcases r.2 with ⟨_,T⟩ | ⟨g,cap,R,E,_⟩
 ·omega
 ·refine⟨g,cap,E,fun i t j M=> ?_⟩;subst E
  have G:i*z+j<q*z:=by
   have h1:(i+1)*z <= q*z:=Nat.mul_le_mul_right z t;rw[Nat.succ_mul] at h1;omega
  rw[World.ownsRow.cellAt r (i*z+j) G];exact O i t j M
end
theorem J7{P:Program}(w:World){o:Oper}{a:Act}{K:Act -> World -> Prop}{Q:Exit -> Act -> World -> Prop}(s x:Operand)(t:TypeId)
  (X:o.op= .call {callee:= .builtin .append,args:= #[s,x],argTypes:= #[t,t]})
  (e:TypeId) (i:TypeInfo) (z:Value) (size G:Nat) (ht:P.underlying t=some (.slice e)) (U: P.info? e=some i) (hz:i.zero=some z)
  (a1:i.size=size) (R:i.bytes=G) (a4:z.cells.size=size) (a2:0<size)
  (v:Value) (q:Nat) (c c':Nat -> Nat -> Value) (hs:a.eval s=v) (Y:IW w v e size q c) (E:List Value) (V:E.length=size)
  (T:∀i,i<q -> ∀j,j<size -> c i j=c' i j) (W:∀j,j<size -> E[j]? =some (c' q j)) (h1:∀u ∈ E,u.oneCell'=true)
  (g:Nat) (hr:Row w g e E) (hx:a.eval x= .slice (some ⟨g,0,none⟩) 1 1) (M:q+1 <= maxLen /\ (q+1)*G <= 140737488355328)
  (h:∀v' w',IW w' v' e size (q+1) c' -> Turned w w' v v' -> K (a.put o.dst v') w'):Oper.wp P o a w K Q:=by
 obtain⟨xs,O,a0⟩:=Y;have a5:=O.1;refine nO w s x t X e i z size G ht U hz a1 R a4 a2 v q xs hs O ⟨g,0,none⟩ 1 1 E hx (by rw[V,Nat.one_mul]) ?_ h1 M.1 M.2 ?_
 ·intro j y r;rw[add0];exact hr.at_ j r
 ·intro v' w' Z a3;refine h v' w' ⟨_,Z,fun k hk j r=> ?_⟩ a3;by_cases ek:k=q
  ·subst ek;rw[List.getElem?_append_right oM,show k*size+j-xs.length=j by omega];exact W j r
  ·have h1:(k+1)*size <= q*size:=Nat.mul_le_mul_right size oM;rw[Nat.succ_mul] at h1;rw[List.getElem?_append_left oM,a0 k oM j r,T k oM j r]
def cT(d:Nat -> Int)(f:Nat -> ByteArray)(i j:Nat):Value:=if j=0 then .int .i64 (d i) else .string (f i)
def cD(s:Nat -> ByteArray)(a l u:Nat -> Int)(i j:Nat):Value:=if j=0 then .string (s i) else if j=1 then .int .i64 (a i) else if j=2 then .int .i64 (l i) else .int .i64 (u i)
def cC(s:Nat -> ByteArray)(c:Nat -> ByteArray)(v:Nat -> Value)(i j:Nat):Value:=if j=0 then .string (s i) else if j=1 then .string (c i) else v i
def cF(c:Nat -> ByteArray)(v:Nat -> Value)(i j:Nat):Value:=if j=0 then .string (c i) else v i
section
variable {w:World} {v:Value} {q:Nat}
theorem IW.tt{d:Nat -> Int}{f:Nat -> ByteArray}(h:IW w v 126 2 q (cT d f)):TT w v q d f:=by
 obtain⟨A,k,rfl,h1,G⟩:=h.shape;refine⟨A,k,rfl,h1,G,?_⟩
 rcases Nat.eq_zero_or_pos q with h0 | h0
 ·exact .inl h0
 ·obtain⟨g,k',E,r⟩:=h.done h0;simp only[Value.slice.injEq,true_and] at E;exact .inr ⟨g,0,E.1,fun j t=>⟨by rw[Nat.zero_add];exact r j t 0 dC,by rw[Nat.zero_add];exact r j t 1 dC⟩⟩
theorem IW.td{s:Nat -> ByteArray}{a l u:Nat -> Int}(h:IW w v 76 4 q (cD s a l u)):TD w v q s a l u:=by
 obtain⟨A,k,rfl,h1,G⟩:=h.shape;refine⟨A,k,rfl,h1,G,?_⟩
 rcases Nat.eq_zero_or_pos q with h0 | h0
 ·exact .inl h0
 ·obtain⟨g,k',E,r⟩:=h.done h0;simp only[Value.slice.injEq,true_and] at E;refine .inr ⟨g,0,E.1,fun j t=> ?_⟩;rw[Nat.zero_add];exact⟨r j t 0 dC,r j t 1 dC,r j t 2 dC,r j t 3 dC⟩
theorem IW.tc{s:Nat -> ByteArray}{F:Nat -> Frm}{u:Nat -> Value}(h:IW w v 120 3 q (cC s (fun i=>(F i).c) u))(M:∀i,i<q -> TT w (u i) (F i).N (F i).d (F i).f):TC w v q s F:=by
 obtain⟨A,k,rfl,h1,G⟩:=h.shape;refine⟨A,k,rfl,h1,G,?_⟩
 rcases Nat.eq_zero_or_pos q with h0 | h0
 ·exact .inl h0
 ·obtain⟨g,k',E,t⟩:=h.done h0;simp only[Value.slice.injEq,true_and] at E;refine .inr ⟨g,0,E.1,fun j r=>⟨u j,?_,?_,?_,M j r⟩⟩
  ·rw[Nat.zero_add];exact t j r 0 dC
  ·rw[Nat.zero_add];exact t j r 1 dC
  ·rw[Nat.zero_add];exact t j r 2 dC
end
theorem Jg{d:Nat -> Int}{f:Nat -> ByteArray}{q:Nat}{a:Int}{b:ByteArray}(i:Nat)(h:i<q)(j:Nat)(_:j<2):cT d f i j=cT (Lp.upd d q a) (Lp.upd f q b) i j:=by
 unfold cT;rw[Lp.eQ _ _ oM,Lp.eQ _ _ oM]
theorem Jh{d:Nat -> Int}{f:Nat -> ByteArray}{q:Nat}{a:Int}{b:ByteArray}(j:Nat)(h:j<2):([.int .i64 a, .string b]:List Value)[j]? =some (cT (Lp.upd d q a) (Lp.upd f q b) q j):=by
 unfold cT;rw[Lp.upd_same,Lp.upd_same];have:j=0 \/ j=1:=oM
 rcases this with rfl | rfl <;> rfl
theorem Jt{s:Nat -> ByteArray}{a l u:Nat -> Int}{q:Nat}(j:Nat)(h:j<4):([.string (s q), .int .i64 (a q), .int .i64 (l q), .int .i64 (u q)]:List Value)[j]? =some (cD s a l u q j):=by
 have:j=0 \/ j=1 \/ j=2 \/ j=3:=oM
 rcases this with rfl | rfl | rfl | rfl <;> rfl
def TTN(w:World)(v:Value)(n:Nat)(d:Nat -> Int)(f:Nat -> ByteArray):Prop:=TT w v n d f /\ (n=0 \/ ∃g o c cs,v= .slice (some ⟨g,o,none⟩) n c /\ Row w g 126 cs)
section
variable {w w':World} {v u u':Value} {n:Nat} {d:Nat -> Int} {f:Nat -> ByteArray}
theorem IW.ttn(h:IW w v 126 2 n (cT d f)):TTN w v n d f:=by
 refine⟨h.tt,?_⟩
 rcases Nat.eq_zero_or_pos n with h0 | h0
 ·exact .inl h0
 ·obtain⟨g,k,rfl,_⟩:=h.done h0;obtain⟨cs,r⟩:=h.row rfl;exact .inr ⟨g,0,k,cs,rfl,r⟩
theorem TTN.below(h:TTN w v n d f)(r:Below w.heap.size w w'):TTN w' v n d f:=⟨h.1.below r,h.2.imp id fun⟨g,o,c,cs,E,t⟩=>⟨g,o,c,cs,E,t.below r t.lt⟩⟩
theorem TTN.kept{r:Option Nat}(h:TTN w v n d f)(M:w.grownBy w' r)(O:∀g cs,Row w g 126 cs -> r≠some g):TTN w' v n d f:=by
 rcases h.2 with h0 | ⟨g,o,c,cs,rfl,E⟩
 ·obtain⟨A,c,rfl,h1,t⟩:=h.1.shape;exact⟨⟨A,c,rfl,h1,t, .inl h0⟩, .inl h0⟩
 ·rcases Nat.eq_zero_or_pos n with h0 | h0
  ·obtain⟨A,c',G,h1,t⟩:=h.1.shape;exact⟨⟨_,c',G,h1,t, .inl h0⟩, .inl h0⟩
  have V:Row w' g 126 cs:=(M.block g E.lt (fun e=>O g cs E e.symm)).trans E;obtain⟨A,c',G,h1,t⟩:=h.1.shape;obtain⟨g',W,R,T⟩:=TT.at_ (A:=some ⟨g,o,none⟩) h.1 h0;simp only[Option.some.injEq,Addr.mk.injEq,and_true] at R;obtain⟨rfl,rfl⟩:=R;refine⟨⟨_,c',G,h1,t, .inr ⟨g,o,by simp only[Value.slice.injEq,true_and] at G;exact G.1.symm,fun j U=> ?_⟩⟩, .inr ⟨g,o,c,cs,rfl,V⟩⟩;exact⟨M.cell (T j U).1 (fun e=>O g cs E e.symm),M.cell (T j U).2 (fun e=>O g cs E e.symm)⟩
theorem TTN.other{g:Nat}{e:TypeId}{cs:List Value}(h:TTN w v n d f)(E:w.grownBy w' (some g))(G:Row w g e cs)(t:e≠126):TTN w' v n d f:=
 h.kept E fun g' O M r=>by
  simp only[Option.some.injEq] at r;subst r;exact t (G.ty M)
theorem TTN.turned{e:TypeId}{z q:Nat}{c:Nat -> Nat -> Value}(h:TTN w v n d f)(M:Turned w w' u u')(O:IW w u e z q c)(E:e≠126):TTN w' v n d f:=
 h.kept M.grown fun _ _ G r=>O.ne G (fun t=>E t.symm) r
end
end
section
open Go.RowKit
set_option maxRecDepth 100000 in
set_option maxHeartbeats 12800000 in
theorem Ji(z:Int)(h: -128 <= z /\ z <= 127)(w:World):
  Calls prog 64 #[.int .i8 z] w fun e w'=>e= .returned (.int .i64 (z.natAbs:Nat)) /\ Below w.heap.size w w':=by
 have h1: -128 <= z:=h.1;have r:z <= 127:=h.2;go_enter func64,ntmps64;go_wp2_with fail
 go_returns;exact⟨by first | (congr 1;congr 1;omega) | (simp;omega),Below.refl _ _⟩
theorem IY(w:World)(x y:UInt8)(a b:Int)(r:a=(x.toNat:Int))(t:b=(y.toNat:Int)):
  (convert 176 9 (.slice (some ⟨w.heap.size,0,none⟩) 2 2)).run prog (w.alloc (.cells #[.int .u8 a, .int .u8 b] 5))= .ok (.string ⟨#[x,y]⟩) (w.alloc (.cells #[.int .u8 a, .int .u8 b] 5)):=by
 have h:Row (w.alloc (.cells #[.int .u8 a, .int .u8 b] 5)) w.heap.size 5 [.int .u8 a, .int .u8 b]:=eO _ _;refine run_convert_bytes_back (P:=prog) _ 176 9 5 ⟨w.heap.size,0,none⟩ 2 [x,y] underlying176 underlying5 underlying9 ?_;intro j E;have:j=0 \/ j=1:=by simp only[List.length_cons,List.length_nil] at E;omega
 rw[add0]
 rcases this with rfl | rfl
 ·rw[h.at_ 0 rfl,r];rfl
 ·rw[h.at_ 1 rfl,t];rfl
set_option maxRecDepth 100000 in
set_option maxHeartbeats 12800000 in
theorem Jj(c i:Nat)(r:c=100 \/ c=114 \/ c=116)(t:i<5)(w:World):
  Calls prog 63 #[.int .u8 c, .int .i64 i] w fun e w'=>e= .returned (.string (nmT c i)) /\ Below w.heap.size w w':=by
 have:i=0 \/ i=1 \/ i=2 \/ i=3 \/ i=4:=oM
 rcases r with rfl | rfl | rfl <;> rcases this with rfl | rfl | rfl | rfl | rfl
 ·have h:=IY w 100 48 100 48 rfl rfl;go_enter func63,ntmps63;go_wp2_with fail
  go_returns;exact⟨rfl,eD _ _⟩
 ·have h:=IY w 100 49 100 49 rfl rfl;go_enter func63,ntmps63;go_wp2_with fail
  go_returns;exact⟨rfl,eD _ _⟩
 ·have h:=IY w 100 50 100 50 rfl rfl;go_enter func63,ntmps63;go_wp2_with fail
  go_returns;exact⟨rfl,eD _ _⟩
 ·have h:=IY w 100 51 100 51 rfl rfl;go_enter func63,ntmps63;go_wp2_with fail
  go_returns;exact⟨rfl,eD _ _⟩
 ·have h:=IY w 100 52 100 52 rfl rfl;go_enter func63,ntmps63;go_wp2_with fail
  go_returns;exact⟨rfl,eD _ _⟩
 ·have h:=IY w 114 48 114 48 rfl rfl;go_enter func63,ntmps63;go_wp2_with fail
  go_returns;exact⟨rfl,eD _ _⟩
 ·have h:=IY w 114 49 114 49 rfl rfl;go_enter func63,ntmps63;go_wp2_with fail
  go_returns;exact⟨rfl,eD _ _⟩
 ·have h:=IY w 114 50 114 50 rfl rfl;go_enter func63,ntmps63;go_wp2_with fail
  go_returns;exact⟨rfl,eD _ _⟩
 ·have h:=IY w 114 51 114 51 rfl rfl;go_enter func63,ntmps63;go_wp2_with fail
  go_returns;exact⟨rfl,eD _ _⟩
 ·have h:=IY w 114 52 114 52 rfl rfl;go_enter func63,ntmps63;go_wp2_with fail
  go_returns;exact⟨rfl,eD _ _⟩
 ·have h:=IY w 116 48 116 48 rfl rfl;go_enter func63,ntmps63;go_wp2_with fail
  go_returns;exact⟨rfl,eD _ _⟩
 ·have h:=IY w 116 49 116 49 rfl rfl;go_enter func63,ntmps63;go_wp2_with fail
  go_returns;exact⟨rfl,eD _ _⟩
 ·have h:=IY w 116 50 116 50 rfl rfl;go_enter func63,ntmps63;go_wp2_with fail
  go_returns;exact⟨rfl,eD _ _⟩
 ·have h:=IY w 116 51 116 51 rfl rfl;go_enter func63,ntmps63;go_wp2_with fail
  go_returns;exact⟨rfl,eD _ _⟩
 ·have h:=IY w 116 52 116 52 rfl rfl;go_enter func63,ntmps63;go_wp2_with fail
  go_returns;exact⟨rfl,eD _ _⟩
end
end Go.Proofs.YtokagbahdkfagaaGreatDoor
