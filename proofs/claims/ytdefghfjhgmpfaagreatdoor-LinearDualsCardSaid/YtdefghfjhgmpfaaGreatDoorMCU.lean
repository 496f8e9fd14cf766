/- Parts of this proof: DualM Dual. -/
import Derived.Test.YtdefghfjhgmpfaaGreatDoorMCJ
import Derived.Test.YtdefghfjhgmpfaaGreatDoorMAE
import Derived.Test.YtdefghfjhgmpfaaGreatDoorMAZ
import Derived.Test.YtdefghfjhgmpfaaGreatDoorMAV
namespace Go.Proofs.YtdefghfjhgmpfaaGreatDoor
open Go.Proofs.Tryz
section
open Go.RowKit
open Lp (RL upd eu eB sumTo sumTo_congr)
theorem MN(n m:Nat)(f:Nat -> Rat):sumTo (2*n+m) f=sumTo n (fun k=>f (2*k)+f (2*k+1))+sumTo m (fun i=>f (2*n+i)):=by
 rw[Ko]
 have h:sumTo (2*n) f=sumTo n (fun k=>f (2*k)+f (2*k+1)):=by
  induction n with
  | zero=>rfl
  | succ n t=>rw[show 2* (n+1)=2*n+1+1 by omega];simp only[sumTo];rw[t];grind
 rw[h]
theorem MO(m j:Nat)(g:Nat -> Rat):sumTo m (fun i=>if i=j then g i else 0)=if j<m then g j else 0:=by
 induction m with
 | zero=>rfl
 | succ m t=>
  simp only[sumTo];rw[t];by_cases h:j<m
  ·rw[if_pos h,if_neg (show ¬m=j by omega),if_pos (show j<m+1 by omega)];grind
  ·rw[if_neg h];by_cases e:m=j
   ·subst e;rw[if_pos rfl,if_pos (show m<m+1 by omega)];grind
   ·rw[if_neg e,if_neg (show ¬j<m+1 by omega)];grind
def duA(n:Nat)(A:Nat -> Nat -> Rat)(r i:Nat):Rat:=if r<2*n then(if r%2=0 then A i (r / 2) else -(A i (r / 2))) else(if i=r-2*n then -1 else 0)
def duB(n:Nat)(c:Nat -> Rat)(r:Nat):Rat:=if r<2*n then(if r%2=0 then c (r / 2) else -(c (r / 2))) else 0
def MH(q:Rat):Rat:=if 0 <= q then q else 0
def duZ(n:Nat)(x s:Nat -> Rat)(r:Nat):Rat:=if r<2*n then(if r%2=0 then MH (-(x (r / 2))) else MH (x (r / 2))) else s (r-2*n)
theorem Na(q:Rat):0 <= MH q:=by unfold MH;split <;> grind
theorem MV(q:Rat):MH (-q)-MH q= -q:=by unfold MH;split <;> split <;> grind
section
variable {m n:Nat} {kk kk':Int} {A:Nat -> Nat -> Rat} {b c x y d s z x' y' d':Nat -> Rat} {q q':Rat}
theorem MJ{k:Nat}(h:k<n)(i:Nat):duA n A (2*k) i=A i k:=by unfold duA;rw[if_pos oM,if_pos oM,show 2*k / 2=k by omega]
theorem MK{k:Nat}(h:k<n)(i:Nat):duA n A (2*k+1) i= -(A i k):=by unfold duA;rw[if_pos oM,if_neg oM,show(2*k+1) / 2=k by omega]
theorem ML(j i:Nat):duA n A (2*n+j) i=if i=j then -1 else 0:=by unfold duA;rw[if_neg oM,show 2*n+j-2*n=j by omega]
theorem MP{k:Nat}(h:k<n):duB n c (2*k)=c k:=by unfold duB;rw[if_pos oM,if_pos oM,show 2*k / 2=k by omega]
theorem MQ{k:Nat}(h:k<n):duB n c (2*k+1)= -(c k):=by unfold duB;rw[if_pos oM,if_neg oM,show(2*k+1) / 2=k by omega]
theorem MR(j:Nat):duB n c (2*n+j)=0:=by unfold duB;rw[if_neg oM]
theorem MW{k:Nat}(h:k<n):duZ n x s (2*k)=MH (-(x k)):=by unfold duZ;rw[if_pos oM,if_pos oM,show 2*k / 2=k by omega]
theorem MX{k:Nat}(h:k<n):duZ n x s (2*k+1)=MH (x k):=by unfold duZ;rw[if_pos oM,if_neg oM,show(2*k+1) / 2=k by omega]
theorem Nb(j:Nat):duZ n x s (2*n+j)=s j:=by unfold duZ;rw[if_neg oM,show 2*n+j-2*n=j by omega]
theorem MI(k:Nat)(f:Nat -> Rat):sumTo k (fun i=> -(f i))= -(sumTo k f):=by
 have h:=Lp.mR k (-1) f;rw[show(-1:Rat)*sumTo k f= -(sumTo k f) by grind] at h;rw[<- h];exact sumTo_congr fun i _=>by grind
theorem Nc(h:Lp.jc m n A y c):Lp.jC (2*n+m) m (duA n A) (duB n c) y:=fun r F=>by
 by_cases h1:r<2*n
 ·obtain⟨k,t,e | e⟩:∃k,k<n /\ (r=2*k \/ r=2*k+1):=⟨r / 2,by omega,by omega⟩
  ·subst e;have e:eB m (duA n A (2*k)) y=c k:=by rw[<- h.sum k t];exact sumTo_congr fun i _=>by rw[MJ t];grind
   rw[MP t,e];exact Rat.le_refl
  ·subst e;have e:eB m (duA n A (2*k+1)) y= -(c k):=by rw[<- h.sum k t];unfold eB;rw[<- MI];exact sumTo_congr fun i _=>by rw[MK t];grind
   rw[MQ t,e];exact Rat.le_refl
 ·obtain⟨j,E,rfl⟩:∃j,j<m /\ r=2*n+j:=⟨r-2*n,by omega,by omega⟩
  rw[MR];have e:eB m (duA n A (2*n+j)) y=sumTo m (fun i=>if i=j then -(y i) else 0):=sumTo_congr fun i _=>by rw[ML];split <;> grind
  rw[e,MO,if_pos E];have:=h.pos j E;grind
theorem MZ{e:Nat -> Rat}(O:∀i,i<m -> 0 <= s i)(M:∀i,i<m -> e i= -(eB n (A i) x)-s i):Lp.jc (2*n+m) m (duA n A) (duZ n x s) e:=by
 refine⟨fun r R=> ?_,fun i E=> ?_⟩
 ·unfold duZ;split
  ·split <;> exact Na _
  ·exact O _ oM
 ·unfold eB;rw[MN,M i E]
  have F:sumTo n (fun k=>duZ n x s (2*k)*duA n A (2*k) i+duZ n x s (2*k+1)*duA n A (2*k+1) i)= -(eB n (A i) x):=by
   unfold eB;rw[<- MI];refine sumTo_congr fun k t=> ?_
   rw[MW t,MX t,MJ t,MK t];have:=MV (x k);grind
  have G:sumTo m (fun j=>duZ n x s (2*n+j)*duA n A (2*n+j) i)=sumTo m (fun j=>if j=i then -(s j) else 0):=sumTo_congr fun j _=>by
   rw[Nb,ML];by_cases h:i=j
   ·rw[if_pos h,if_pos h.symm];grind
   ·rw[if_neg h,if_neg (fun x=>h x.symm)];grind
  rw[F,G,MO,if_pos E];grind
theorem N7:eB (2*n+m) (duZ n x s) (duB n c)= -(eB n c x):=by
 unfold eB;rw[MN]
 have t:sumTo n (fun k=>duZ n x s (2*k)*duB n c (2*k)+duZ n x s (2*k+1)*duB n c (2*k+1))= -(sumTo n (fun k=>c k*x k)):=by
  rw[<- MI];refine sumTo_congr fun k h=> ?_
  rw[MW h,MX h,MP h,MQ h];have:=MV (x k);grind
 have E:sumTo m (fun j=>duZ n x s (2*n+j)*duB n c (2*n+j))=0:=Lp.iX fun j _=>by rw[MR];grind
 rw[t,E];grind
theorem Nf(h:Lp.jc (2*n+m) m (duA n A) z (fun i=> -(b i))):Lp.jC m n A b (fun k=>z (2*k+1)-z (2*k)):=fun i t=>by
 have h1:=h.sum i t;unfold eB at h1;rw[MN] at h1
 have F:sumTo n (fun k=>z (2*k)*duA n A (2*k) i+z (2*k+1)*duA n A (2*k+1) i)= -(eB n (A i) (fun k=>z (2*k+1)-z (2*k))):=by
  unfold eB;rw[<- MI];exact sumTo_congr fun k E=>by rw[MJ E,MK E];grind
 have G:sumTo m (fun j=>z (2*n+j)*duA n A (2*n+j) i)=sumTo m (fun j=>if j=i then -(z (2*n+j)) else 0):=sumTo_congr fun j _=>by
  rw[ML];by_cases h:i=j
  ·rw[if_pos h,if_pos h.symm];grind
  ·rw[if_neg h,if_neg (fun x=>h x.symm)];grind
 rw[F,G,MO,if_pos t] at h1;have M:=h.pos (2*n+i) oM;grind
theorem Ng(_:1 <= kk /\ kk <= 3)(M:1 <= kk' /\ kk' <= 3)(h:kI m n kk A b c q x y d)(t:kI (2*n+m) m kk' (duA n A) (duB n c) (fun i=> -(b i)) q' x' y' d'):
  (kk=1 -> kk'=1 /\ q'= -q) /\ (kk=3 -> kk'=2) /\ (kk=2 -> kk'≠1):=by
 refine⟨fun e=> ?_,fun e=> ?_,fun e e'=> ?_⟩
 ·have h1:=h.1 e
  have F:Lp.Opt (2*n+m) m (duA n A) (duB n c) (fun i=> -(b i)) (-q) y (duZ n x (fun i=>b i-eB n (A i) x)):=
   ⟨MZ (fun i G=>by have:=h1.holds i G;grind) (fun i _=>by grind),by rw[N7,h1.value],Nc h1.du,by
    rw[<- h1.bound];unfold eB;rw[<- MI];exact sumTo_congr fun i _=>by grind⟩
  have E:=KM (d':=fun _=>0) M ⟨by decide,by decide⟩ t (kk':=1) ⟨fun _=>F,fun e=>absurd e dC,fun e=>absurd e dC⟩;exact⟨E.1,E.2 E.1⟩
 ·have h1:=h.2.2 e
  have F:Lp.Inf (2*n+m) m (duA n A) (duB n c) (duZ n d (fun i=> -(eB n (A i) d))):=
   ⟨MZ (fun i G=>by have:=h1.ray i G;grind) (fun i _=>by grind),by rw[N7];have:=h1.up;grind⟩
  exact(KM (q':=0) (x':=fun _=>0) (d':=fun _=>0) M ⟨by decide,by decide⟩ t (kk':=2) ⟨fun e=>absurd e dC,fun _=>F,fun e=>absurd e dC⟩).1
 ·exact(h.2.1 e).no (Nf (t.1 e').du)
end
end
section
open Go.RowKit
open Lp (RL upd eu)
def duT(n:Nat)(A:Nat -> Nat -> Rat)(r i:Nat):ByteArray:=eF (duA n A r i)
def duU(n:Nat)(c:Nat -> Rat)(r:Nat):ByteArray:=eF (duB n c r)
structure DuS (W w:World) (gq n m r0 r:Nat) (A:Nat -> Nat -> Rat) (bq c:Nat -> Rat) (B:Option Addr) (d:Nat) (C:Option Addr) (e:Nat):Prop where
 row:Row w gq 25 [.slice B r0 d, .slice C r e]
 obj:fH w (.slice B r0 d) r0 (fun i=>eF (-(bq i)))
 rows:iK w (.slice C r e) r (fun _=>m) (duT n A) (duU n c)
 lo:(∀g,(Value.slice B r0 d).ownBlock=some g -> W.heap.size <= g) /\ ∀g,(Value.slice C r e).ownBlock=some g -> W.heap.size <= g
theorem MS(w:World){o:Oper}{a:Act}{K:Act -> World -> Prop}{Q:Exit -> Act -> World -> Prop}(s x:Operand)
  (G:o.op= .call {callee:= .builtin .append,args:= #[s,x],argTypes:= #[23,23]})
  (v:Value) (q:Nat) (k:Nat -> Nat) (t:Nat -> Nat -> ByteArray) (b:Nat -> ByteArray) (O:a.eval s=v) (M:iK w v q k t b)
  (A:Option Addr) (l c:Nat) (R:fH w (.slice A l c) (k q) (t q)) (T:a.eval x= .slice (some ⟨w.heap.size,0,none⟩) 1 1) (E:ByteArray) (U:E=b q)
  (F:q <= 1000000000000)
  (h:∀v' w',iK w' v' (q+1) k t b -> Turned w w' v v' -> K (a.put o.dst v') w'):Oper.wp prog o a (w.alloc (.cells #[.slice A l c, .string E] 53)) K Q:=by
 subst U;exact IJ w s x G v q k t b O M A l c R T F h
def SKE(w:World)(g n:Nat)(s:Nat -> ByteArray):Prop:=∃cs:List Value,Row w g 30 cs /\ cs.length=n /\ ∀j,j<n -> cs[j]? =some (.string (s j))
section
variable {w w':World} {g n:Nat} {s s':Nat -> ByteArray}
theorem SKE.lt(h:SKE w g n s):g<w.heap.size:=by obtain⟨cs,t,_⟩:=h;exact t.lt
theorem SKE.at_(h:SKE w g n s){j:Nat}(t:j<n): w.cell? ⟨g,j,none⟩=some (.string (s j)):=by obtain⟨cs,E,_,h⟩:=h;exact E.at_ _ (h j t)
theorem SKE.free(h:SKE w g n s)(j:Nat): w.frozen? ⟨g,j,none⟩=false:=by obtain⟨cs,t,_⟩:=h;exact t.free j
theorem SKE.congr(h:SKE w g n s)(G:∀j,j<n -> s j=s' j):SKE w g n s':=by
 obtain⟨cs,F,E,h⟩:=h;exact⟨cs,F,E,fun j t=>by rw[h j t,G j t]⟩
theorem SKE.set(h:SKE w g n s){j:Nat}{x:ByteArray}(G:j<n):SKE (w.setCell ⟨g,j,none⟩ (.string x)) g n (upd s j x):=by
 obtain⟨cs,F,E,h⟩:=h;refine⟨_,F.set j _,by simpa using E,fun k t=> ?_⟩;by_cases e:k=j
 ·subst e;rw[Lp.upd_same];simp[List.getElem?_set];omega
 ·rw[List.getElem?_set_ne oM,Lp.eT _ _ e];exact h k t
theorem SKE.own(h:SKE w g n s)(E:n <= maxLen):fH w (.slice (some ⟨g,0,none⟩) n n) n s:=by
 obtain⟨cs,G,M,F⟩:=h;exact⟨cs,IE G oM E,fun j t=>⟨_,F j t,rfl⟩⟩
theorem SKE.made{base:Nat}(h:w.ownsRow base 30 1 (.slice (some ⟨g,0,none⟩) n n) n (madeCells (Value.string ⟨#[]⟩).cells (n*1)).toList):SKE w g n (fun _=>⟨#[]⟩):=by
 have E:=Row.made (z:= .string ⟨#[]⟩) (by rw[Nat.mul_one] at h;exact h);refine⟨_,E,by simp,fun j t=> ?_⟩;rw[List.getElem?_replicate,if_pos t]
end
theorem Nh(w:World){ops:Array Oper}{rest:List Oper}{o:Oper}{a:Act}{Q:Exit -> Act -> World -> Prop}
  (M:o.guard=none) (l c:Operand) (U:o.op=Op.makeSlice 22 l c) (L C:Int) (n:Nat) (T:a.eval l= .int .i64 L) (G:a.eval c= .int .i64 C) (F:L=(n:Int)) (t:C=(n:Int)) (b2:n <= 4398046511104)
  (E:∀w',SKE w' w.heap.size n (fun _=>⟨#[]⟩) -> Below w.heap.size w w' -> w.heap.size<w'.heap.size -> wpList prog ops Q rest (a.put o.dst (.slice (some ⟨w.heap.size,0,none⟩) n n)) w'):
  wpList prog ops Q (o::rest) a w:=by
 obtain⟨i,R,X,Y,Z⟩:=info_parts Ho;refine wpList_make_full w M l c _ U w.heap.size _ i _ 1 underlying22 R X Y .i64 .i64 L C n T G F t (by rw[Z];omega) (by unfold maxLen;omega) (Nat.le_refl _) ?_;intro w' V O;have h:=SKE.made V;exact E w' h ((Below.refl _ _).grown O (Nat.le_refl _) (by simp)) h.lt
theorem N8:eF (-1)=⟨#[45,49]⟩:=by kernel_rfl
theorem MM:eF 0=⟨#[48]⟩:=by kernel_rfl
theorem N9{w:World}{v:Value}{n:Nat}{s s':Nat -> ByteArray}(h:fH w v n s)(F:∀j,j<n -> s j=s' j):fH w v n s':=by
 obtain⟨xs,h1,E⟩:=h;exact⟨xs,h1,fun j t=>by obtain⟨u,a,b⟩:=E j t;exact⟨u,a,by show u=Value.string (s' j);rw[<- F j t];exact b⟩⟩
section
variable {W w w':World} {gq n m r0 r:Nat} {A:Nat -> Nat -> Rat} {bq c:Nat -> Rat} {B C B' C':Option Addr} {d e d' e':Nat}
theorem DuS.below(h:DuS W w gq n m r0 r A bq c B d C e)(t:Below w.heap.size w w'):DuS W w' gq n m r0 r A bq c B d C e:=⟨h.row.below t h.row.lt,eY.below h.obj t,h.rows.below t,h.lo⟩
theorem DuS.ne0{g:Nat}{cs:List Value}(h:DuS W w gq n m r0 r A bq c B d C e)(E:Row w g 25 cs):(Value.slice B r0 d).ownBlock≠some g:=fun t=>by obtain⟨_,F⟩:=eY.row h.obj t;exact absurd (E.ty F) dC
theorem DuS.ne1{g:Nat}{cs:List Value}(h:DuS W w gq n m r0 r A bq c B d C e)(E:Row w g 25 cs):(Value.slice C r e).ownBlock≠some g:=fun t=>by obtain⟨_,F⟩:=h.rows.row t;exact absurd (E.ty F) dC
theorem DuS.app0(h:DuS W w gq n m r0 0 A bq c B d C e)(G:Turned w w' (.slice B r0 d) (.slice B' (r0+1) d'))(X:fH w' (.slice B' (r0+1) d') (r0+1) (fun i=>eF (-(bq i))))(U:W.heap.size <= w.heap.size):
  DuS W (w'.setCell ⟨gq,0,none⟩ (.slice B' (r0+1) d')) gq n m (r0+1) 0 A bq c B' d' C e:=by
 have F:=h.row.turned G (h.ne0 h.row);have R:World.grownBy w' (w'.setCell ⟨gq,0,none⟩ (.slice B' (r0+1) d')) (some gq):=grownBy_set _ _ _ _;refine⟨F.set 0 _,Cb X R F dC,?_,G.base U h.lo.1,h.lo.2⟩;obtain⟨xs,h1,Y⟩:=h.rows;have O:=lI h1 G.grown (fun g M t=>by obtain⟨_,E⟩:=qN h1 M;obtain⟨_,T⟩:=eY.row h.obj t;exact absurd (E.ty T) dC);exact⟨xs,lI O R (fun g M t=>by obtain⟨_,E⟩:=qN O M;simp only[Option.some.injEq] at t;subst t;exact absurd (E.ty F) dC),fun i V=>absurd V oM⟩
theorem DuS.app1(h:DuS W w gq n m r0 r A bq c B d C e)(E:Turned w w' (.slice C r e) (.slice C' (r+1) e'))(M:iK w' (.slice C' (r+1) e') (r+1) (fun _=>m) (duT n A) (duU n c))(G:W.heap.size <= w.heap.size):
  DuS W (w'.setCell ⟨gq,1,none⟩ (.slice C' (r+1) e')) gq n m r0 (r+1) A bq c B d C' e':=by
 have t:=h.row.turned E (h.ne1 h.row);have F:World.grownBy w' (w'.setCell ⟨gq,1,none⟩ (.slice C' (r+1) e')) (some gq):=grownBy_set _ _ _ _;exact⟨t.set 1 _,Cb (II h.obj h.rows E) F t dC,M.other F t dC dC,h.lo.1,E.base G h.lo.2⟩
end
set_option maxRecDepth 100000 in
set_option maxHeartbeats 12800000 in
theorem Ni(AO AR:Option Addr)(n m cO cR:Nat)(k:Nat -> Nat)(o:Nat -> ByteArray)(t:Nat -> Nat -> ByteArray)(b:Nat -> ByteArray)(A:Nat -> Nat -> Rat)(bq c:Nat -> Rat)(Ka:Nat)(w:World)(Z:TS w (.slice AO n cO) n o)(hr:fZ w (.slice AR m cR) m k t b)(hn:n <= 1000000)(hm:m <= 1000000)
  (aX:∀i,i<m -> k i=n) (hA:∀i,i<m -> ∀j,j<n -> t i j=eF (A i j)) (hb:∀i,i<m -> b i=eF (bq i)) (hc:∀j,j<n -> o j=eF (c j)) (aY:∀i,i<m -> ∀j,j<n -> RL Ka (A i j)) (aZ:∀i,i<m -> RL Ka (bq i)) (b0:∀j,j<n -> RL Ka (c j)) (T:4*Ka <= 1000000):
  Calls prog 20 #[.agg #[.slice AO n cO, .slice AR m cR]] w fun e w'=>∃v u,e= .returned (.agg #[v,u]) /\ fH w' v m (fun i=>eF (-(bq i))) /\ iK w' u (2*n+m) (fun _=>m) (duT n A) (duU n c) /\ Below w.heap.size w w':=by
 obtain⟨iN,aK,aO,aP,aQ⟩:=info_parts Ho;have HO:=lH Z;have HR:=lH hr;have ak:=lH (And.intro hn hm);have b8:=lH aX;have aF:=lH (And.intro hA (And.intro hb hc));have aC:=lH (And.intro aY (And.intro aZ b0));have HK:=lH T;clear Z hr hn hm aX hA hb hc aY aZ b0 T;obtain⟨W,hW,G,O,M,F⟩:=eN3 w [.slice AO n cO, .slice AR m cR] 25 [.slice none 0 0, .slice none 0 0] 25 [.slice none 0 0, .slice none 0 0] 25;go_enter func20,ntmps20;have a9:Hid (W.heap.size=w.heap.size+3):=lH (by rw[hW];simp)
 go_upto_region 2 with (fail)
 rw[<- hW];clear hW;go_wp2_with fail
 have V:=rG W;have ao:=G.o.lt;obtain⟨a7,aV⟩:=aT2 G.o;have KS:=lH (kC a7 (kN aV));clear ao a7 aV;refine rL KS.o (fun i=>false) ?_;have E:=KS.o _ V.o;refine tKs 0 14 E ?_;refine tKs 1 15 E ?_;refine tKs 2 16 E ?_;refine tKs 3 17 E ?_;refine tKs 4 18 E ?_;refine tKs 5 19 E ?_;refine tKs 6 4 E ?_;refine tKs 7 5 E ?_;refine dN ?_ _;clear E KS V;obtain⟨w1,aM⟩:=eX (W.drew);have aq:Below W.heap.size W w1:=by rw[aM];exact(Below.refl _ _).drew
 replace G:=rW G aq;replace O:=rW O aq;replace M:=rW M aq;replace F:=bT F aq;have bg:Hid (W.heap.size <= w1.heap.size):=lH aq.size;clear aq;go_wp2_with fail
 try rw[<- aM]
 clear aM
 go_loopw [6] (fun iv wr=>∃ (q:Nat) (B:Option Addr) (d:Nat) (C:Option Addr) (e:Nat),q <= m /\ iv= .int .i64 q /\ Row wr w.heap.size 25 [.slice AO n cO, .slice AR m cR] /\ Row wr (w.heap.size+1) 25 [.slice none 0 0, .slice none 0 0] /\ DuS W wr (w.heap.size+2) n m q 0 A bq c B d C e /\ Below w.heap.size w wr)
  (fun iv _=>m-(intOf iv).toNat)
 case atStart=>exact⟨0,none,0,none,0,Nat.zero_le _,rfl,G.o,O.o,⟨M.o,fH.nil _ _,iK.nil _ _ _ _,fun g R=>by simp[Value.ownBlock] at R,fun g R=>by simp[Value.ownBlock] at R⟩,F.o⟩
 case round=>
  clear G O M F;obtain⟨q,B,d,C,e,hq,rfl,ah,ai,ag,af⟩:=hrel;have G:=lH ah;have O:=lH ai;have h:=lH ag;have F:=lH af;clear ah ai ag af;by_cases b2:((q:Nat):Int)<((m:Nat):Int)
  ·have a3:q<m:=oM
   have b1:((q:Nat):Int) <= 1000000:=by have:=ak.o.2;omega
   have bf:=lH a3;obtain⟨gR,oR,rfl,ax⟩:=HR.o.at_ oM;obtain⟨_,_,k1,_⟩:=ax q a3;rw[aF.o.2.1 q a3] at k1;have C0:=lH k1;have C1:=lH (cell_below F.o k1);clear ax k1;have M:=lH h.o.row
   go_upto_region 6 with (fail)
   have aa:Hid (W.heap.size <= wr.heap.size):=lH (by have:=M.o.lt;have:=a9.o;omega);go_wp2_with fail
   have V:=rG wr;have aw:=M.o.lt;have ac:=aI 0 M;have ao:=G.o.lt;have a7:=aI 1 G;have av:=eG C1.o;have ab:=C1.o;have KS:=lH (kC ac (kC a7 (kN ab)));clear aw ac ao a7 av ab;refine rL KS.o (fun i=>decide (12 <= i)) ?_;have E:=KS.o _ V.o;refine tKs 0 25 E ?_;refine tKs 1 26 E ?_;refine tKs 2 27 E ?_;refine tKs 3 28 E ?_;refine tKs 4 29 E ?_;refine tKs 5 30 E ?_;refine tKs 6 31 E ?_;refine tKs 7 32 E ?_;refine rD 8 (fun K T=> ?_);go_simp;refine(GZ (bq q) Ka _ (aC.o.2.1 q a3) HK.o).mono ?_;rintro e aA ⟨rfl,ad⟩;have ad:Below wr.heap.size wr aA:=bD ad;replace G:=rW G ad;replace O:=rW O ad;replace M:=rW M ad;replace F:=bT F ad;replace V:=bT V ad;clear E ad;have E:=KS.o _ V.o;refine kH T E ?_;clear T K;replace h:=lH (h.o.below V.o);have am:Hid (W.heap.size <= aA.heap.size):=lH (Nat.le_trans aa.o V.o.size);refine rD 9 (fun K T=> ?_);go_simp;refine T.out _ _ (fun _=>KS.o _ (V.o.trans ((eD _ _).mono V.o.size))) ?_;clear T K;refine jL 10 kR rfl (by rfl) (fun K T=> ?_);refine qO _ (.tmp 26) (.tmp 34) 22 rfl 30 iN (.string ⟨#[]⟩) 16 underlying22 aK aO aP aQ rfl (.slice B q d) q _ rfl h.o.obj (.string (eF (-(bq q)))) rfl rfl rfl ⟨by unfold maxLen;omega,by omega⟩ ?_;intro va a5 Z U;obtain⟨B2,d2,rfl,_,_⟩:=eY.shape Z;have a4:=U.below (B:=w.heap.size) F.o.size (fun g R=>Nat.le_trans (by have:=a9.o;omega) (h.o.lo.1 g R));replace G:=lH (G.o.turned U (h.o.ne0 G.o));replace O:=lH (O.o.turned U (h.o.ne0 O.o));replace M:=lH (h.o.row.turned U (h.o.ne0 h.o.row));replace F:=lH (F.o.trans a4);have DN:=lH (h.o.app0 U Z am.o);clear a4 Z U h;clear E;have E:=And.intro (M.o.at_ 0 rfl) (And.intro (G.o.at_ 1 rfl) (cell_below F.o C0.o));refine kH T E ?_;clear T K;refine tKs 11 36 E ?_;have k0:=aI 0 M;have f0:=M.o.free 0;have l0:=M.o.lt;refine rD 12 (fun K T=> ?_);go_simp;refine kL T ?_;clear T K;refine dN ?_ _;clear E KS V;clear k0 f0 l0;have R:World.grownBy a5 (a5.setCell ⟨w.heap.size+2,0,none⟩ (.slice B2 (q+1) d2)) (some (w.heap.size+2)):=grownBy_set _ _ _ _;have PN:=G.o.other R oM;have RN:=O.o.other R oM;have HN:=F.o.grown R F.o.size (by first | (simp;done) | (simp;omega));go_wp2_with fail
   go_roundw
   case rel=>exact⟨q+1,B2,d2,C,e,by omega,by go_num,PN,RN,DN.o,HN⟩
   case measure=>exact mZ
  ·obtain rfl:m=q:=oM
   go_wp2_with fail
   go_loopw [7] (fun iv wr=>∃ (q:Nat) (B:Option Addr) (d:Nat) (C:Option Addr) (e:Nat),q <= n /\ iv= .int .i64 q /\ Row wr w.heap.size 25 [.slice AO n cO, .slice AR m cR] /\ Row wr (w.heap.size+1) 25 [.slice none 0 0, .slice none 0 0] /\ DuS W wr (w.heap.size+2) n m m (2*q) A bq c B d C e /\ Below w.heap.size w wr)
    (fun iv _=>n-(intOf iv).toNat)
   case atStart=>exact⟨0,B,d,C,e,Nat.zero_le _,rfl,G.o,O.o,h.o,F.o⟩
   case round=>
    clear G O h F;obtain⟨q,B,d,C,e,hq,rfl,ah,ai,ag,af⟩:=hrel;have G:=lH ah;have O:=lH ai;have h:=lH ag;have F:=lH af;clear ah ai ag af;by_cases b2:((q:Nat):Int)<((n:Nat):Int)
    ·have a3:q<n:=oM
     have b1:((q:Nat):Int) <= 1000000:=by have:=ak.o.1;omega
     obtain⟨wO,rfl⟩:=eX (wr);go_wp2_with fail
     go_loopw [8,9,10] (fun pv nv iv wr=>∃ (i:Nat) (P:Option Addr) (p:Nat) (N:Option Addr) (p2:Nat),i <= m /\ pv= .slice P i p /\ nv= .slice N i p2 /\ iv= .int .i64 i /\ Hid (fH wr (.slice P i p) i (fun i=>eF (A i q))) /\ Hid (fH wr (.slice N i p2) i (fun i=>eF (-(A i q)))) /\ Hid (∀g,(Value.slice P i p).ownBlock=some g -> wO.heap.size <= g) /\ Hid (∀g,(Value.slice N i p2).ownBlock=some g -> wO.heap.size <= g) /\ Hid (∀g,(Value.slice P i p).ownBlock=some g -> (Value.slice N i p2).ownBlock≠some g) /\ Hid (Below wO.heap.size wO wr))
      (fun _ _ iv _=>m-(intOf iv).toNat)
     case atStart=>exact⟨0,none,0,none,0,Nat.zero_le _,rfl,rfl,rfl,lH (fH.nil _ _),lH (fH.nil _ _),lH (fun g R=>by simp[Value.ownBlock] at R),lH (fun g R=>by simp[Value.ownBlock] at R),lH (fun g R=>by simp[Value.ownBlock] at R),lH (Below.refl _ _)⟩
     case round=>
      obtain⟨i,P,p,N,p2,hi,rfl,rfl,rfl,HP,HN,LP,LN,DJ,Y⟩:=hrel;by_cases bd:((i:Nat):Int)<((m:Nat):Int)
      ·have ap:i<m:=oM
       have bh:((i:Nat):Int) <= 1000000:=by have:=ak.o.2;omega
       obtain⟨gR,oR,rfl,ax⟩:=HR.o.at_ oM;obtain⟨u,k1,_,az⟩:=ax i ap;rw[b8.o i ap] at az;obtain⟨X,xc,rfl,_,_⟩:=az.shape;obtain⟨gX,oX,rfl,hx⟩:=az.at_ oM;have k2:=hx q a3;rw[aF.o.1 i ap q a3] at k2;have K1:=lH k1;have K2:=lH k2;clear ax k1 k2 az hx;have aj:Hid (Below w.heap.size w wr):=lH (F.o.trans (Y.o.mono F.o.size));have an:=lH (G.o.below Y.o G.o.lt);have a0:=aI 1 an;have al:=an.o.lt;have a1:=cell_below aj.o K1.o;have a2:=cell_below aj.o K2.o;have aG:=eG a1;have aH:=eG a2
       go_wp2_with (at_builtin;(refine wpList_plain rfl fun K T=>qO _ (.tmp 47) (.tmp 57) 22 rfl 30 iN (.string ⟨#[]⟩) 16 underlying22 aK aO aP aQ rfl (.slice P i p) i _ rfl HP.o (.string (eF (A i q))) rfl rfl rfl ⟨by unfold maxLen;omega,by omega⟩ ?_))
       intro va w7 Z U;obtain⟨P2,pp,rfl,_,_⟩:=eY.shape Z;have ba:Hid (∀g,(Value.slice N i p2).ownBlock=some g -> g<wr.heap.size):=lH (fun g R=>eY.lt HN.o R);have a4:=U.below (B:=wO.heap.size) Y.o.size LP.o;replace LP:=lH (U.base Y.o.size LP.o);replace HN:Hid (fH w7 (.slice N i p2) i (fun i=>eF (-(A i q)))):=lH (eY.turned HN.o U (fun g h1 h2=>DJ.o g h2 h1));replace DJ:Hid (∀g,(Value.slice P2 (i+1) pp).ownBlock=some g -> (Value.slice N i p2).ownBlock≠some g):=lH (fun g h1 h2=>by have h3:=eY.lt HN.o h2;exact absurd h1 (U.apart (by have h4:=ba.o g h2;exact h4) (fun h5=>DJ.o g h5 h2)));replace HP:Hid (fH w7 (.slice P2 (i+1) pp) (i+1) (fun i=>eF (A i q))):=lH Z;replace Y:=lH (Y.o.trans a4);clear a4 Z U a0 al a1 a2 aG aH aj an;have aj:Hid (Below w.heap.size w w7):=lH (F.o.trans (Y.o.mono F.o.size));have an:=lH (G.o.below Y.o G.o.lt);have a0:=aI 1 an;have al:=an.o.lt;have a1:=cell_below aj.o K1.o;have a2:=cell_below aj.o K2.o;have aG:=eG a1;have aH:=eG a2;refine T _ _ ?_;clear T;go_wp2_with fail
       clear a0 al a1 a2 aG aH aj an;refine(GZ (A i q) Ka _ (aC.o.1 i ap q a3) HK.o).mono ?_;rintro e8 w8 ⟨rfl,hb⟩;replace HP:Hid (fH w8 (.slice P2 (i+1) pp) (i+1) (fun i=>eF (A i q))):=lH (eY.below HP.o hb);replace HN:Hid (fH w8 (.slice N i p2) i (fun i=>eF (-(A i q)))):=lH (eY.below HN.o hb);replace Y:=lH (Y.o.trans (hb.mono Y.o.size));clear hb
       go_wp2_with (at_builtin;(refine wpList_plain rfl fun K T=>qO _ (.tmp 59) (.tmp 70) 22 rfl 30 iN (.string ⟨#[]⟩) 16 underlying22 aK aO aP aQ rfl (.slice N i p2) i _ rfl HN.o (.string (eF (-(A i q)))) rfl rfl rfl ⟨by unfold maxLen;omega,by omega⟩ ?_))
       intro va w9 Z U;obtain⟨N2,pn,rfl,_,_⟩:=eY.shape Z;have a4:=U.below (B:=wO.heap.size) Y.o.size LN.o;replace LN:=lH (U.base Y.o.size LN.o);have b6:=DJ;replace DJ:Hid (∀g,(Value.slice P2 (i+1) pp).ownBlock=some g -> (Value.slice N2 (i+1) pn).ownBlock≠some g):=lH (fun g h1=>U.apart (eY.lt HP.o h1) (DJ.o g h1));replace HP:Hid (fH w9 (.slice P2 (i+1) pp) (i+1) (fun i=>eF (A i q))):=lH (eY.turned HP.o U (fun g h1=>b6.o g h1));have b9:Hid (fH w9 (.slice N2 (i+1) pn) (i+1) (fun i=>eF (-(A i q)))):=lH Z;replace Y:=lH (Y.o.trans a4);clear a4 Z U HN;refine T _ _ ?_;clear T;go_wp2_with fail
       go_roundw
       case rel=>exact⟨i+1,P2,pp,N2,pn,by omega,rfl,rfl,by go_num,HP,b9,LP,LN,DJ,Y⟩
       case measure=>exact mZ
      ·obtain rfl:m=i:=oM
       have b7:=Y;replace G:=lH (G.o.below Y.o G.o.lt);replace O:=lH (O.o.below Y.o O.o.lt);replace h:=lH (h.o.below Y.o);replace F:=lH (F.o.trans (Y.o.mono F.o.size))
       skip
       clear Y b7 LP LN DJ;have aS:Hid (fH wr (.slice N m p2) m (fun i=>eF (-(A i q)))):=HN;clear HN;have M:=lH h.o.row;obtain⟨gO,oO,rfl,hx⟩:=HO.o.at_ oM;have k2:=hx q a3;rw[aF.o.2.2 q a3] at k2;have C0:=lH k2;have C1:=lH (cell_below F.o k2);clear hx k2;have aU:Hid (eF (c q)=duU n c (2*q)):=lH (by unfold duU;rw[MP a3]);have ay:Hid (fH wr (.slice P m p) m (duT n A (2*q))):=lH (N9 HP.o (fun j _=>by show eF (A j q)=duT n A (2*q) j;unfold duT;rw[MJ a3]));have bc:Hid (eF (-(c q))=duU n c (2*q+1)):=lH (by unfold duU;rw[MQ a3]);have aD:Hid (fH wr (.slice N m p2) m (duT n A (2*q+1))):=lH (N9 aS.o (fun j _=>by show eF (-(A j q))=duT n A (2*q+1) j;unfold duT;rw[MK a3]));clear HP aS;have aa:Hid (W.heap.size <= wr.heap.size):=lH (by have:=M.o.lt;have:=a9.o;omega)
       go_upto_region 16 with (fail)
       go_wp2_with fail
       have V:=rG wr;have aw:=M.o.lt;have ac:=aI 1 M;have ao:=G.o.lt;have a7:=aI 0 G;have av:=eG C1.o;have ab:=C1.o;have KS:=lH (kC ac (kC a7 (kN ab)));clear aw ac ao a7 av ab;refine rL KS.o (fun i=>decide (12 <= i)) ?_;have E:=KS.o _ V.o;obtain⟨wD,aN⟩:=eX (wr.drew);rw[<- aN];have ar:Below wr.heap.size wr wD:=by rw[aN];exact(Below.refl _ _).drew
       replace G:=rW G ar;replace O:=rW O ar;replace ay:=lH (eY.below ay.o ar);replace F:=bT F ar;replace V:=bT V ar;clear aN ar E;have E:=KS.o _ V.o;refine tKs 0 72 E ?_;refine tKs 1 73 E ?_;refine tKs 2 74 E ?_;refine tKs 3 75 E ?_;refine tKs 4 76 E ?_;refine tKs 5 77 E ?_;refine tKs 6 78 E ?_;refine tKs 7 79 E ?_;refine tKs 8 80 E ?_;replace h:=lH (h.o.below V.o);have am:Hid (W.heap.size <= wD.heap.size):=lH (Nat.le_trans aa.o V.o.size);refine rD 9 (fun K T=> ?_);go_simp;refine T.out _ _ (fun _=>KS.o _ (V.o.trans ((eD _ _).mono V.o.size))) ?_;clear T K;refine jL 10 kR rfl (by rfl) (fun K T=> ?_);refine MS _ (.tmp 73) (.tmp 81) rfl (.slice C (2*q) e) (2*q) (fun _=>m) (duT n A) (duU n c) rfl h.o.rows P m p ay.o rfl (eF (c q)) aU.o (by have:=ak.o.1;omega) ?_;intro va a5 Z U;obtain⟨C2,e2,rfl,_,_⟩:=Z.shape;have aT:Hid (fH a5 (.slice N m p2) m (duT n A (2*q+1))):=lH (II (eY.below aD.o V.o) h.o.rows U);have a4:=U.below (B:=w.heap.size) F.o.size (fun g R=>Nat.le_trans (by have:=a9.o;omega) (h.o.lo.2 g R));replace G:=lH (G.o.turned U (h.o.ne1 G.o));replace O:=lH (O.o.turned U (h.o.ne1 O.o));replace M:=lH (h.o.row.turned U (h.o.ne1 h.o.row));replace F:=lH (F.o.trans a4);have DN:=lH (h.o.app1 U Z am.o);clear a4 Z U h;clear E;have E:=And.intro (M.o.at_ 1 rfl) (And.intro (G.o.at_ 0 rfl) (cell_below F.o C0.o));refine kH T E ?_;clear T K;refine tKs 11 83 E ?_;have k0:=aI 1 M;have f0:=M.o.free 1;have l0:=M.o.lt;refine rD 12 (fun K T=> ?_);go_simp;refine kL T ?_;clear T K;refine dN ?_ _;clear E KS V;clear k0 f0 l0;have R:World.grownBy a5 (a5.setCell ⟨w.heap.size+2,1,none⟩ (.slice C2 (2*q+1) e2)) (some (w.heap.size+2)):=grownBy_set _ _ _ _;have PN:=G.o.other R oM;have RN:=O.o.other R oM;have HN:=F.o.grown R F.o.size (by first | (simp;done) | (simp;omega));have aE:=Cb aT.o R M.o dC;obtain⟨aB,b4⟩:=eX ((a5.setCell ⟨w.heap.size+2,1,none⟩ (.slice C2 (2*q+1) e2)));have au:=DN.o;rw[<- b4] at PN RN HN aE au ⊢;clear b4 R;replace G:=lH PN;replace O:=lH RN;replace F:=lH HN;have h:=lH au;replace aD:=lH aE;clear PN RN HN au DN aE ay aT aU M C1 aa;have M:=lH h.o.row;have C1:=lH (cell_below F.o C0.o);have aa:Hid (W.heap.size <= aB.heap.size):=lH (by have:=M.o.lt;have:=a9.o;omega)
       go_upto_region 17 with (fail)
       go_wp2_with fail
       have V:=rG aB;have aw:=M.o.lt;have ac:=aI 1 M;have ao:=G.o.lt;have a7:=aI 0 G;have av:=eG C1.o;have ab:=C1.o;have KS:=lH (kC ac (kC a7 (kN ab)));clear aw ac ao a7 av ab;refine rL KS.o (fun i=>decide (13 <= i)) ?_;have E:=KS.o _ V.o;refine tKs 0 84 E ?_;refine tKs 1 85 E ?_;refine tKs 2 86 E ?_;refine tKs 3 87 E ?_;refine tKs 4 88 E ?_;refine tKs 5 89 E ?_;refine tKs 6 90 E ?_;refine tKs 7 91 E ?_;refine rD 8 (fun K T=> ?_);go_simp;refine(GZ (c q) Ka _ (aC.o.2.2 q a3) HK.o).mono ?_;rintro e b5 ⟨rfl,ae⟩;have ae:Below aB.heap.size aB b5:=bD ae;replace G:=rW G ae;replace O:=rW O ae;replace M:=rW M ae;replace F:=bT F ae;replace V:=bT V ae;clear E ae;have E:=KS.o _ V.o;refine kH T E ?_;clear T K;refine tKs 9 93 E ?_;replace h:=lH (h.o.below V.o);have am:Hid (W.heap.size <= b5.heap.size):=lH (Nat.le_trans aa.o V.o.size);refine rD 10 (fun K T=> ?_);go_simp;refine T.out _ _ (fun _=>KS.o _ (V.o.trans ((eD _ _).mono V.o.size))) ?_;clear T K;refine jL 11 kR rfl (by rfl) (fun K T=> ?_);refine MS _ (.tmp 85) (.tmp 94) rfl (.slice C2 (2*q+1) e2) (2*q+1) (fun _=>m) (duT n A) (duU n c) rfl h.o.rows N m p2 (eY.below aD.o V.o) rfl (eF (-(c q))) bc.o (by have:=ak.o.1;omega) ?_;intro va a5 Z U;obtain⟨C3,e3,rfl,_,_⟩:=Z.shape;have a4:=U.below (B:=w.heap.size) F.o.size (fun g R=>Nat.le_trans (by have:=a9.o;omega) (h.o.lo.2 g R));replace G:=lH (G.o.turned U (h.o.ne1 G.o));replace O:=lH (O.o.turned U (h.o.ne1 O.o));replace M:=lH (h.o.row.turned U (h.o.ne1 h.o.row));replace F:=lH (F.o.trans a4);have DN:=lH (h.o.app1 U Z am.o);clear a4 Z U h;clear E;have E:=And.intro (M.o.at_ 1 rfl) (And.intro (G.o.at_ 0 rfl) (cell_below F.o C0.o));refine kH T E ?_;clear T K;refine tKs 12 96 E ?_;have k0:=aI 1 M;have f0:=M.o.free 1;have l0:=M.o.lt;refine rD 13 (fun K T=> ?_);go_simp;refine kL T ?_;clear T K;refine dN ?_ _;clear E KS V;clear k0 f0 l0;have R:World.grownBy a5 (a5.setCell ⟨w.heap.size+2,1,none⟩ (.slice C3 (2*q+1+1) e3)) (some (w.heap.size+2)):=grownBy_set _ _ _ _;have PN:=G.o.other R oM;have RN:=O.o.other R oM;have HN:=F.o.grown R F.o.size (by first | (simp;done) | (simp;omega));have au:=DN.o
       skip
       go_wp2_with fail
       go_roundw
       case rel=>exact⟨q+1,B,d,C3,e3,by omega,by go_num,PN,RN,(show DuS W _ (w.heap.size+2) n m m (2* (q+1)) A bq c B d C3 e3 from au),HN⟩
       case measure=>exact mZ
    ·obtain rfl:n=q:=oM
     go_wp2_with fail
     go_loopw [11] (fun iv wr=>∃ (q:Nat) (B:Option Addr) (d:Nat) (C:Option Addr) (e:Nat),q <= m /\ iv= .int .i64 q /\ Row wr w.heap.size 25 [.slice AO n cO, .slice AR m cR] /\ Row wr (w.heap.size+1) 25 [.slice none 0 0, .slice none 0 0] /\ DuS W wr (w.heap.size+2) n m m (2*n+q) A bq c B d C e /\ Below w.heap.size w wr)
      (fun iv _=>m-(intOf iv).toNat)
     case atStart=>exact⟨0,B,d,C,e,Nat.zero_le _,rfl,G.o,O.o,h.o,F.o⟩
     case round=>
      clear G O h F;obtain⟨q,B,d,C,e,hq,rfl,ah,ai,ag,af⟩:=hrel;have G:=lH ah;have O:=lH ai;have h:=lH ag;have F:=lH af;clear ah ai ag af;by_cases b2:((q:Nat):Int)<((m:Nat):Int)
      ·have a3:q<m:=oM
       have bi:((m:Nat):Int) <= 1000000:=by have:=ak.o.2;omega
       have b1:((q:Nat):Int) <= 1000000:=oM
       obtain⟨wO,rfl⟩:=eX (wr)
       go_wp2_with (at_make;refine Nh _ rfl (.tmp 102) (.tmp 102) rfl _ _ m rfl rfl rfl rfl oM ?_)
       intro w2 aL aW _;obtain⟨gN,aJ⟩:=eX (wO.heap.size);rw[<- aJ] at aL ⊢;have a6:Hid (SKE w2 gN m (fun j=>if j<0 then⟨#[48]⟩ else⟨#[]⟩)):=lH (aL.congr (fun j _=>by rw[if_neg oM]));have aR:Hid (wO.heap.size <= gN):=lH (by rw[aJ];exact Nat.le_refl _);have Y:=lH aW;clear aL aW aJ;go_wp2_with fail
       go_loopw [13] (fun iv wr=>∃i:Nat,i <= m /\ iv= .int .i64 i /\ Hid (SKE wr gN m (fun j=>if j<i then⟨#[48]⟩ else⟨#[]⟩)) /\ Hid (Below wO.heap.size wO wr))
        (fun iv _=>m-(intOf iv).toNat)
       case atStart=>exact⟨0,Nat.zero_le _,rfl,a6,Y⟩
       case round=>
        clear a6 Y;obtain⟨i,hi,rfl,a6,Y⟩:=hrel;by_cases bd:((i:Nat):Int)<((m:Nat):Int)
        ·have ap:i<m:=oM
         have kc:=a6.o.at_ ap;have kf:=a6.o.free i;have kl:=a6.o.lt;go_wp2_with fail
         clear kc kf kl;have R:World.grownBy wr (wr.setCell ⟨gN,i,none⟩ (.string ⟨#[48]⟩)) (some gN):=grownBy_set _ _ _ _
         have SN:SKE (wr.setCell ⟨gN,i,none⟩ (.string ⟨#[48]⟩)) gN m (fun j=>if j<i+1 then⟨#[48]⟩ else⟨#[]⟩):=(a6.o.set (j:=i) (x:=⟨#[48]⟩) ap).congr (fun j _=>by
          by_cases e:j=i
          ·subst e;rw[Lp.upd_same,if_pos oM]
          ·rw[Lp.eT _ _ e];by_cases e2:j<i
           ·rw[if_pos e2,if_pos oM]
           ·rw[if_neg e2,if_neg oM])
         have a8:=Y.o.grown R Y.o.size (by have:=aR.o;first | (simp;done) | (simp;omega));go_roundw
         case rel=>exact⟨i+1,by omega,by go_num,lH SN,lH a8⟩
         case measure=>exact mZ
        ·obtain rfl:m=i:=oM
         have kc:=a6.o.at_ a3;have kf:=a6.o.free q;have kl:=a6.o.lt
         go_upto_region 27 with (fail)
         clear kc kf kl;have R:World.grownBy wr (wr.setCell ⟨gN,q,none⟩ (.string ⟨#[45,49]⟩)) (some gN):=grownBy_set _ _ _ _
         have SN:SKE (wr.setCell ⟨gN,q,none⟩ (.string ⟨#[45,49]⟩)) gN m (duT n A (2*n+q)):=(a6.o.set (j:=q) (x:=⟨#[45,49]⟩) a3).congr (fun j hj=>by
          unfold duT;rw[ML q j];by_cases e:j=q
          ·subst e;rw[Lp.upd_same,if_pos rfl];exact N8.symm
          ·rw[Lp.eT _ _ e,if_neg e,if_pos hj];exact MM.symm)
         have a8:=Y.o.grown R Y.o.size (by have:=aR.o;first | (simp;done) | (simp;omega));obtain⟨aA,b3⟩:=eX ((wr.setCell ⟨gN,q,none⟩ (.string ⟨#[45,49]⟩)));rw[<- b3] at SN a8 ⊢;clear b3 R a6 Y;have bb:=lH (SN.own (by unfold maxLen;omega));replace G:=rW G a8;replace O:=rW O a8;have aa:Hid (W.heap.size <= wO.heap.size):=lH (by have:=h.o.row.lt;have:=a9.o;omega);replace h:=lH (h.o.below a8);replace F:=bT F a8;have am:Hid (W.heap.size <= aA.heap.size):=lH (Nat.le_trans aa.o a8.size);have M:=lH h.o.row;clear SN a8;have HU:Hid ((⟨#[48]⟩:ByteArray)=duU n c (2*n+q)):=lH (by unfold duU;rw[MR q];exact MM.symm);have k1:=aI 1 M;have f1:=M.o.free 1;have l1:=M.o.lt
         go_wp2_with (at_builtin;(refine wpList_plain rfl fun K T=>MS _ (.tmp 116) (.tmp 119) rfl (.slice C (2*n+q) e) (2*n+q) (fun _=>m) (duT n A) (duU n c) rfl h.o.rows (some ⟨gN,0,none⟩) m m bb.o rfl ⟨#[48]⟩ HU.o (by have:=ak.o.1;omega) ?_))
         intro va a5 Z U;obtain⟨C2,e2,rfl,_,_⟩:=Z.shape;clear k1 f1 l1;have a4:=U.below (B:=w.heap.size) F.o.size (fun g R=>Nat.le_trans (by have:=a9.o;omega) (h.o.lo.2 g R));replace G:=lH (G.o.turned U (h.o.ne1 G.o));replace O:=lH (O.o.turned U (h.o.ne1 O.o));replace M:=lH (h.o.row.turned U (h.o.ne1 h.o.row));replace F:=lH (F.o.trans a4);have DN:=lH (h.o.app1 U Z am.o);clear a4 Z U h;refine T _ _ ?_;have k0:=aI 1 M;have f0:=M.o.free 1;have l0:=M.o.lt;go_wp2_with fail
         clear k0 f0 l0;have R:World.grownBy a5 (a5.setCell ⟨w.heap.size+2,1,none⟩ (.slice C2 (2*n+q+1) e2)) (some (w.heap.size+2)):=grownBy_set _ _ _ _;have PN:=G.o.other R oM;have RN:=O.o.other R oM;have HN:=F.o.grown R F.o.size (by first | (simp;done) | (simp;omega));go_roundw
         case rel=>exact⟨q+1,B,d,C2,e2,by omega,by go_num,PN,RN,DN.o,HN⟩
         case measure=>exact mZ
      ·obtain rfl:m=q:=oM
       have M:=lH h.o.row;obtain⟨q0,q1⟩:=aT2 M.o;have ql:=M.o.lt;obtain⟨r0,r1⟩:=aT2 O.o;have f0:=O.o.free 0;have f1:=O.o.free 1;have rl:=O.o.lt;go_wp2_with fail
       clear q0 q1 ql r0 r1 f0 f1 rl;have R:World.grownBy wr ((wr.setCell ⟨w.heap.size+1,0,none⟩ (.slice B m d)).setCell ⟨w.heap.size+1,1,none⟩ (.slice C (2*n+m) e)) (some (w.heap.size+1)):=grownBy_trans (grownBy_set _ _ _ _) (grownBy_set _ _ _ _);have RE:Row ((wr.setCell ⟨w.heap.size+1,0,none⟩ (.slice B m d)).setCell ⟨w.heap.size+1,1,none⟩ (.slice C (2*n+m) e)) (w.heap.size+1) 25 [.slice B m d, .slice C (2*n+m) e]:=(O.o.set 0 (.slice B m d)).set 1 (.slice C (2*n+m) e);have VN:=Cb h.o.obj R O.o dC;have ON:=h.o.rows.other R O.o dC dC;have HN:=F.o.grown R F.o.size (by first | (simp;done) | (simp;omega));obtain⟨wE,be⟩:=eX (((wr.setCell ⟨w.heap.size+1,0,none⟩ (.slice B m d)).setCell ⟨w.heap.size+1,1,none⟩ (.slice C (2*n+m) e)));rw[<- be] at RE VN ON HN ⊢;have k0:=RE.at_ 0 rfl;have k1:=RE.at_ 1 rfl;refine bodyPost_ret (v:= .agg #[.slice B m d, .slice C (2*n+m) e]) (by simp[results,results20,go_sem,k0,k1]) rfl ?_;exact⟨_,_,rfl,VN,ON,HN⟩
end
end Go.Proofs.YtdefghfjhgmpfaaGreatDoor
