/- Parts of this proof: LInner. -/
import Derived.Test.YtdefghfjhgmpfaaGreatDoorMBJ
import Derived.Test.YtdefghfjhgmpfaaGreatDoorMDB
import Derived.Test.YtdefghfjhgmpfaaGreatDoorMBS
import Derived.Test.YtdefghfjhgmpfaaGreatDoorMCP
namespace Go.Proofs.YtdefghfjhgmpfaaGreatDoor
open Go.Proofs.Tryz
open Go.RowKit
open Lp (RL upd eu)
theorem OD{m n:Nat}{kk:Int}{A A':Nat -> Nat -> Rat}{b b' c c' x y d:Nat -> Rat}{q:Rat}(t:∀i,i<m -> ∀j,j<n -> A i j=A' i j)(E:∀i,i<m -> b i=b' i)(G:∀j,j<n -> c j=c' j)(h:kI m n kk A b c q x y d):kI m n kk A' b' c' q x y d:=
 ⟨fun e=>IL t E G (fun _ _=>rfl) (fun _ _=>rfl) rfl (h.1 e),fun e=>IM t E (fun _ _=>rfl) (h.2.1 e),fun e=>IP t E G (fun _ _=>rfl) (fun _ _=>rfl) (h.2.2 e)⟩
theorem OE:eF 0=⟨#[48]⟩:=by kernel_rfl
theorem Oc:eF 1=⟨#[49]⟩:=by kernel_rfl
def LS(w:World)(u:Value)(n:Nat)(s:Nat -> ByteArray):Prop:=∃g c,u= .slice (some ⟨g,0,none⟩) n c /\ n <= c /\ c <= maxLen /\ SK w g n s
def LSN(w:World)(u:Nat -> Value)(q n:Nat)(s:Nat -> Nat -> ByteArray):Prop:=∀i,i<q -> LS w (u i) n (s i)
section
variable {w w':World} {u:Nat -> Value} {v v':Value} {q n:Nat} {s:Nat -> Nat -> ByteArray} {e:TypeId}
theorem LSN.below(h:LSN w u q n s)(M:Below w.heap.size w w'):LSN w' u q n s:=fun i O=>by
 obtain⟨g,c,h1,t,E,G⟩:=h i O;exact⟨g,c,h1,t,E,G.below M⟩
theorem LSN.other{g:Nat}{cs:List Value}(h:LSN w u q n s)(R:w.grownBy w' (some g))(U:Row w g e cs)(O:e≠30):LSN w' u q n s:=fun i T=>by
 obtain⟨g',c,h1,G,M,t⟩:=h i T;obtain⟨_,X⟩:=t.row;exact⟨g',c,h1,G,M,t.other R (fun E=>by subst E;exact O (U.ty X))⟩
theorem LSN.turned{size k:Nat}{xs:List Value}(h:LSN w u q n s)(X:Turned w w' v v')(U:w.ownsRow 0 e size v k xs)(R:e≠30):LSN w' u q n s:=fun i T=>by
 obtain⟨g',c,h1,G,M,cs,t,O⟩:=h i T;exact⟨g',c,h1,G,M,cs,t.turned X (fun E=>by obtain⟨_,Y⟩:=qN U E;exact R (Y.ty t)),O⟩
theorem LSN.add{x:Value}(h:LSN w u q n s)(E:LS w x n (s q)):LSN w (upd u q x) (q+1) n s:=fun i G=>by
 by_cases t:i=q
 ·rw[t,Lp.upd_same];exact E
 ·rw[Lp.eT _ _ t];exact h i oM
theorem eY.ls{v:Value}{t:Nat -> ByteArray}(h:fH w v n t)(T:0<n):LS w v n t:=by
 obtain⟨_,Z,h1,G,M⟩:=eY.shape h;obtain⟨g,c,cs,E,X,R,U⟩:=eY.done h T;rw[E] at h1;simp only[Value.slice.injEq] at h1;obtain⟨_,_,rfl⟩:=h1;exact⟨g,c,E,G,M,cs,X,R,fun j O=>by obtain⟨z,Y,rfl⟩:=U j O;exact Y⟩
theorem OG(u:Nat -> Value)(x:Value)(b:Nat -> ByteArray)(q k:Nat)(t:k <= q):Lh (upd u q x) b k=Lh u b k:=by
 induction k with
 | zero=>rfl
 | succ k h=>rw[Lh,Lh,h oM,Lp.eT _ _ oM]
theorem OH{b:Nat -> ByteArray}(G:w.ownsRow 0 53 2 v q (Lh u b q))(h:LSN w u q n s):fZ w v q (fun _=>n) s b:=by
 obtain⟨A,c,rfl,Z,a0⟩:=sP G;refine⟨A,c,rfl,Z,a0,?_⟩
 rcases Nat.eq_zero_or_pos q with h0 | h0
 ·exact .inl h0
 ·obtain⟨g,cap,cs,O,M,t⟩:=C9 G h0;simp only[Value.slice.injEq,true_and] at O;refine .inr ⟨g,0,O.1,fun i E=> ?_⟩;obtain⟨R,T⟩:=Ls (u:=u) (b:=b) E;obtain⟨g',c',h1,U,X,Y⟩:=h i E;exact⟨u i,by rw[Nat.zero_add];exact M.at_ _ (t _ _ R),by rw[Nat.zero_add];exact M.at_ _ (t _ _ T),by rw[h1];exact Y.ts U X⟩
end
theorem Od(w:World){o:Oper}{a:Act}{K:Act -> World -> Prop}{Q:Exit -> Act -> World -> Prop}(s x:Operand)
  (O:o.op= .call {callee:= .builtin .append,args:= #[s,x],argTypes:= #[23,23]})
  (v:Value) (q:Nat) (u:Nat -> Value) (b:Nat -> ByteArray) (X:a.eval s=v) (R:w.ownsRow 0 53 2 v q (Lh u b q))
  (t:Value) (h0:t.oneCell'=true) (g:Nat) (U:Row w g 53 [t, .string (b q)]) (Z:a.eval x= .slice (some ⟨g,0,none⟩) 1 1)
  (a3:q <= 1000000000000)
  (h:∀v' w',w'.ownsRow 0 53 2 v' (q+1) (Lh (upd u q t) b (q+1)) -> Turned w w' v v' -> K (a.put o.dst v') w'):Oper.wp prog o a w K Q:=by
 obtain⟨i,G,a0,a1,a2⟩:=info_parts C8;refine lW _ s x _ O _ i _ 2 40 underlying23 G a0 a1 a2 rfl dC v q _ X R ⟨g,0,none⟩ 1 1 [t, .string (b q)] Z rfl ?_ ?_ (by unfold maxLen;omega) oM ?_
 ·intro j y M;rw[add0];exact U.at_ j M
 ·intro y E;simp only[List.mem_cons,List.not_mem_nil,or_false] at E;rcases E with rfl | rfl <;> first | exact h0 | rfl
 ·intro v' w' T Y;refine h v' w' ?_ Y;rw[Lh,OG _ _ _ _ _ (Nat.le_refl _),Lp.upd_same];exact T
def liO(n j:Nat):ByteArray:=if j<n then⟨#[48]⟩ else⟨#[49]⟩
def liT(n:Nat)(t:Nat -> Nat -> ByteArray)(i j:Nat):ByteArray:=if i=0 then liO n j else if j<n then t (i-1) j else⟨#[49]⟩
def liB(b:Nat -> ByteArray)(i:Nat):ByteArray:=if i=0 then⟨#[49]⟩ else b (i-1)
theorem Oe{n j:Nat}:liO n j=eF (inC n j):=by unfold liO inC;split;exact OE.symm;exact Oc.symm
theorem Oo{m i:Nat}(h:i<m+1):rot (m+1) m i=if i=0 then m else i-1:=by unfold rot;split <;> split <;> omega
theorem Oq{m n:Nat}{t:Nat -> Nat -> ByteArray}{A:Nat -> Nat -> Rat}(h:∀i,i<m -> ∀j,j<n -> (t i j).data.toList=fA (A i j)){i j:Nat}(G:i<m+1):(liT n t i j).data.toList=fA (inA m n A (rot (m+1) m i) j):=by
 rw[Oo G];unfold liT inA;by_cases h0:i=0
 ·rw[if_pos h0,if_pos h0,if_neg (show ¬m<m by omega),Oe,jI];rfl
 ·rw[if_neg h0,if_neg h0,if_pos (show i-1<m by omega)];by_cases E:j<n
  ·rw[if_pos E,if_pos E];exact h _ oM j E
  ·rw[if_neg E,if_neg E, <- Oc,jI]
theorem Ot{m:Nat}{b:Nat -> ByteArray}{bq:Nat -> Rat}(h:∀i,i<m -> (b i).data.toList=fA (bq i)){i:Nat}(t:i<m+1):(liB b i).data.toList=fA (inB m bq (rot (m+1) m i)):=by
 rw[Oo t];unfold liB inB;by_cases h0:i=0
 ·rw[if_pos h0,if_pos h0,if_neg (show ¬m<m by omega), <- Oc,jI]
 ·rw[if_neg h0,if_neg h0,if_pos (show i-1<m by omega)];exact h _ oM
theorem Ou{s:ByteArray}{q:Rat}(h:s.data.toList=fA q):sE s=0:=by rw[jE h];exact Ch q
theorem OI{m n:Nat}{t:Nat -> Nat -> ByteArray}{b:Nat -> ByteArray}{A:Nat -> Nat -> Rat}{bq:Nat -> Rat}(R:n <= 6)(O:m <= 8)(M:∀i,i<m -> ∀j,j<n -> (t i j).data.toList=fA (A i j))(G:∀i,i<m -> (b i).data.toList=fA (bq i)):fD (n+1) (m+1) (fun _=>n+1) (liO n) (liT n t) (liB b)=0:=by
 unfold fD;rw[if_neg oM,if_neg (fun h=>h (fun _ _=>rfl)),kF.2 (fun j _=>by show sE (liO n j)=0;rw[Oe];exact Ch _),if_neg (by simp)];refine kF.2 fun i E=> ?_
 unfold iw;rw[kF.2 (fun j _=>by show sE (liT n t i j)=0;exact Ou (Oq M E)),if_neg (by simp)];exact Ou (Ot G E)
theorem Ov{n j:Nat}:(liO n j).size <= 12:=by unfold liO;split <;> decide
theorem OJ{m n:Nat}{t:Nat -> Nat -> ByteArray}(h:∀i,i<m -> ∀j,j<n -> (t i j).size <= 12){i j:Nat}(E:i<m+1):(liT n t i j).size <= 12:=by
 unfold liT;split
 ·exact Ov
 ·split
  ·exact h _ oM j (by assumption)
  ·decide
theorem OL{m:Nat}{b:Nat -> ByteArray}(h:∀i,i<m -> (b i).size <= 12){i:Nat}(t:i<m+1):(liB b i).size <= 12:=by
 unfold liB;split
 ·decide
 ·exact h _ oM
theorem O8{m n:Nat}(E:n <= 6):Lp.wide (m+1) (n+1) 12 <= 14047:=by
 have h:=Lp.yY (m:=m+1) (n:=n+1) (k:=12) (p:=7) (N:=7) (K:=12) oM oM (Nat.le_refl _);have t:Lp.wb 7 (12* (7+2))+12* (7+1)=14047:=dC
 omega
set_option maxRecDepth 100000 in
set_option maxHeartbeats 12800000 in
theorem OM(v:Int)(vr:Value)(m:Nat)(k:Nat -> Nat)(t:Nat -> Nat -> ByteArray)(b:Nat -> ByteArray)(w:World)(hr:TRA w vr m k t b)(hg:iG w)(ht:Tab w):
  Calls prog 7 #[.int .i64 v,vr] w fun e w'=>e= .returned (.bool true) /\ Below w.heap.size w w':=by
 obtain⟨AR,cR,rfl,bC,bB⟩:=hr.kG.shape;have HR:=lH hr;have am:=lH hg;have an:=lH ht;clear hr hg ht bC bB;go_enter func7,ntmps7;go_wp2_with fail
 refine(pW _ am.o an.o).mono ?_;rintro e w1 ⟨rfl,M⟩;have G:=lH M;clear M;go_wp2_with fail
 refine(Cz 8 _ m k t b _ (HR.o.kG.below G.o)).mono ?_;rintro e w2 ⟨au,M⟩;replace G:=bT G M;clear M
 rcases au with ⟨au,rfl⟩ | ⟨_,rfl⟩
 ·have ae:=lH au.1;have aa:Hid (∀i,i<m -> rz (k i) (t i) (b i)):=lH (fun i O=>au.2 i O);clear au;have HF:Hid (RowsFit m k t b):=lH ⟨by have:=ae.o;omega,fun i O j hj=>by have:=(aa.o i O).2.1 j hj;omega,fun i O=>by have:=(aa.o i O).2.2;omega⟩;have qv:=lH (fun W (g:Below w.heap.size w W)=>vX none AR 0 m 0 cR k (fun _=>⟨#[]⟩) t b W ⟨⟨_,_,rfl,Nat.le_refl _,Nat.zero_le _, .inl rfl⟩, .inl ⟨rfl,rfl⟩⟩ (HR.o.below g) dC (by have:=ae.o;omega) (fun i O=>by have:=(aa.o i O).1;omega));by_cases h6:v <= 6
  ·have hd:decide (6<v)=false:=decide_eq_false oM;have HV:Hid (jF v m k t b=0 -> v.toNat <= 6):=lH (fun _=>by omega);clear h6;go_wp2_with fail
   clear hd;refine(CF v AR m cR k t b _ (HR.o.kG.below G.o) HF.o).mono ?_;rintro e w3 ⟨hr,M⟩;replace G:=bT G M;clear M;obtain⟨AO,nO,cO,A4,m4,c4,rfl,hz⟩:=hr.cases;have az:Hid (jF v m k t b=0 -> 0 <= v /\ fD v.toNat m k (fun _=>⟨#[48]⟩) t b=0):=lH (fun e=>⟨(hz e).2.2.2.2.2.1.1,(hz e).2.2.2.2.2.2⟩);clear hr hz;obtain⟨E,hE⟩:=eX (jF v m k t b);rw[<- hE];have HE:=lH hE;clear hE;obtain⟨w4,T⟩:=eX (w3.alloc (.cells #[.slice AO nO cO, .slice A4 m4 c4] 25));obtain⟨gP,Z⟩:=eX (w3.heap.size);have a0:Below w3.heap.size w3 w4:=by rw[T];exact eD _ _
   have R:Hid (Row w4 gP 25 [.slice AO nO cO, .slice A4 m4 c4]):=lH (by rw[T,Z];exact eP _ _);replace G:=bT G a0;clear a0 R
   go_upto_region 4 with (fail)
   rw[<- T];clear T Z;go_wp2_with fail
   refine(qv.o _ G.o).mono ?_;rintro e w5 ⟨vc,uc,rfl,aq,a7,M⟩;obtain⟨Av,cv,rfl,_,_⟩:=eY.shape aq;clear aq;replace G:=bT G M;clear M;obtain⟨ad,ag,rfl,_,_⟩:=a7.shape;have af:=lH a7.kG;clear a7;have aL:∀w:World,(Instr.field 25 (.agg #[.slice Av 0 cv, .slice ad m ag]) 1).run prog w= .ok (.slice ad m ag) w:=fun _=>by kernel_rfl
   go_wp2_with fail
   clear aL;refine(Ol v ad m ag k t b 12 _ af.o HF.o dC (fun e=>by have:=O8 (m:=m) (HV.o e);omega) (fun i O=>(aa.o i O).2.1) (fun i O=>(aa.o i O).2.2) (an.o.below G.o) (am.o.below G.o)).mono ?_;rintro e w6 ⟨a9,M⟩;replace G:=bT G M;clear M;clear af;unfold Ob at a9;rw[<- HE.o] at a9
   rcases a9 with ⟨h1,rfl⟩ | ⟨h1,A,bq,c,q,x,y,d,aE,aG,a9⟩
   ·have ap:=lH h1;clear h1;have aJ:((E:Nat):Int)≠0:=by have:=ap.o;omega
    have bz:(((E:Nat):Int) !=0)=true:=by simpa using aJ
    have bE:(E !=0)=true:=by have:=ap.o;simpa using this
    have bA:(((E:Nat):Int)== ((E:Nat):Int))=true:=by simp
    go_wp2_with fail
    go_returns;exact⟨rfl,G.o⟩
   ·subst h1;obtain⟨n,rfl⟩:∃n:Nat,v=(n:Int):=⟨v.toNat,by have:=(az.o HE.o.symm).1;omega⟩
    have aD:((n:Nat):Int).toNat=n:=Int.toNat_natCast n;have bp:Hid (fD n m k (fun _=>⟨#[48]⟩) t b=0):=lH (by have h:=(az.o HE.o.symm).2;rw[aD] at h;exact h);have a5:Hid (n <= 6):=lH (by have h:=HV.o HE.o.symm;rw[aD] at h;exact h);rw[aD] at aE aG a9;have ab:=lH aE;have b3:=lH aG;have aH:=lH (mo bp.o).2.2.1;clear aE aG aD az HE HV;have b5:Hid (∀i,i<m -> ∀j,j<n -> (t i j).size <= 12):=lH (fun i O j hj=>(aa.o i O).2.1 j (by rw[aH.o i O];exact hj));have b1:Hid (∀i,i<m -> (b i).size <= 12):=lH (fun i O=>(aa.o i O).2.2)
    rcases a9 with ⟨ar,X,xc,rfl,ah,bk⟩ | ⟨ar,rfl⟩
    ·have bs:Hid (Om m n A bq x):=lH (Oy (b3.o.1 rfl) ar);have ao:=lH ah;have b4:Hid (∀j,j<n -> RL 14048 (x j)):=lH (fun j hj=>(bk j hj).mono (by have:=O8 (m:=m) a5.o;omega));clear ah bk ar;go_wp2_with fail
     refine(qX _ n _ _ ao.o (by have:=a5.o;omega) (fun j hj=>by have:=oh (b4.o j hj);omega)).mono ?_;rintro e w7 ⟨rfl,M⟩;replace ao:=lH (ao.o.below M);replace G:=bT G M;clear M;rw[vY n x];go_wp2_with fail
     refine(OC _ _ n m k _ t b x A bq 12 14048 100000 _ ao.o (HR.o.kG.below G.o) (fun _ _=>rfl) aH.o (fun i O j hj=>jE (ab.o.rows i O j hj)) (fun i O=>jE (ab.o.bounds i O)) (by have:=a5.o;omega) (by have:=ae.o;omega) (fun i O j hj=>iU (ab.o.rows i O j hj) (b5.o i O j hj)) b4.o (fun i O=>(iU (ab.o.bounds i O) (b1.o i O)).mono dC) ⟨by have:=a5.o;omega,by decide,by decide⟩ dC bs.o).mono ?_;rintro e w8 ⟨rfl,M⟩;replace G:=bT G M;clear M;go_wp2_with fail
     go_returns;exact⟨rfl,G.o⟩
    ·have HQ:=lH ar;clear ar;have bS:((n:Nat):Int) <= 6:=by have:=a5.o;omega
     have bH:IntKind.i64.wrap (((n:Nat):Int)+1)=((n:Nat):Int)+1:=IntWalk.i64_in _ oM;obtain⟨w7,T⟩:=eX (w6.alloc (.cells #[.string ⟨#[48]⟩] 30));obtain⟨gZ,Z⟩:=eX (w6.heap.size);have a0:Below w6.heap.size w6 w7:=by rw[T];exact eD _ _
     have ZB:Hid (Row w7 gZ 30 [.string ⟨#[48]⟩]):=lH (by rw[T,Z];exact eP _ _);replace G:=bT G a0;go_wp2_with fail
     rw[<- T, <- Z];clear T Z a0 bH;have aS:=Kt gZ 0 1 (n+1) ⟨#[48]⟩ w7 (ZB.o.at_ 0 rfl) oM (by have:=a5.o;omega);rw[show((n+1:Nat):Int)=(n:Int)+1 by simp] at aS;refine aS.mono ?_;rintro e w8 ⟨g0,rfl,bm,bg,M⟩;clear aS;have SB:=lH bm;have bo:Hid (w.heap.size <= g0):=lH (Nat.le_trans G.o.size bg);clear bm bg;replace G:=bT G M;clear M;clear ZB;have b0:Hid (w.heap.size <= w8.heap.size):=lH G.o.size;obtain⟨w9,T⟩:=eX (w8.alloc (.cells #[.slice (some ⟨g0,0,none⟩) (n+1) (n+1), .slice none 0 0] 25));obtain⟨gP,Z⟩:=eX (w8.heap.size);have a0:Below w8.heap.size w8 w9:=by rw[T];exact eD _ _
     have R:Hid (Row w9 gP 25 [.slice (some ⟨g0,0,none⟩) (n+1) (n+1), .slice none 0 0]):=lH (by rw[T,Z];exact eP _ _);replace SB:=lH (SB.o.below a0);replace G:=bT G a0;have b2:Hid (w.heap.size <= gP):=lH (by rw[Z];exact b0.o);clear b0;obtain⟨av,aw⟩:=aT2 R.o;have ax:=R.o.lt;rw[T] at av aw ax;rw[Z] at av aw ax;have s0:=SB.o.at_ (show n<n+1 by omega);have s1:=SB.o.free n;have s2:=SB.o.lt;rw[T] at s0 s1 s2
     go_upto_region 11 with (fail)
     rw[<- T, <- Z];clear T Z a0 s0 s1 s2 av aw ax;have hg:World.grownBy w9 (w9.setCell ⟨g0,n,none⟩ (.string ⟨#[49]⟩)) (some g0):=grownBy_set _ _ _ _;have bF:=bo.o;obtain⟨_,bn⟩:=SB.o.row;have e1:SK (w9.setCell ⟨g0,n,none⟩ (.string ⟨#[49]⟩)) g0 (n+1) (liO n):=(SB.o.set (x:=⟨#[49]⟩) (show n<n+1 by omega)).congr (fun j hj=>by unfold liO;by_cases h:j=n;(· rw[h,Lp.upd_same,if_neg oM]);rw[Lp.eT _ _ h,if_pos oM]);have e2:=R.o.other hg (fun e=>by subst e;exact absurd (R.o.ty bn) dC);have e3:=G.o.grown hg G.o.size (by first | (simp;done) | (simp;omega));obtain⟨wA,ac⟩:=eX ((w9.setCell ⟨g0,n,none⟩ (.string ⟨#[49]⟩)));rw[<- ac] at e1 e2 e3 ⊢;clear ac hg bF bn SB R G;have SB:=lH e1;have R:=lH e2;have G:=lH e3;clear e1 e2 e3;refine kT (fun w'=> w'.cell? ⟨gP,0,none⟩=some (.slice (some ⟨g0,0,none⟩) (n+1) (n+1)) /\ w'.cell? ⟨gP,1,none⟩=some (.slice none 0 0)) (fun i=>decide (6 <= i)) kR ?_;obtain⟨y1,ai⟩:=eX (wA.drew);rw[<- ai];have M:Below wA.heap.size wA y1:=by rw[ai];exact(Below.refl _ _).drew
     clear ai;have a3:=lH M;clear M;have hh:=And.intro ((R.o.below a3.o R.o.lt).at_ 0 rfl) ((R.o.below a3.o R.o.lt).at_ 1 rfl);refine tKs 0 80 hh ?_;refine tKs 1 81 hh ?_;refine tB 2 [2,3,4,5] (some 82) hh ?_;refine tKs 3 83 hh ?_;refine rD 4 (fun K U=> ?_);go_simp;refine(oq ⟨#[49]⟩ (some ⟨g0,0,none⟩) (n+1) (n+1) _).mono ?_;rintro e y2 ⟨rfl,M⟩;replace a3:=bT a3 M;clear M;clear hh;have hh:=And.intro ((R.o.below a3.o R.o.lt).at_ 0 rfl) ((R.o.below a3.o R.o.lt).at_ 1 rfl);refine kH U hh ?_;clear U K;refine rD 5 (fun K U=> ?_);go_simp;obtain⟨ga,a6⟩:=eX (y2.heap.size);obtain⟨y3,a4⟩:=eX (y2.alloc (.cells #[.slice (some ⟨g0,0,none⟩) (n+1) (n+1), .string ⟨#[49]⟩] 53));have M:Below y2.heap.size y2 y3:=by rw[a4];exact eD _ _
     have Ra:Hid (Row y3 ga 53 [.slice (some ⟨g0,0,none⟩) (n+1) (n+1), .string ⟨#[49]⟩]):=lH (by rw[a4,a6];exact eP _ _);have bO:Hid (wA.heap.size <= ga):=lH (by rw[a6];exact a3.o.size);rw[<- a4, <- a6];clear a4 a6;replace a3:=bT a3 M;clear M;clear hh;have hh:=And.intro ((R.o.below a3.o R.o.lt).at_ 0 rfl) ((R.o.below a3.o R.o.lt).at_ 1 rfl);refine kH U hh ?_;clear U K;refine rD 6 (fun K U=> ?_);have aP:World.ownsRow y3 0 53 2 (.slice none 0 0) 0 (Lh (fun _=>undef) (liB b) 0):=World.ownsRow_nil _ _ _ _;rw[if_pos (by rfl)];refine Od _ (.tmp 81) (.tmp 85) rfl (.slice none 0 0) 0 (fun _=>undef) (liB b) rfl aP (.slice (some ⟨g0,0,none⟩) (n+1) (n+1)) rfl ga Ra.o rfl oM ?_;intro va y4 ho ht;obtain⟨Ar,cr,rfl,_,_⟩:=sP ho;have aj:w.heap.size <= y3.heap.size:=Nat.le_trans G.o.size a3.o.size;have aO:∀g,(Value.slice none 0 0).ownBlock=some g -> w.heap.size <= g:=fun g e=>by simp[Value.ownBlock] at e
     have PN:Hid (Row y4 gP 25 [.slice (some ⟨g0,0,none⟩) (n+1) (n+1), .slice none 0 0]):=lH ((R.o.below a3.o R.o.lt).turned ht (fun e=>by simp[Value.ownBlock] at e));have LN:Hid (LSN y4 (upd (fun _=>undef) 0 (.slice (some ⟨g0,0,none⟩) (n+1) (n+1))) 1 (n+1) (liT n t)):=lH ((LSN.add (w:=y3) (u:=fun _=>undef) (q:=0) (fun i O=>absurd O oM) ⟨g0,n+1,rfl,Nat.le_refl _,by have:=a5.o;unfold maxLen;omega,(SB.o.below a3.o).congr (fun j _=>rfl)⟩).turned ht aP dC);have LR:Hid (∀g,(Value.slice Ar 1 cr).ownBlock=some g -> w.heap.size <= g):=lH (ht.base aj aO);have al:Hid (Below w.heap.size w y4):=lH ((G.o.trans (a3.o.mono G.o.size)).trans (ht.below aj aO));have OR:=lH ho;clear ho ht aj aO aP Ra;refine kL U ?_;clear U K;refine tWs 7 87 ?_;refine rD 8 (fun K U=> ?_);have q1:=aI 1 PN;have f1:=PN.o.free 1;have ql:=PN.o.lt;go_simp;refine kL U ?_;clear U K;refine dN ?_ _;clear hh;clear q1 f1 ql;have hg:World.grownBy y4 (y4.setCell ⟨gP,1,none⟩ (.slice Ar 1 cr)) (some gP):=grownBy_set _ _ _ _;have aM:=b2.o;have e1:=PN.o.set 1 (.slice Ar 1 cr);have e2:=lI OR.o hg (fun g h e=>by obtain⟨_,hx⟩:=qN OR.o h;simp only[Option.some.injEq] at e;rw[<- e] at hx;exact absurd (PN.o.ty hx) dC);have e3:=LN.o.other hg PN.o dC;have e4:=al.o.grown hg al.o.size (by first | (simp;done) | (simp;omega));obtain⟨wB,ac⟩:=eX ((y4.setCell ⟨gP,1,none⟩ (.slice Ar 1 cr)));rw[<- ac] at e1 e2 e3 e4 ⊢;clear ac hg aM R G PN OR LN al SB;have R:Hid (Row wB gP 25 [.slice (some ⟨g0,0,none⟩) (n+1) (n+1), .slice Ar 1 cr]):=lH e1;have OR:=lH e2;have LN:=lH e3;have G:=lH e4;clear e1 e2 e3 e4;go_wp2_with fail
     go_loopw [90] (fun iv wr=>∃ (q:Nat) (Ar:Option Addr) (cr:Nat) (u:Nat -> Value),q <= m /\ iv= .int .i64 q /\ Hid (World.ownsRow wr 0 53 2 (.slice Ar (q+1) cr) (q+1) (Lh u (liB b) (q+1))) /\ Hid (LSN wr u (q+1) (n+1) (liT n t)) /\ Hid (u 0= .slice (some ⟨g0,0,none⟩) (n+1) (n+1)) /\ Hid (∀g,(Value.slice Ar (q+1) cr).ownBlock=some g -> w.heap.size <= g) /\ Hid (Row wr gP 25 [.slice (some ⟨g0,0,none⟩) (n+1) (n+1), .slice Ar (q+1) cr]) /\ Hid (Below w.heap.size w wr))
      (fun iv _=>m-(intOf iv).toNat)
     case atStart=>exact⟨0,Ar,cr,upd (fun _=>undef) 0 (.slice (some ⟨g0,0,none⟩) (n+1) (n+1)),Nat.zero_le _,rfl,OR,LN,lH (by rw[Lp.upd_same]),LR,R,G⟩
     case round=>
      clear OR LN LR R G;obtain⟨q,Ar,cr,u,hq,rfl,OR,LN,b6,LR,R,G⟩:=hrel;by_cases bI:((q:Nat):Int)<((m:Nat):Int)
      ·have aQ:q<m:=oM
       have bP:=lH aQ;have bU:q <= 8:=by have:=ae.o;omega
       obtain⟨gR,oR,rfl,be⟩:=(HR.o.below G.o).at_ oM;obtain⟨z,bc,bd,ah⟩:=be q aQ;rw[aH.o q aQ] at ah;obtain⟨X,xc,rfl,_,_⟩:=ah.1.shape;have c1:=bc;have c2:=bd;have cl:=eG c1;clear be bc bd;obtain⟨wC,T⟩:=eX (wr.alloc (.cells #[.slice X n xc, .string (b q)] 53));obtain⟨g5,Z⟩:=eX (wr.heap.size);have a0:Below wr.heap.size wr wC:=by rw[T];exact eD _ _
       have XB:Hid (Row wC g5 53 [.slice X n xc, .string (b q)]):=lH (by rw[T,Z];exact eP _ _);replace R:=rW R a0;replace LN:=lH (LN.o.below a0);replace G:=bT G a0;replace OR:=lH (lI OR.o (below_grown a0) (by simp));have ao:=lH (ah.below a0);clear ah
       skip
       go_upto_region 15 with (fail)
       rw[<- T, <- Z];clear T Z a0 c1 c2 cl;obtain⟨iN,bG,bK,bL,bM⟩:=info_parts Ho;refine kT (fun w'=> w'.cell? ⟨gP,1,none⟩=some (.slice Ar (q+1) cr) /\ w'.cell? ⟨g5,0,none⟩=some (.slice X n xc) /\ w'.cell? ⟨g5,1,none⟩=some (.string (b q))) (fun i=>decide (11 <= i)) kR ?_;obtain⟨a2,ai⟩:=eX (wC.drew);rw[<- ai];have a1:Hid (Below wC.heap.size wC a2):=OO (by rw[ai];exact(Below.refl _ _).drew);clear ai;have ak:=And.intro ((R.o.below a1.o R.o.lt).at_ 1 rfl) (And.intro ((XB.o.below a1.o XB.o.lt).at_ 0 rfl) ((XB.o.below a1.o XB.o.lt).at_ 1 rfl));refine OY 0 94 ak ?_;refine OY 1 95 ak ?_;refine OZ 2 [2,3,9,10] 96 ak ?_;refine OY 3 97 ak ?_;refine OZ 4 [4,5,6,8,9,10] 98 ak ?_;refine OZ 5 [5,6,8,9,10] 99 ak ?_;clear ak
       repeat' first
        | (with_reducible show gF _ _ _ _ _ _ _ _ _ _
           first
           | (refine P5 12 106 ?_)
           | (refine OP [6,7] ?_
              refine OX 6 rfl (fun K U=> ?_) (OX 7 rfl (fun K U=> ?_) (gG.nil)))
           | (refine OP [6] ?_
              refine OX 6 rfl (fun K U=> ?_) (gG.nil))
           | (refine OP [7] ?_
              refine OX 7 rfl (fun K U=> ?_) (gG.nil))
           | (refine OP [8] ?_
              refine OX 8 rfl (fun K U=> ?_) (gG.nil))
           | (refine OP [9] ?_
              refine OX 9 rfl (fun K U=> ?_) (gG.nil))
           | (refine OP [10] ?_
              refine OX 10 rfl (fun K U=> ?_) (gG.nil))
           | (refine OP [11] ?_
              refine OX 11 rfl (fun K U=> ?_) (gG.nil))
           | (refine OP [13] ?_
              refine OX 13 rfl (fun K U=> ?_) (gG.nil))
           | (refine OU ?_ _
              clear q1 f1 ql;have hg:World.grownBy a2 (a2.setCell ⟨gP,1,none⟩ (.slice ay (q+1+1) aA)) (some gP):=grownBy_set _ _ _ _;have aM:=b2.o;have e1:=PN.o.set 1 (.slice ay (q+1+1) aA);have e2:=lI b8.o hg (fun g h e=>by obtain⟨_,hx⟩:=qN b8.o h;simp only[Option.some.injEq] at e;rw[<- e] at hx;exact absurd (PN.o.ty hx) dC);have e3:=bw.o.other hg PN.o dC;have e4:=al.o.grown hg al.o.size (by first | (simp;done) | (simp;omega));obtain⟨wE,ac⟩:=eX ((a2.setCell ⟨gP,1,none⟩ (.slice ay (q+1+1) aA)));rw[<- ac] at e1 e2 e3 e4 ⊢;clear ac hg aM;have G1:=OO e1;have G2:=OO e2;have G3:=OO e3;have G4:=OO e4;clear e1 e2 e3 e4;go_wp2_with fail
              go_roundw
              case rel=>exact⟨q+1,ay,aA,upd u (q+1) (.slice Y2 (n+1) y2),by omega,by go_num,G2,G3,OO (by rw[Lp.eT _ _ oM];exact b6.o),bx,G1,G4⟩
              case measure=>exact mZ))
        | (refine EvZ.mk (i:=6) ?_
           go_simp;refine(zX _ n (t q) _ (ao.o.below a1.o) (by have:=a5.o;omega)).mono ?_;rintro e a8 ⟨v5,rfl,aT,bi,_,M⟩;obtain⟨Y,y,rfl,_,_⟩:=eY.shape aT;have V5:=OO aT;have b7:Hid (∀g,(Value.slice Y n y).ownBlock=some g -> wC.heap.size <= g):=OO (fun g e=>Nat.le_trans a1.o.size (bi g e));clear aT bi
           refine onZ 99 ?_)
        | (refine EvZ.mk (i:=7) ?_
           go_simp;obtain⟨gt,a6⟩:=eX (a2.heap.size);obtain⟨a8,a4⟩:=eX (a2.alloc (.cells #[.string ⟨#[49]⟩] 30));rw[<- a4, <- a6];have M:Below a2.heap.size a2 a8:=by rw[a4];exact eD _ _
           have Rt:Hid (Row a8 gt 30 [.string ⟨#[49]⟩]):=OO (by rw[a4,a6];exact eP _ _);clear a4 a6
           refine onZ 99 ?_)
        | (refine EvZ.mk (i:=8) ?_
           rw[if_pos (by rfl)];have hv:eY a2 (.slice Y n y) 30 n (fun j z=>z= .string (liT n t (q+1) j)):=eY.congr V5.o (fun j hj z hz=>by rw[hz];unfold liT;rw[if_neg oM,if_pos hj,Nat.add_sub_cancel]);refine vZ _ (.tmp 100) (.tmp 101) 22 rfl 30 iN (.string ⟨#[]⟩) 16 underlying22 bG bK bL bM rfl (.slice Y n y) n _ rfl hv (.string ⟨#[49]⟩) rfl (by unfold liT;rw[if_neg oM,if_neg oM]) gt Rt.o rfl ⟨by have:=a5.o;unfold maxLen;omega,by have:=a5.o;omega⟩ ?_;intro va a8 ho ht;obtain⟨Y2,y2,rfl,_,_⟩:=ho.shape;replace a1:=OO (a1.o.trans (ht.below (B:=wC.heap.size) a1.o.size b7.o));have V6:Hid (fH a8 (.slice Y2 (n+1) y2) (n+1) (liT n t (q+1))):=OO ho;clear ho ht hv V5 b7 Rt
           refine onZ 98 ?_)
        | (refine EvZ.mk (i:=9) ?_
           go_simp;refine(oq (b q) Y2 (n+1) y2 _).mono ?_;rintro e a8 ⟨rfl,M⟩
           refine onZ 99 ?_)
        | (refine EvZ.mk (i:=10) ?_
           go_simp;obtain⟨ga,a6⟩:=eX (a2.heap.size);obtain⟨a8,a4⟩:=eX (a2.alloc (.cells #[.slice Y2 (n+1) y2, .string (b q)] 53));rw[<- a4, <- a6];have M:Below a2.heap.size a2 a8:=by rw[a4];exact eD _ _
           have Ra:Hid (Row a8 ga 53 [.slice Y2 (n+1) y2, .string (b q)]):=OO (by rw[a4,a6];exact eP _ _);clear a4 a6
           refine onZ 99 ?_)
        | (refine EvZ.mk (i:=11) ?_
           rw[if_pos (by rfl)];have a7:=lI OR.o (below_grown a1.o) (by simp);refine Od _ (.tmp 95) (.tmp 104) rfl (.slice Ar (q+1) cr) (q+1) u (liB b) rfl a7 (.slice Y2 (n+1) y2) rfl ga Ra.o rfl oM ?_;intro va a8 ho ht;obtain⟨ay,aA,rfl,_,_⟩:=sP ho;have aj:w.heap.size <= a2.heap.size:=Nat.le_trans G.o.size a1.o.size;have PN:=OO ((R.o.below a1.o R.o.lt).turned ht (fun e=>by obtain⟨_,hx⟩:=qN a7 e;exact absurd ((R.o.below a1.o R.o.lt).ty hx) dC));have bw:=OO (((LN.o.below a1.o).add (eY.ls V6.o oM)).turned ht a7 dC);have bx:=OO (ht.base aj LR.o);have al:=OO ((G.o.trans (a1.o.mono G.o.size)).trans (ht.below aj LR.o));have b8:=OO ho;clear ho ht aj a7 Ra V6 a1;obtain⟨a2,rfl⟩:=eX (a8);refine OT U ?_
           clear U K)
        | (refine EvZ.mk (i:=13) ?_
           have q1:=aI 1 PN;have f1:=PN.o.free 1;have ql:=PN.o.lt;go_simp;refine OT U ?_
           clear U K)
        | (refine EvZ.mk (i:=99) ?_
           (try replace V5:=OO (eY.below V5.o M))
           (try replace V6:=OO (eY.below V6.o M))
           (try replace Rt:=OO (Rt.o.below M Rt.o.lt))
           (try replace Ra:=OO (Ra.o.below M Ra.o.lt))
           (try replace a1:=OO (a1.o.trans (M.mono a1.o.size)))
           clear M
           refine onZ 98 ?_)
        | (refine EvZ.mk (i:=98) ?_
           obtain⟨a2,rfl⟩:=eX (a8);refine OV U (And.intro ((R.o.below a1.o R.o.lt).at_ 1 rfl) (And.intro ((XB.o.below a1.o XB.o.lt).at_ 0 rfl) ((XB.o.below a1.o XB.o.lt).at_ 1 rfl))) ?_
           clear U K)
      ·obtain rfl:m=q:=oM
       clear hq bI;obtain⟨av,aw⟩:=aT2 R.o;have ax:=R.o.lt;go_wp2_with fail
       clear av aw ax;have af:=lH (OH OR.o LN.o);have bu:Hid (TS wr (.slice (some ⟨g0,0,none⟩) (n+1) (n+1)) (n+1) (liO n)):=lH (by obtain⟨g,c,e1,h1,h2,h3⟩:=LN.o 0 oM;rw[b6.o] at e1;simp only[Value.slice.injEq,Option.some.injEq,Addr.mk.injEq,and_true,true_and] at e1;obtain⟨rfl,rfl⟩:=e1;exact h3.ts h1 h2);refine(K6 (some ⟨g0,0,none⟩) Ar (n+1) (m+1) (n+1) cr (fun _=>n+1) (liO n) (liT n t) (liB b) 12 28101 449825 _ bu.o af.o (OI a5.o ae.o ab.o.rows ab.o.bounds) dC dC (fun j _=>Ov) (fun i O j _=>OJ b5.o O) (fun i O=>OL b1.o O) (by have:=O8 (m:=m) a5.o;omega) dC ⟨by have:=a5.o;have:=ae.o;omega,by decide,by decide⟩ dC (am.o.below G.o) (an.o.below G.o)).mono ?_;rintro e wF ⟨⟨O1,v,rfl,hO,bf,bh,bJ,A1,bQ,c1,bW,bX,bY,bR,aF,aN,bj⟩,M⟩;replace G:=bT G M;clear M;obtain⟨aY,ba,aZ,bb,aX,b9,rfl,_,_,_⟩:=hO.shape;clear hO;have HS:=lH (KM dC bh (KW (k:=m) oM b3.o) (OD (fun i O j hj=>lq (aF.rows i O j hj) (Oq ab.o.rows O)) (fun i O=>lq (aF.bounds i O) (Ot ab.o.bounds O)) (fun j hj=>lq (aF.obj j hj) (by rw[Oe,jI])) bj));have aC:=HS.o.1;have aR:=HS.o.2 rfl;have bl:O1.s=eF q:=by rw[jE (aN.val aC.symm),aR]
       have br:Hid (RL 28101 q):=lH (by rw[aR];exact iU (aN.val aC.symm) bf.1);rw[<- aC,bl];clear aF aN bj bf bJ bh aC aR bl HS;obtain⟨wG,T⟩:=eX (wF.alloc (.cells #[.int .i64 1, .string (eF q), .slice aY O1.np ba, .slice aZ O1.ny bb, .slice aX O1.nd b9] 32));obtain⟨gA,Z⟩:=eX (wF.heap.size);have a0:Below wF.heap.size wF wG:=by rw[T];exact eD _ _
       have AB:Hid (Row wG gA 32 [.int .i64 1, .string (eF q), .slice aY O1.np ba, .slice aZ O1.ny bb, .slice aX O1.nd b9]):=lH (by rw[T,Z];exact eP _ _);replace G:=bT G a0;obtain⟨aU,aV⟩:=aT2 AB.o;have aW:=AB.o.lt;rw[T] at aU aV aW;rw[Z] at aU aV aW;go_wp2_with fail
       rw[<- T];clear T Z a0 aU aV aW;refine(tO q 28101 _ br.o dC).mono ?_;rintro e wH ⟨rfl,M⟩;replace G:=bT G M;clear M;have hd:decide (sgI q.num <= 0)=true:=decide_eq_true (by have h1:=HQ.o;have:=mt AQ.1 (fun h=>Rat.not_le.2 (vR.1 h) h1);omega);go_wp2_with fail
       go_returns;exact⟨rfl,G.o⟩
  ·by_cases aB:v <= 96
   ·have hd:decide (6<v)=true:=decide_eq_true oM;have aK:decide (v <= 96)=true:=decide_eq_true aB;clear h6 aB;go_wp2_with fail
    clear hd aK;refine(pW _ (am.o.below G.o) (an.o.below G.o)).mono ?_;rintro e wk ⟨rfl,M⟩;replace G:=bT G M;clear M;go_wp2_with fail
    go_returns;exact⟨rfl,G.o⟩
   ·have hd:decide (6<v)=true:=decide_eq_true oM;have aK:decide (v <= 96)=false:=decide_eq_false aB;have HV:Hid (jF v m k t b=0 -> v.toNat <= 6):=lH (fun e=>by unfold jF at e;rw[if_pos oM] at e;cases e);have bv:Hid (96<v):=lH oM;clear h6 aB;go_wp2_with fail
    clear hd aK;refine(CF v AR m cR k t b _ (HR.o.kG.below G.o) HF.o).mono ?_;rintro e w3 ⟨hr,M⟩;replace G:=bT G M;clear M;obtain⟨AO,nO,cO,A4,m4,c4,rfl,hz⟩:=hr.cases;have az:Hid (jF v m k t b=0 -> 0 <= v /\ fD v.toNat m k (fun _=>⟨#[48]⟩) t b=0):=lH (fun e=>⟨(hz e).2.2.2.2.2.1.1,(hz e).2.2.2.2.2.2⟩);clear hr hz;obtain⟨E,hE⟩:=eX (jF v m k t b);rw[<- hE];have HE:=lH hE;clear hE;obtain⟨w4,T⟩:=eX (w3.alloc (.cells #[.slice AO nO cO, .slice A4 m4 c4] 25));obtain⟨gP,Z⟩:=eX (w3.heap.size);have a0:Below w3.heap.size w3 w4:=by rw[T];exact eD _ _
    have R:Hid (Row w4 gP 25 [.slice AO nO cO, .slice A4 m4 c4]):=lH (by rw[T,Z];exact eP _ _);replace G:=bT G a0;clear a0 R
    go_upto_region 4 with (fail)
    rw[<- T];clear T Z;go_wp2_with fail
    refine(qv.o _ G.o).mono ?_;rintro e w5 ⟨vc,uc,rfl,aq,a7,M⟩;obtain⟨Av,cv,rfl,_,_⟩:=eY.shape aq;clear aq;replace G:=bT G M;clear M;obtain⟨ad,ag,rfl,_,_⟩:=a7.shape;have af:=lH a7.kG;clear a7;have aL:∀w:World,(Instr.field 25 (.agg #[.slice Av 0 cv, .slice ad m ag]) 1).run prog w= .ok (.slice ad m ag) w:=fun _=>by kernel_rfl
    go_wp2_with fail
    clear aL;refine(Ol v ad m ag k t b 12 _ af.o HF.o dC (fun e=>by have:=O8 (m:=m) (HV.o e);omega) (fun i O=>(aa.o i O).2.1) (fun i O=>(aa.o i O).2.2) (an.o.below G.o) (am.o.below G.o)).mono ?_;rintro e w6 ⟨a9,M⟩;replace G:=bT G M;clear M;clear af;unfold Ob at a9;rw[<- HE.o] at a9
    rcases a9 with ⟨h1,rfl⟩ | ⟨h1,A,bq,c,q,x,y,d,aE,aG,a9⟩
    ·have ap:=lH h1;clear h1;have aJ:((E:Nat):Int)≠0:=by have:=ap.o;omega
     have bz:(((E:Nat):Int) !=0)=true:=by simpa using aJ
     have bE:(E !=0)=true:=by have:=ap.o;simpa using this
     have bA:(((E:Nat):Int)== ((E:Nat):Int))=true:=by simp
     go_wp2_with fail
     go_returns;exact⟨rfl,G.o⟩
    ·exact absurd (HE.o.symm.trans h1) (by unfold jF;rw[if_pos (by have:=bv.o;omega)];decide)
 ·go_wp2_with fail
  refine(pW _ (am.o.below G.o) (an.o.below G.o)).mono ?_;rintro e wk ⟨rfl,M⟩;replace G:=bT G M;clear M;go_wp2_with fail
  go_returns;exact⟨rfl,G.o⟩
end Go.Proofs.YtdefghfjhgmpfaaGreatDoor
