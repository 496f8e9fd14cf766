/- Parts of this proof: SRowsM Held4 SRows BegM. -/
import Derived.Test.YtokagbahdkfagaaGreatDoorMAY
import Derived.Test.YtokagbahdkfagaaGreatDoorMAP
import Derived.Test.YtokagbahdkfagaaGreatDoorMAE
namespace Go.Proofs.YtokagbahdkfagaaGreatDoor
open Go.Proofs.Tryz
section
open Go.RowKit
open Lp (RL upd eH)
theorem zD:(prog.info? 157).map (fun i=>(i.zero,i.size,i.bytes))=some (some (.agg #[.slice none 0 0, .string ⟨#[]⟩]),2,40):=by kernel_rfl
def clR(u:Nat -> Value)(b:Nat -> ByteArray):Nat -> List Value
 | 0=>[]
 | m+1=>clR u b m++ [u m, .string (b m)]
theorem zF(u:Nat -> Value)(b:Nat -> ByteArray)(m:Nat):(clR u b m).length=m*2:=by
 induction m with
 | zero=>rfl
 | succ m h=>simp only[clR,List.length_append,h,List.length_cons,List.length_nil];omega
theorem GY{u:Nat -> Value}{b:Nat -> ByteArray}{m i:Nat}(h:i<m):(clR u b m)[i*2]? =some (u i) /\ (clR u b m)[i*2+1]? =some (.string (b i)):=by
 induction m with
 | zero=>omega
 | succ m t=>
  have C:=zF u b m;by_cases e:i=m
  ·subst e;exact⟨by rw[clR,List.getElem?_append_right oM,show i*2-(clR u b i).length=0 by omega];rfl,by rw[clR,List.getElem?_append_right oM,show i*2+1-(clR u b i).length=1 by omega];rfl⟩
  ·obtain⟨h1,r⟩:=t oM;exact⟨by rw[clR,List.getElem?_append_left oM];exact h1,by rw[clR,List.getElem?_append_left oM];exact r⟩
theorem uL(u:Nat -> Value)(x:Value)(b:Nat -> ByteArray)(q k:Nat)(r:k <= q):clR (upd u q x) b k=clR u b k:=by
 induction k with
 | zero=>rfl
 | succ k h=>rw[clR,clR,h oM,Lp.eQ _ _ oM]
def TLs(w:World)(u:Value)(n:Nat)(s:Nat -> ByteArray):Prop:=∃g,u= .slice (some ⟨g,0,none⟩) n n /\ n <= maxLen /\ SK w g n s
def TLn(w:World)(u:Nat -> Value)(q n:Nat)(s:Nat -> Nat -> ByteArray):Prop:=∀i,i<q -> TLs w (u i) n (s i)
section
variable {w w':World} {u:Nat -> Value} {v v':Value} {q n:Nat} {s:Nat -> Nat -> ByteArray} {e:TypeId}
theorem TLn.below(h:TLn w u q n s)(C:Below w.heap.size w w'):TLn w' u q n s:=fun i E=>by
 obtain⟨g,h1,r,t⟩:=h i E;exact⟨g,h1,r,t.below C⟩
theorem TLn.turned{size k:Nat}{xs:List Value}(h:TLn w u q n s)(R:Turned w w' v v')(O:w.ownsRow 0 e size v k xs)(G:e≠22):TLn w' u q n s:=fun i M=>by
 obtain⟨g',h1,C,cs,r,E⟩:=h i M;exact⟨g',h1,C,cs,r.turned R (fun t=>by obtain⟨_,T⟩:=qU O t;exact G (T.ty r)),E⟩
theorem TLn.add{x:Value}(h:TLn w u q n s)(t:TLs w x n (s q)):TLn w (upd u q x) (q+1) n s:=fun i C=>by
 by_cases r:i=q
 ·rw[r,Lp.upd_same];exact t
 ·rw[Lp.eQ _ _ r];exact h i oM
theorem GZ{b:Nat -> ByteArray}(r:w.ownsRow 0 157 2 v q (clR u b q))(h:TLn w u q n s):jY w v q (fun _=>n) s b:=by
 obtain⟨A,c,rfl,R,T⟩:=om r;refine⟨A,c,rfl,R,T,?_⟩
 rcases Nat.eq_zero_or_pos q with h0 | h0
 ·exact .inl h0
 ·rcases r.2 with ⟨_,V⟩ | ⟨g,cap,U,t,_⟩
  ·omega
  ·simp only[Value.slice.injEq,true_and] at t;refine .inr ⟨g,0,t.1,fun i C=> ?_⟩;obtain⟨E,G⟩:=GY (u:=u) (b:=b) C;obtain⟨g',h1,M,O⟩:=h i C;have W:=zF u b q;rw[t.1] at r;refine⟨u i,?_,?_,by rw[h1];exact O.ts (Nat.le_refl _) M⟩
   ·rw[Nat.zero_add,World.ownsRow.cellAt r (i*2) oM];exact E
   ·rw[Nat.zero_add,World.ownsRow.cellAt r (i*2+1) oM];exact G
end
theorem H5(w:World){o:Oper}{a:Act}{K:Act -> World -> Prop}{Q:Exit -> Act -> World -> Prop}(s x:Operand)
  (M:o.op= .call {callee:= .builtin .append,args:= #[s,x],argTypes:= #[154,154]})
  (v:Value) (q:Nat) (u:Nat -> Value) (b:Nat -> ByteArray) (U:a.eval s=v) (O:w.ownsRow 0 157 2 v q (clR u b q))
  (r t:Value) (h0:r.oneCell'=true) (h1:t.oneCell'=true) (g:Nat) (T:Row w g 157 [r, .string (b q),t, .string (b (q+1))]) (W:a.eval x= .slice (some ⟨g,0,none⟩) 2 2)
  (a0:q <= 1000000000000)
  (h:∀v' w',w'.ownsRow 0 157 2 v' (q+2) (clR (upd (upd u q r) (q+1) t) b (q+2)) -> Turned w w' v v' -> K (a.put o.dst v') w'):Oper.wp prog o a w K Q:=by
 obtain⟨i,E,X,Y,Z⟩:=info_parts zD;refine nO _ s x _ M _ i _ 2 40 underlying154 E X Y Z rfl dC v q _ U O ⟨g,0,none⟩ 2 2 [r, .string (b q),t, .string (b (q+1))] W rfl ?_ ?_ (by unfold maxLen;omega) oM ?_
 ·intro j y G;rw[add0];exact T.at_ j G
 ·intro y C;simp only[List.mem_cons,List.not_mem_nil,or_false] at C;rcases C with rfl | rfl | rfl | rfl <;> first | exact h0 | exact h1 | rfl
 ·intro v' w' R V;refine h v' w' ?_ V;rw[show q+2=q+1+1 from rfl,clR,clR,Lp.upd_same,Lp.eQ _ _ oM,Lp.upd_same,uL _ _ _ _ _ oM,uL _ _ _ _ _ oM,List.append_assoc];exact R
theorem H6(w:World){o:Oper}{a:Act}{K:Act -> World -> Prop}{Q:Exit -> Act -> World -> Prop}(s x:Operand)
  (G:o.op= .call {callee:= .builtin .append,args:= #[s,x],argTypes:= #[154,154]})
  (v:Value) (q:Nat) (u:Nat -> Value) (b:Nat -> ByteArray) (T:a.eval s=v) (M:w.ownsRow 0 157 2 v q (clR u b q))
  (r:Value) (h0:r.oneCell'=true) (g:Nat) (R:Row w g 157 [r, .string (b q)]) (V:a.eval x= .slice (some ⟨g,0,none⟩) 1 1)
  (Z:q <= 1000000000000)
  (h:∀v' w',w'.ownsRow 0 157 2 v' (q+1) (clR (upd u q r) b (q+1)) -> Turned w w' v v' -> K (a.put o.dst v') w'):Oper.wp prog o a w K Q:=by
 obtain⟨i,C,W,X,Y⟩:=info_parts zD;refine nO _ s x _ G _ i _ 2 40 underlying154 C W X Y rfl dC v q _ T M ⟨g,0,none⟩ 1 1 [r, .string (b q)] V rfl ?_ ?_ (by unfold maxLen;omega) oM ?_
 ·intro j y E;rw[add0];exact R.at_ j E
 ·intro y t;simp only[List.mem_cons,List.not_mem_nil,or_false] at t;rcases t with rfl | rfl <;> first | exact h0 | rfl
 ·intro v' w' O U;refine h v' w' ?_ U;rw[clR,uL _ _ _ _ _ (Nat.le_refl _),Lp.upd_same];exact O
def nR(k:Nat):Frm:=⟨⟨#[]⟩,1,fun _=>(k:Nat),fun _=>⟨#[49]⟩⟩
theorem H7{w:World}{g k:Nat}(h:Row w g 126 [.int .i64 (k:Nat), .string ⟨#[49]⟩]):TT w (.slice (some ⟨g,0,none⟩) 1 1) (nR k).N (nR k).d (nR k).f:=
 ⟨_,1,rfl,Nat.le_refl _,by unfold maxLen;omega, .inr ⟨g,0,rfl,fun j r=>by
  have:j=0:=Nat.lt_one_iff.1 r;subst this
  exact⟨h.at_ 0 rfl,h.at_ 1 rfl⟩⟩⟩
theorem zG(k j:Nat):iw (nR k) (nR k).N j=upd (fun _=>0) k 1 j:=by
 show upd (fun _=>0) ((k:Nat):Int).toNat (qof ⟨#[49]⟩) j=_;rw[Int.toNat_natCast,jQ (q:=1) kR]
theorem zH(P:Prb){k:Nat}(h:k<P.n)(j:Nat):pA P (2*k) j=upd (fun _=>0) k 1 j* ((1:Int):Rat):=by
 unfold pA;rw[if_pos oM,show 2*k / 2=k by omega,if_pos oM];rfl
theorem zI(P:Prb){k:Nat}(h:k<P.n)(j:Nat):pA P (2*k+1) j=upd (fun _=>0) k 1 j* ((-1:Int):Rat):=by
 unfold pA;rw[if_pos oM,show(2*k+1) / 2=k by omega,if_neg oM];rfl
theorem H8(P:Prb){k:Nat}(h:k<P.n):pB P (2*k)=((P.a k+P.u k:Int):Rat):=by
 unfold pB;rw[if_pos oM,show 2*k / 2=k by omega,if_pos oM]
theorem H9(P:Prb){k:Nat}(h:k<P.n):pB P (2*k+1)=((-P.a k-P.l k:Int):Rat):=by
 unfold pB;rw[if_pos oM,show(2*k+1) / 2=k by omega,if_neg oM]
theorem Ha(P:Prb)(k j:Nat):pA P (2*P.n+k) j=iw (P.F k) (P.F k).N j* ((1:Int):Rat):=by
 unfold pA;rw[if_neg oM,Nat.add_sub_cancel_left];rfl
theorem Hd(P:Prb)(k:Nat):pB P (2*P.n+k)= -qof (P.F k).c:=by
 unfold pB;rw[if_neg oM,Nat.add_sub_cancel_left]
theorem rM{z:Int}{k:Nat}(h:z.natAbs<10^k)(r:0<k):RL k (z:Rat):=⟨h,Nat.one_lt_pow oM dC⟩
end
section
open Go.RowKit
structure EvZ (i:Nat) (p:Prop):Prop where
 mk:: (evz:p)
section
variable {P:Program} {ops:Array Oper} {Q:Exit -> Act -> World -> Prop} {md:Region.Mode} {S:World -> Prop} {late:Nat -> Bool} {oi:Oper} {v:Value} {fuel:Nat} {listed:Array Bool} {a b:Act} {w:World}
end
end
section
open Go.RowKit
open Lp (RL upd eH)
set_option maxRecDepth 100000 in
set_option maxHeartbeats 12800000 in
theorem rO(P:Prb)(A C:Option Addr)(cA cC:Nat)(Kt:Nat)(w:World)(hp:PIn w (.slice A P.n cA) (.slice C P.m cC) P)(ho:POk P)(hf:∀i,i<P.m -> ∀k,k<(P.F i).N -> ((P.F i).f k).size <= Kt)(hc:∀i,i<P.m -> (P.F i).c.size <= Kt)(O:0<Kt /\ Kt <= 65536)(ht:Tab w)(hg:fF w):
  Calls prog 116 #[.agg #[.slice A P.n cA, .slice C P.m cC]] w fun e w'=>∃B b,e= .returned (.slice B (pM P) b) /\ jY w' (.slice B (pM P) b) (pM P) (fun _=>P.n) (fun i j=>eB (pA P i j)) (fun i=>eB (pB P i)) /\ Below w.heap.size w w':=by
 have HD:=lH hp.1;have HC:=lH hp.2;have a2:=lH ho;have av:=lH (And.intro hf hc);have aq:=lH O;have ai:=lH ht;have ap:=lH hg;clear hp ho hf hc O ht hg;obtain⟨W,hW,X,G⟩:=eN1 w [.slice A P.n cA, .slice C P.m cC] 58;go_enter func116,ntmps116;have aJ:=aI 0 X;have aK:=X.o.lt;go_wp2_with fail
 rw[<- hW];clear hW;go_wp2_with fail
 clear aJ aK
 go_loopw [3,16] (fun ov iv wr=>∃ (k:Nat) (B:Option Addr) (b:Nat) (u:Nat -> Value),k <= P.n /\ ov= .slice B (2*k) b /\ iv= .int .i64 k /\ Hid (World.ownsRow wr 0 157 2 (.slice B (2*k) b) (2*k) (clR u (fun i=>eB (pB P i)) (2*k))) /\ Hid (TLn wr u (2*k) P.n (fun i j=>eB (pA P i j))) /\ Hid (∀g,(Value.slice B (2*k) b).ownBlock=some g -> w.heap.size<g) /\ Hid (Row wr w.heap.size 58 [.slice A P.n cA, .slice C P.m cC]) /\ Hid (Below w.heap.size w wr)) (fun _ iv _=>P.n-(intOf iv).toNat)
 case atStart=>exact⟨0,none,0,fun _=>undef,Nat.zero_le _,rfl,rfl,lH (World.ownsRow_nil _ _ _ _),lH (fun i hi=>absurd hi oM),lH (fun g hg=>by simp[Value.ownBlock] at hg),X,G⟩
 case round=>
  clear X G;obtain⟨k,B,b,u,hk,rfl,rfl,OR,Z,LR,X,G⟩:=hrel;by_cases b6:((k:Nat):Int)<(P.n:Nat)
  ·have a0:k<P.n:=oM
   obtain⟨gA,oA,rfl,aa⟩:=HD.o.at_ oM;have ao:=cell_below G.o (aa k a0).1;have aF:=cell_below G.o (aa k a0).2.1;have aG:=cell_below G.o (aa k a0).2.2.1;have ba:=cell_below G.o (aa k a0).2.2.2;have aH:=eF ao;clear aa;have aJ:=aI 0 X;have aK:=X.o.lt;have aP:=a2.o.dim k a0;obtain⟨w3,a7⟩:=eX (wr.alloc (.cells #[.string (P.s k), .int .i64 (P.a k), .int .i64 (P.l k), .int .i64 (P.u k)] 76));obtain⟨gD,ac⟩:=eX (wr.heap.size);have a3:Below wr.heap.size wr w3:=by rw[a7];exact eD _ _
   have E:Hid (Row w3 gD 76 [.string (P.s k), .int .i64 (P.a k), .int .i64 (P.l k), .int .i64 (P.u k)]):=lH (by rw[a7,ac];exact eO _ _);replace X:=rW X a3;replace Z:=lH (Z.o.below a3);replace G:=bT G a3;replace OR:=lH (jr OR.o (below_grown a3) (by simp));replace LR:=LR;clear a3
   go_upto_region 7 with (fail)
   rw[<- a7, <- ac];clear a7 ac ao aF aG ba aH aJ aK;obtain⟨w4,am⟩:=eX (w3.alloc (.cells #[.int .i64 (k:Nat), .string ⟨#[49]⟩] 126));obtain⟨gI,ar⟩:=eX (w3.heap.size);have aj:Below w3.heap.size w3 w4:=by rw[am];exact eD _ _
   have RI:Hid (Row w4 gI 126 [.int .i64 (k:Nat), .string ⟨#[49]⟩]):=lH (by rw[am,ar];exact eO _ _);replace X:=rW X aj;replace E:=rW E aj;replace Z:=lH (Z.o.below aj);replace G:=bT G aj;replace OR:=lH (jr OR.o (below_grown aj) (by simp));replace LR:=LR;clear aj;obtain⟨w5,a8⟩:=eX (w4.alloc (.cells #[.string ⟨#[]⟩, .slice (some ⟨gI,0,none⟩) 1 1] 25));obtain⟨gF,ad⟩:=eX (w4.heap.size);have a1:Below w4.heap.size w4 w5:=by rw[a8];exact eD _ _
   have U:Hid (Row w5 gF 25 [.string ⟨#[]⟩, .slice (some ⟨gI,0,none⟩) 1 1]):=lH (by rw[a8,ad];exact eO _ _);replace X:=rW X a1;replace E:=rW E a1;replace RI:=rW RI a1;replace Z:=lH (Z.o.below a1);replace G:=bT G a1;replace OR:=lH (jr OR.o (below_grown a1) (by simp));replace LR:=LR;clear a1;have hD:=E.o.lt
   go_upto_region 8 with (fail)
   have aQ:gI+1=gF:=by rw[ad,am,ar];simp
   rw[<- am, <- ar, <- a8,aQ];clear am ar a8 ad aQ hD;have a4:=lH (H7 RI.o);have a5:=lH aP;clear aP RI;refine iC (fun w'=> w'.cell? ⟨gD,1,none⟩=some (.int .i64 (P.a k)) /\ w'.cell? ⟨gD,2,none⟩=some (.int .i64 (P.l k)) /\ w'.cell? ⟨gD,3,none⟩=some (.int .i64 (P.u k)) /\ w'.cell? ⟨gF,0,none⟩=some (.string ⟨#[]⟩) /\ w'.cell? ⟨gF,1,none⟩=some (.slice (some ⟨gI,0,none⟩) 1 1)) (fun i=>decide (25 <= i)) kR ?_;obtain⟨y1,ag⟩:=eX (w5.drew);rw[<- ag];have r:Below w5.heap.size w5 y1:=by rw[ag];exact(Below.refl _ _).drew
   clear ag;replace E:=rW E r;replace U:=rW U r;replace a4:=lH (a4.o.below r);replace G:=bT G r;have R:=lH r;clear r;have M:=And.intro (E.o.at_ 1 rfl) (And.intro (E.o.at_ 2 rfl) (And.intro (E.o.at_ 3 rfl) (And.intro (U.o.at_ 0 rfl) (U.o.at_ 1 rfl))));refine tKs 0 28 M ?_;refine tB 1 [1,3,9,10,11,14,21,22,23,24] (some 29) M ?_;refine tB 2 [2,3,9,10,11,14,21,22,23,24] (some 30) M ?_;refine tB 4 [4,5,8,9,10,11,14,21,22,23,24] (some 32) M ?_;refine tB 5 [5,8,9,10,11,14,21,22,23,24] (some 33) M ?_;refine tB 6 [6,7,8,9,10,11,14,21,22,23,24] (some 34) M ?_;refine tB 7 [7,8,9,10,11,14,21,22,23,24] (some 35) M ?_;refine qF (i:=8) (v:= .int .i64 (P.a k+P.u k)) [8,9,10,11,14,21,22,23,24] (some 36) rfl (by rfl) kR kR kR kR (fun _ _ _ h=>h) (Or.inl ⟨by rfl,?_⟩) M ?_
   ·(intro w' ak;clear ak;go_simp;rw[IntKind.wrap_i64];have:=a5.o;omega)
   simp only[Act.put,List.setIfInBounds_toArray,List.set_cons_zero,List.set_cons_succ];refine tB 12 [12,14,21,22,23,24] (some 40) M ?_;refine tB 13 [13,14,21,22,23,24] (some 41) M ?_;refine tB 15 [15,16,17,20,21,22,23,24] (some 43) M ?_;refine tB 16 [16,17,20,21,22,23,24] (some 44) M ?_;refine qF (i:=17) (v:= .int .i64 (-P.a k)) [17,20,21,22,23,24] (some 45) rfl (by rfl) kR kR kR kR (fun _ _ _ h=>h) (Or.inl ⟨by rfl,?_⟩) M ?_
   ·(intro w' ak;clear ak;go_simp;rw[IntKind.wrap_i64];have:=a5.o;omega)
   simp only[Act.put,List.setIfInBounds_toArray,List.set_cons_zero,List.set_cons_succ];refine tB 18 [18,19,20,21,22,23,24] (some 46) M ?_;refine tB 19 [19,20,21,22,23,24] (some 47) M ?_;refine qF (i:=20) (v:= .int .i64 (-P.a k-P.l k)) [20,21,22,23,24] (some 48) rfl (by rfl) kR kR kR kR (fun _ _ _ h=>h) (Or.inl ⟨by rfl,?_⟩) M ?_
   ·(intro w' ak;clear ak;go_simp;rw[IntKind.wrap_i64];have:=a5.o;omega)
   simp only[Act.put,List.setIfInBounds_toArray,List.set_cons_zero,List.set_cons_succ];refine rD 3 (fun K O=> ?_);go_simp;refine(ow (nR k) (some ⟨gI,0,none⟩) 1 P.n (1) 1 _ a4.o (fun j _=>⟨Int.natCast_nonneg k,by show((k:Nat):Int)<_;omega⟩) (fun _ _=>Nat.le_refl _) dC (.inl rfl) a2.o.n64 (by show 1 <= 1000000;decide) (ai.o.below G.o) (ap.o.below G.o)).mono ?_;rintro e y2 ⟨g1,rfl,aB,aS,r⟩;have Y:=lH aS;clear aB aS;replace E:=rW E r;replace U:=rW U r;replace a4:=lH (a4.o.below r);replace G:=bT G r;replace R:=bT R r;clear r;clear M;have M:=And.intro (E.o.at_ 1 rfl) (And.intro (E.o.at_ 2 rfl) (And.intro (E.o.at_ 3 rfl) (And.intro (U.o.at_ 0 rfl) (U.o.at_ 1 rfl))));refine kH O M ?_;clear O K;refine rD 9 (fun K O=> ?_);go_simp;refine(nL (P.a k+P.u k) (by have:=a5.o;omega) (by have:=a5.o;omega) _).mono ?_;rintro e y3 ⟨v1,rfl,af,r⟩;obtain⟨bf,aU,bd,b3,bg,aV,be,b4,rfl⟩:=af.shape;have V1:=lH af;clear af;replace E:=rW E r;replace U:=rW U r;replace a4:=lH (a4.o.below r);replace Y:=lH (Y.o.below r);replace G:=bT G r;replace R:=bT R r;clear r;clear M;have M:=And.intro (E.o.at_ 1 rfl) (And.intro (E.o.at_ 2 rfl) (And.intro (E.o.at_ 3 rfl) (And.intro (U.o.at_ 0 rfl) (U.o.at_ 1 rfl))));refine kH O M ?_;clear O K;refine rD 10 (fun K O=> ?_);go_simp;refine(jE _ ((P.a k+P.u k:Int):Rat) 12 _ V1.o (rM (by have:=a5.o;omega) dC) dC (ai.o.below G.o)).mono ?_;rintro e y4 ⟨rfl,r⟩;obtain⟨t1,aC⟩:∃z:ByteArray,z=eB ((P.a k+P.u k:Int):Rat):=⟨_,rfl⟩
   rw[<- aC];have aZ:=lH aC;clear aC;replace E:=rW E r;replace U:=rW U r;replace a4:=lH (a4.o.below r);replace Y:=lH (Y.o.below r);replace G:=bT G r;replace R:=bT R r;clear r;clear M;have M:=And.intro (E.o.at_ 1 rfl) (And.intro (E.o.at_ 2 rfl) (And.intro (E.o.at_ 3 rfl) (And.intro (U.o.at_ 0 rfl) (U.o.at_ 1 rfl))));refine kH O M ?_;clear O K;refine tKs 11 39 M ?_;refine rD 14 (fun K O=> ?_);go_simp;refine(ow (nR k) (some ⟨gI,0,none⟩) 1 P.n (-1) 1 _ a4.o (fun j _=>⟨Int.natCast_nonneg k,by show((k:Nat):Int)<_;omega⟩) (fun _ _=>Nat.le_refl _) dC (.inr rfl) a2.o.n64 (by show 1 <= 1000000;decide) (ai.o.below G.o) (ap.o.below G.o)).mono ?_;rintro e y5 ⟨g2,rfl,b5,aT,r⟩;have ab:=lH aT;clear b5 aT;replace E:=rW E r;replace U:=rW U r;replace Y:=lH (Y.o.below r);replace G:=bT G r;replace R:=bT R r;clear r;clear M;have M:=And.intro (E.o.at_ 1 rfl) (And.intro (E.o.at_ 2 rfl) (And.intro (E.o.at_ 3 rfl) (And.intro (U.o.at_ 0 rfl) (U.o.at_ 1 rfl))));refine kH O M ?_;clear O K;refine rD 21 (fun K O=> ?_);go_simp;refine(nL (-P.a k-P.l k) (by have:=a5.o;omega) (by have:=a5.o;omega) _).mono ?_;rintro e y6 ⟨v2,rfl,aE,r⟩;obtain⟨bn,bh,bl,bj,bo,bi,bm,bk,rfl⟩:=aE.shape;have V2:=lH aE;clear aE;replace E:=rW E r;replace U:=rW U r;replace Y:=lH (Y.o.below r);replace ab:=lH (ab.o.below r);replace G:=bT G r;replace R:=bT R r;clear r;clear M;have M:=And.intro (E.o.at_ 1 rfl) (And.intro (E.o.at_ 2 rfl) (And.intro (E.o.at_ 3 rfl) (And.intro (U.o.at_ 0 rfl) (U.o.at_ 1 rfl))));refine kH O M ?_;clear O K;refine rD 22 (fun K O=> ?_);go_simp;refine(jE _ ((-P.a k-P.l k:Int):Rat) 12 _ V2.o (rM (by have:=a5.o;omega) dC) dC (ai.o.below G.o)).mono ?_;rintro e y7 ⟨rfl,r⟩;obtain⟨t2,aD⟩:∃z:ByteArray,z=eB ((-P.a k-P.l k:Int):Rat):=⟨_,rfl⟩
   rw[<- aD];have b0:=lH aD;clear aD;replace E:=rW E r;replace U:=rW U r;replace Y:=lH (Y.o.below r);replace ab:=lH (ab.o.below r);replace G:=bT G r;replace R:=bT R r;clear r;clear M;have M:=And.intro (E.o.at_ 1 rfl) (And.intro (E.o.at_ 2 rfl) (And.intro (E.o.at_ 3 rfl) (And.intro (U.o.at_ 0 rfl) (U.o.at_ 1 rfl))));refine kH O M ?_;clear O K;refine tKs 23 51 M ?_;refine rD 24 (fun K O=> ?_);go_simp;obtain⟨gb,a6⟩:=eX (y7.heap.size);obtain⟨y8,a9⟩:=eX (y7.alloc (.cells #[.slice (some ⟨g1,0,none⟩) P.n P.n, .string t1, .slice (some ⟨g2,0,none⟩) P.n P.n, .string t2] 157));have r:Below y7.heap.size y7 y8:=by rw[a9];exact eD _ _
   have RB:Hid (Row y8 gb 157 [.slice (some ⟨g1,0,none⟩) P.n P.n, .string t1, .slice (some ⟨g2,0,none⟩) P.n P.n, .string t2]):=lH (by rw[a9,a6];exact eO _ _);have aW:Hid (w5.heap.size <= gb):=lH (by rw[a6];exact R.o.size);rw[<- a9, <- a6];clear a9 a6;replace E:=rW E r;replace U:=rW U r;replace Y:=lH (Y.o.below r);replace ab:=lH (ab.o.below r);replace G:=bT G r;replace R:=bT R r;clear r;clear M;have M:=And.intro (E.o.at_ 1 rfl) (And.intro (E.o.at_ 2 rfl) (And.intro (E.o.at_ 3 rfl) (And.intro (U.o.at_ 0 rfl) (U.o.at_ 1 rfl))));refine kH O M ?_;clear O K;refine rD 25 (fun K O=> ?_);have ae:=jr OR.o (below_grown R.o) (by simp);rw[if_pos (by rfl)];refine H5 _ (.tmp 28) (.tmp 52) rfl (.slice B (2*k) b) (2*k) u (fun i=>eB (pB P i)) rfl ae (.slice (some ⟨g1,0,none⟩) P.n P.n) (.slice (some ⟨g2,0,none⟩) P.n P.n) rfl rfl gb (by rw[H8 P a0,H9 P a0, <- aZ.o, <- b0.o];exact RB.o) rfl (by have:=a2.o.n64;omega) ?_;intro va y9 ho ht;obtain⟨B2,b2,rfl,_,_⟩:=om ho;have ah:w.heap.size+1 <= y8.heap.size:=Nat.lt_of_lt_of_le X.o.lt R.o.size;have an:w.heap.size <= y8.heap.size:=Nat.le_of_succ_le ah;have az:=lH ((X.o.below R.o X.o.lt).turned ht (fun e=>by have:=LR.o _ e;omega));have aw:=lH (TLn.turned (((Z.o.below R.o).add (x:= .slice (some ⟨g1,0,none⟩) P.n P.n) ⟨g1,rfl,by have:=a2.o.n64;unfold maxLen;omega,Y.o.congr (fun j _=>by rw[zG,zH P a0])⟩).add (x:= .slice (some ⟨g2,0,none⟩) P.n P.n) ⟨g2,rfl,by have:=a2.o.n64;unfold maxLen;omega,ab.o.congr (fun j _=>by rw[zG,zI P a0])⟩) ht ae dC);have ax:=lH (ht.base ah (fun g e=>LR.o g e));have au:=lH ((G.o).trans ((ht.below (B:=w.heap.size) an (fun g e=>Nat.le_of_lt (LR.o g e)))));have ay:=lH ho;clear ho ht ae ah an;refine kL O ?_;clear O K;refine tWs 26 3 ?_;refine dN ?_ _;clear M;have b7:=a2.o.n64;go_wp2_with fail
   go_roundw
   case rel=>exact⟨k+1,B2,b2,upd (upd u (2*k) (.slice (some ⟨g1,0,none⟩) P.n P.n)) (2*k+1) (.slice (some ⟨g2,0,none⟩) P.n P.n),a0,rfl,by simp,ay,aw,ax,az,au⟩
   case measure=>exact mZ
  ·have al:k=P.n:=oM
   rw[al] at OR Z LR;have aX:=lH al;clear al;obtain⟨wo,rfl⟩:=eX (wr);have b9:=aI 1 X;have bc:=X.o.lt;go_wp2_with fail
   clear b9 bc
   go_loopw [3,58] (fun ov iv wr=>∃ (k:Nat) (B:Option Addr) (b:Nat) (u:Nat -> Value),k <= P.m /\ ov= .slice B (2*P.n+k) b /\ iv= .int .i64 k /\ Hid (World.ownsRow wr 0 157 2 (.slice B (2*P.n+k) b) (2*P.n+k) (clR u (fun i=>eB (pB P i)) (2*P.n+k))) /\ Hid (TLn wr u (2*P.n+k) P.n (fun i j=>eB (pA P i j))) /\ Hid (∀g,(Value.slice B (2*P.n+k) b).ownBlock=some g -> w.heap.size<g) /\ Hid (Row wr w.heap.size 58 [.slice A P.n cA, .slice C P.m cC]) /\ Hid (Below w.heap.size w wr)) (fun _ iv _=>P.m-(intOf iv).toNat)
   case atStart=>exact⟨0,B,b,u,Nat.zero_le _,by rw[aX.o];rfl,rfl,OR,Z,LR,X,G⟩
   case round=>
    clear X G OR Z LR
    skip
    obtain⟨k,B,b,u,hk,rfl,rfl,OR,Z,LR,X,G⟩:=hrel;by_cases b6:((k:Nat):Int)<(P.m:Nat)
    ·have a0:k<P.m:=oM
     obtain⟨gC,oC,rfl,aa⟩:=HC.o.at_ oM;obtain⟨uv,aM,aN,aO,aA⟩:=aa k a0;obtain⟨T,cT,rfl,_,_⟩:=aA.shape;have b1:=lH aA;have ao:=cell_below G.o aM;have aF:=cell_below G.o aN;have aG:=cell_below G.o aO;have aH:=eF ao;clear aa aM aN aO aA;obtain⟨w3,a7⟩:=eX (wr.alloc (.cells #[.string (P.t k), .string (P.F k).c, .slice T (P.F k).N cT] 120));obtain⟨gD,ac⟩:=eX (wr.heap.size);have a3:Below wr.heap.size wr w3:=by rw[a7];exact eD _ _
     have E:Hid (Row w3 gD 120 [.string (P.t k), .string (P.F k).c, .slice T (P.F k).N cT]):=lH (by rw[a7,ac];exact eO _ _);replace X:=rW X a3;replace Z:=lH (Z.o.below a3);replace G:=bT G a3;replace OR:=lH (jr OR.o (below_grown a3) (by simp));clear a3
     go_upto_region 13 with (fail)
     rw[<- a7, <- ac];clear a7 ac ao aF aG aH;have b8:=aI 1 E;have bb:=E.o.lt;go_wp2_with fail
     clear b8 bb;refine(nQ (P.F k).c _ (Nat.le_trans (av.o.2 k a0) aq.o.2) (ap.o.below G.o)).mono ?_;rintro e w4 ⟨vf,rfl,hf,r⟩;obtain⟨sf,Af,lf,cf,tf,Bf,mf,df,rfl⟩:=hf.shape;have Vf:=lH hf;clear hf;replace OR:=lH (jr OR.o (below_grown r) (by simp));replace X:=rW X r;replace E:=rW E r;replace Z:=lH (Z.o.below r);replace G:=bT G r;clear r;obtain⟨w5,a8⟩:=eX (w4.alloc (.cells #[.bool sf, .slice Af lf cf, .bool tf, .slice Bf mf df] 40));obtain⟨gK,ad⟩:=eX (w4.heap.size);have a1:Below w4.heap.size w4 w5:=by rw[a8];exact eD _ _
     have V:Hid (Row w5 gK 40 [.bool sf, .slice Af lf cf, .bool tf, .slice Bf mf df]):=lH (by rw[a8,ad];exact eO _ _);replace X:=rW X a1;replace E:=rW E a1;replace Z:=lH (Z.o.below a1);replace Vf:=lH (Vf.o.below a1);replace G:=bT G a1;replace OR:=lH (jr OR.o (below_grown a1) (by simp));clear a1
     go_upto_region 14 with (fail)
     rw[<- a8, <- ad];clear a8 ad;have aL:=lH (a2.o.con k a0);have aY:=lH ((ig (av.o.2 k a0) aq.o.1).mono aq.o.2);refine iC (fun w'=> w'.cell? ⟨gD,1,none⟩=some (.string (P.F k).c) /\ w'.cell? ⟨gD,2,none⟩=some (.slice T (P.F k).N cT) /\ w'.cell? ⟨gK,0,none⟩=some (.bool sf) /\ w'.cell? ⟨gK,1,none⟩=some (.slice Af lf cf) /\ w'.cell? ⟨gK,2,none⟩=some (.bool tf) /\ w'.cell? ⟨gK,3,none⟩=some (.slice Bf mf df)) (fun i=>decide (10 <= i)) kR ?_;obtain⟨y1,ag⟩:=eX (w5.drew);rw[<- ag];have r:Below w5.heap.size w5 y1:=by rw[ag];exact(Below.refl _ _).drew
     clear ag;replace E:=rW E r;replace V:=rW V r;replace Vf:=lH (Vf.o.below r);replace G:=bT G r;have R:=lH r;clear r;have M:=And.intro (E.o.at_ 1 rfl) (And.intro (E.o.at_ 2 rfl) (And.intro (V.o.at_ 0 rfl) (And.intro (V.o.at_ 1 rfl) (And.intro (V.o.at_ 2 rfl) (V.o.at_ 3 rfl)))));refine tKs 0 69 M ?_;refine tB 1 [1,4,6,7,8,9] (some 70) M ?_;refine tB 2 [2,3,4,6,7,8,9] (some 71) M ?_;refine tB 3 [3,4,6,7,8,9] (some 72) M ?_;refine tB 5 [5,6,7,8,9] (some 74) M ?_;refine rD 4 (fun K O=> ?_);go_simp;refine(ow (P.F k) T cT P.n 1 Kt _ (b1.o.below G.o) (FOk.ou aL.o.ok) (av.o.1 k a0) aq.o (.inl rfl) a2.o.n64 (by have:=aL.o.ok.few;omega) (ai.o.below G.o) (ap.o.below G.o)).mono ?_;rintro e y2 ⟨g1,rfl,aB,aR,r⟩;have Y:=lH aR;clear aB aR;replace E:=rW E r;replace V:=rW V r;replace Vf:=lH (Vf.o.below r);replace G:=bT G r;replace R:=bT R r;clear r;clear M;have M:=And.intro (E.o.at_ 1 rfl) (And.intro (E.o.at_ 2 rfl) (And.intro (V.o.at_ 0 rfl) (And.intro (V.o.at_ 1 rfl) (And.intro (V.o.at_ 2 rfl) (V.o.at_ 3 rfl)))));refine kH O M ?_;clear O K;refine rD 6 (fun K O=> ?_);go_simp;refine(pF _ (qof (P.F k).c) _ (by exact Vf.o)).mono ?_;rintro e y3 ⟨v1,rfl,af,r⟩;obtain⟨bf,aU,bd,b3,bg,aV,be,b4,rfl⟩:=af.shape;have V1:=lH af;clear af;replace E:=rW E r;replace V:=rW V r;replace Y:=lH (Y.o.below r);replace G:=bT G r;replace R:=bT R r;clear r;clear M;have M:=And.intro (E.o.at_ 1 rfl) (And.intro (E.o.at_ 2 rfl) (And.intro (V.o.at_ 0 rfl) (And.intro (V.o.at_ 1 rfl) (And.intro (V.o.at_ 2 rfl) (V.o.at_ 3 rfl)))));refine kH O M ?_;clear O K;refine rD 7 (fun K O=> ?_);go_simp;refine(jE _ (-qof (P.F k).c) 65536 _ V1.o aY.o.neg dC (ai.o.below G.o)).mono ?_;rintro e y4 ⟨rfl,r⟩;replace E:=rW E r;replace V:=rW V r;replace Y:=lH (Y.o.below r);replace G:=bT G r;replace R:=bT R r;clear r;clear M;have M:=And.intro (E.o.at_ 1 rfl) (And.intro (E.o.at_ 2 rfl) (And.intro (V.o.at_ 0 rfl) (And.intro (V.o.at_ 1 rfl) (And.intro (V.o.at_ 2 rfl) (V.o.at_ 3 rfl)))));refine kH O M ?_;clear O K;refine tKs 8 77 M ?_;refine rD 9 (fun K O=> ?_);go_simp;obtain⟨gb,a6⟩:=eX (y4.heap.size);obtain⟨y5,a9⟩:=eX (y4.alloc (.cells #[.slice (some ⟨g1,0,none⟩) P.n P.n, .string (eB (-qof (P.F k).c))] 157));have r:Below y4.heap.size y4 y5:=by rw[a9];exact eD _ _
     have RB:Hid (Row y5 gb 157 [.slice (some ⟨g1,0,none⟩) P.n P.n, .string (eB (-qof (P.F k).c))]):=lH (by rw[a9,a6];exact eO _ _);have aW:Hid (w5.heap.size <= gb):=lH (by rw[a6];exact R.o.size);rw[<- a9, <- a6];clear a9 a6;replace E:=rW E r;replace V:=rW V r;replace Y:=lH (Y.o.below r);replace G:=bT G r;replace R:=bT R r;clear r;clear M;have M:=And.intro (E.o.at_ 1 rfl) (And.intro (E.o.at_ 2 rfl) (And.intro (V.o.at_ 0 rfl) (And.intro (V.o.at_ 1 rfl) (And.intro (V.o.at_ 2 rfl) (V.o.at_ 3 rfl)))));refine kH O M ?_;clear O K;refine rD 10 (fun K O=> ?_);have ae:=jr OR.o (below_grown R.o) (by simp);rw[if_pos (by rfl)];refine H6 _ (.tmp 69) (.tmp 78) rfl (.slice B (2*P.n+k) b) (2*P.n+k) u (fun i=>eB (pB P i)) rfl ae (.slice (some ⟨g1,0,none⟩) P.n P.n) rfl gb (by rw[Hd];exact RB.o) rfl (by have:=a2.o.n64;have:=a2.o.m64;omega) ?_;intro va y6 ho ht;obtain⟨B2,b2,rfl,_,_⟩:=om ho;have ah:w.heap.size+1 <= y5.heap.size:=Nat.lt_of_lt_of_le X.o.lt R.o.size;have an:w.heap.size <= y5.heap.size:=Nat.le_of_succ_le ah;have az:=lH ((X.o.below R.o X.o.lt).turned ht (fun e=>by have:=LR.o _ e;omega));have aw:=lH (TLn.turned ((Z.o.below R.o).add (x:= .slice (some ⟨g1,0,none⟩) P.n P.n) ⟨g1,rfl,by have:=a2.o.n64;unfold maxLen;omega,Y.o.congr (fun j _=>by rw[Ha])⟩) ht ae dC);have ax:=lH (ht.base ah (fun g e=>LR.o g e));have au:=lH ((G.o).trans ((ht.below (B:=w.heap.size) an (fun g e=>Nat.le_of_lt (LR.o g e)))));have ay:=lH ho;clear ho ht ae ah an;refine kL O ?_;clear O K;refine tWs 11 3 ?_;refine dN ?_ _;clear M;have b7:=a2.o.m64;go_wp2_with fail
     go_roundw
     case rel=>exact⟨k+1,B2,b2,upd u (2*P.n+k) (.slice (some ⟨g1,0,none⟩) P.n P.n),a0,rfl,by simp,ay,aw,ax,az,au⟩
     case measure=>exact mZ
    ·have al:k=P.m:=oM
     rw[al] at OR Z LR ⊢;go_wp2_with fail
     go_returns;exact⟨B,b,rfl,GZ OR.o Z.o,G.o⟩
end
section
open Go.RowKit
open Lp (RL upd eu)
def oz(f:Nat -> Nat)(j:Nat)(u:Value):Prop:=u= .int .i64 (f j:Nat)
def oD(n:Nat)(gr cr:Nat -> Nat)(j:Nat)(u:Value):Prop:=∃A,u= .slice A n (cr j) /\ (0<n -> A=some ⟨gr j,0,none⟩)
theorem fI.congr{w:World}{v:Value}{e:TypeId}{k:Nat}{p p':Nat -> Value -> Prop}(h:fI w v e k p)(G:∀j,j<k -> ∀u,p j u -> p' j u):fI w v e k p':=by
 obtain⟨xs,E,C⟩:=h;refine⟨xs,E,fun j r=> ?_⟩;obtain⟨u,h1,t⟩:=C j r;exact⟨u,h1,G j r u t⟩
structure fe (w:World) (B n:Nat) (k:Nat -> Nat) (v:Nat -> Value) (gr cr:Nat -> Nat) (A:Nat -> Nat -> Rat) (b c:Nat -> Rat):Prop where
 o0:fI w (v 0) 3 (k 0) (oz fun j=>n+j)
 o1:fI w (v 1) 3 (k 1) (oz fun j=>j)
 o2:gy w (v 2) (k 2) b
 o3:fI w (v 3) 33 (k 3) (oD n gr cr)
 o4:gy w (v 4) (k 4) (fun j=> -(c j))
 rows:0<n -> ∀j,j<k 3 -> RB w (gr j) n (A j)
 ap:∀i j,i≠j -> ∀g,(v i).ownBlock=some g -> (v j).ownBlock≠some g
 ar:0<n -> ∀i j,j<k 3 -> (v i).ownBlock≠some (gr j)
 rr:0<n -> ∀i j,i<k 3 -> j<k 3 -> gr i=gr j -> i=j
 lo:∀i g,(v i).ownBlock=some g -> B <= g /\ g<w.heap.size
 lr:0<n -> ∀j,j<k 3 -> B <= gr j
section
variable {w w':World} {B n:Nat} {k:Nat -> Nat} {v:Nat -> Value} {gr cr:Nat -> Nat} {A:Nat -> Nat -> Rat} {b c:Nat -> Rat}
theorem fe.start(w:World)(B n:Nat)(gr cr:Nat -> Nat)(A:Nat -> Nat -> Rat)(b c:Nat -> Rat):fe w B n (fun _=>0) (fun _=> .slice none 0 0) gr cr A b c:=
 ⟨fI.nil _ _ _,fI.nil _ _ _,gy.nil _ _,fI.nil _ _ _,gy.nil _ _,fun _ j h=>absurd h oM,fun i j _ g r=>by simp[Value.ownBlock] at r,fun _ i j h=>absurd h oM,fun _ i j t=>absurd t oM,fun i g r=>by simp[Value.ownBlock] at r,fun _ j h=>absurd h oM⟩
theorem fe.below(h:fe w B n k v gr cr A b c)(r:Below w.heap.size w w'):fe w' B n k v gr cr A b c:=
 ⟨h.o0.below r,h.o1.below r,h.o2.below r,h.o3.below r,h.o4.below r,fun E j C=>(h.rows E j C).below r,h.ap,h.ar,h.rr,fun i g t=>⟨(h.lo i g t).1,Nat.lt_of_lt_of_le (h.lo i g t).2 r.size⟩,h.lr⟩
theorem fe.other{g:Nat}{e:TypeId}{cs:List Value}(h:fe w B n k v gr cr A b c)(r:w.grownBy w' (some g))(C:Row w g e cs)(t:e≠169)(O:g<B):fe w' B n k v gr cr A b c:=by
 have ne:∀i,(v i).ownBlock≠some g:=fun i e=>by have:=(h.lo i g e).1;omega
 exact⟨h.o0.other r (ne 0),h.o1.other r (ne 1),h.o2.other r C t (ne 2),h.o3.other r (ne 3),h.o4.other r C t (ne 4),fun M j G=>(h.rows M j G).other r C t (by have:=h.lr M j G;omega),h.ap,h.ar,h.rr,fun i g E=>⟨(h.lo i g E).1,Nat.lt_of_lt_of_le (h.lo i g E).2 r.size⟩,h.lr⟩
theorem fe.grow{i:Nat}{v':Value}(h:fe w B n k v gr cr A b c)(C:Turned w w' (v i) v')(U:B <= w.heap.size)(O:∀g,v'.ownBlock=some g -> g<w'.heap.size)(R:0<n -> ∀j,j<k 3 -> gr j<w.heap.size):
  (∀a j,a≠j -> ∀g,(upd v i v' a).ownBlock=some g -> (upd v i v' j).ownBlock≠some g) /\ (0<n -> ∀a j,j<k 3 -> (upd v i v' a).ownBlock≠some (gr j)) /\ (∀a g,(upd v i v' a).ownBlock=some g -> B <= g /\ g<w'.heap.size):=by
 refine⟨fun a j E g r=> ?_,fun G a j t=> ?_,fun a g r=> ?_⟩
 ·by_cases e:a=i
  ·subst e;rw[Lp.upd_same] at r;rw[Lp.eQ _ _ (fun e=>E e.symm)];intro t;exact C.apart (h.lo j g t).2 (fun e=>h.ap a j E g e t) r
  ·rw[Lp.eQ _ _ e] at r;by_cases M:j=i
   ·subst M;rw[Lp.upd_same];exact C.apart (h.lo a g r).2 (h.ap a j E g r)
   ·rw[Lp.eQ _ _ M];exact h.ap a j E g r
 ·by_cases e:a=i
  ·subst e;rw[Lp.upd_same];exact C.apart (R G j t) (h.ar G a j t)
  ·rw[Lp.eQ _ _ e];exact h.ar G a j t
 ·by_cases e:a=i
  ·subst e;rw[Lp.upd_same] at r;refine⟨?_,O g r⟩
   rcases C.own with h1 | ⟨g',h1,T⟩
   ·exact(h.lo a g (h1 ▸ r)).1
   ·rw[r] at h1;simp only[Option.some.injEq] at h1;omega
  ·rw[Lp.eQ _ _ e] at r;exact⟨(h.lo a g r).1,Nat.lt_of_lt_of_le (h.lo a g r).2 C.grown.size⟩
theorem fe.nS(h:fe w B n k v gr cr A b c):0<n -> ∀j,j<k 3 -> gr j<w.heap.size:=fun t j r=>(h.rows t j r).lt
theorem fe.apart'(h:fe w B n k v gr cr A b c){i j:Nat}(C:i≠j):∀g,(v j).ownBlock=some g -> (v i).ownBlock≠some g:=fun g r t=>h.ap i j C g t r
theorem u0{α:Type}(f:Nat -> α)(i:Nat)(x:α)(j:Nat)(h:j≠i):upd f i x j=f j:=Lp.eQ f x h
theorem fe.app0{v':Value}(h:fe w B n k v gr cr A b c)(r:Turned w w' (v 0) v')(M:fI w' v' 3 (k 0+1) (oz fun j=>n+j))(U:B <= w.heap.size):fe w' B n (upd k 0 (k 0+1)) (upd v 0 v') gr cr A b c:=by
 obtain⟨xs,C,_⟩:=h.o0;have t:3≠169:=dC
 obtain⟨O,R,T⟩:=h.grow r U (fun g V=>M.lt V) h.nS;exact⟨M,h.o1.turned r (h.apart' dC),h.o2.turned r C t (h.apart' dC),h.o3.turned r (h.apart' dC),h.o4.turned r C t (h.apart' dC),fun G j E=>(h.rows G j E).turned r C t (h.ar G 0 j E),O,R,h.rr,T,h.lr⟩
theorem fe.app1{v':Value}(h:fe w B n k v gr cr A b c)(r:Turned w w' (v 1) v')(M:fI w' v' 3 (k 1+1) (oz fun j=>j))(U:B <= w.heap.size):fe w' B n (upd k 1 (k 1+1)) (upd v 1 v') gr cr A b c:=by
 obtain⟨xs,C,_⟩:=h.o1;have t:3≠169:=dC
 obtain⟨O,R,T⟩:=h.grow r U (fun g V=>M.lt V) h.nS;exact⟨h.o0.turned r (h.apart' dC),M,h.o2.turned r C t (h.apart' dC),h.o3.turned r (h.apart' dC),h.o4.turned r C t (h.apart' dC),fun G j E=>(h.rows G j E).turned r C t (h.ar G 1 j E),O,R,h.rr,T,h.lr⟩
theorem fe.rP{v':Value}(h:fe w B n k v gr cr A b c)(r:Turned w w' (v 2) v')(E:gy w' v' (k 2+1) b)(T:B <= w.heap.size):fe w' B n (upd k 2 (k 2+1)) (upd v 2 v') gr cr A b c:=by
 obtain⟨xs,G,_⟩:=h.o2;obtain⟨M,O,R⟩:=h.grow r T (fun g U=>E.lt U) h.nS;exact⟨h.o0.turned r (h.apart' dC),h.o1.turned r (h.apart' dC),E,h.o3.turned r (h.apart' dC),h.o4.turned r G gM (h.apart' dC),fun C j t=>(h.rows C j t).turned r G gM (h.ar C 2 j t),M,O,h.rr,R,h.lr⟩
theorem fe.He{v':Value}(h:fe w B n k v gr cr A b c)(r:Turned w w' (v 4) v')(E:gy w' v' (k 4+1) (fun j=> -(c j)))(T:B <= w.heap.size):fe w' B n (upd k 4 (k 4+1)) (upd v 4 v') gr cr A b c:=by
 obtain⟨xs,G,_⟩:=h.o4;obtain⟨M,O,R⟩:=h.grow r T (fun g U=>E.lt U) h.nS;exact⟨h.o0.turned r (h.apart' dC),h.o1.turned r (h.apart' dC),h.o2.turned r G gM (h.apart' dC),h.o3.turned r (h.apart' dC),E,fun C j t=>(h.rows C j t).turned r G gM (h.ar C 4 j t),M,O,h.rr,R,h.lr⟩
theorem fe.place{g x:Nat}(h:fe w B n k v gr cr A b c):fe w B n k v (upd gr (k 3) g) (upd cr (k 3) x) A b c:=by
 have e:∀ {α:Type} (f:Nat -> α) (y:α) j,j<k 3 -> upd f (k 3) y j=f j:=fun f y j r=>Lp.eQ f y oM
 refine⟨h.o0,h.o1,h.o2,h.o3.congr (fun j r u E=> ?_),h.o4,fun t j r=>by rw[e gr g j r];exact h.rows t j r,h.ap,fun t i j r=>by rw[e gr g j r];exact h.ar t i j r,fun t i j C r=>by rw[e gr g j r,e gr g i C];exact h.rr t i j C r,h.lo,fun t j r=>by rw[e gr g j r];exact h.lr t j r⟩;unfold oD at*;rw[e gr g j r,e cr x j r];exact E
theorem fe.rQ{v':Value}(h:fe w B n k v gr cr A b c)(C:Turned w w' (v 3) v')(U:fI w' v' 33 (k 3+1) (oD n gr cr))(hB:B <= w.heap.size)
  (V:0<n -> RB w (gr (k 3)) n (A (k 3))) (a0:0<n -> B <= gr (k 3)) (T:0<n -> ∀i,(v i).ownBlock≠some (gr (k 3))) (W:0<n -> ∀j,j<k 3 -> gr j≠gr (k 3)):fe w' B n (upd k 3 (k 3+1)) (upd v 3 v') gr cr A b c:=by
 obtain⟨xs,R,_⟩:=h.o3;have M:33≠169:=dC
 obtain⟨X,Y,Z⟩:=h.grow C hB (fun g hg=>U.lt hg) h.nS;have O:upd k 3 (k 3+1) 3=k 3+1:=rfl;have G:∀j,j<k 3+1 -> j<k 3 \/ j=k 3:=fun j r=>by omega
 refine⟨h.o0.turned C (h.apart' dC),h.o1.turned C (h.apart' dC),h.o2.turned C R M (h.apart' dC),U,h.o4.turned C R M (h.apart' dC),fun t j r=> ?_,X,fun t i j r=> ?_,fun t i j E r=> ?_,Z,fun t j r=> ?_⟩
 ·rw[O] at r
  rcases G j r with r | rfl
  ·exact(h.rows t j r).turned C R M (h.ar t 3 j r)
  ·exact(V t).turned C R M (T t 3)
 ·rw[O] at r
  rcases G j r with r | rfl
  ·exact Y t i j r
  ·by_cases e:i=3
   ·subst e;rw[Lp.upd_same];exact C.apart (V t).lt (T t 3)
   ·rw[Lp.eQ _ _ e];exact T t i
 ·rw[O] at E r;intro e
  rcases G i E with E | rfl <;> rcases G j r with r | rfl
  ·exact h.rr t i j E r e
  ·exact absurd e (W t i E)
  ·exact absurd e.symm (W t j r)
  ·rfl
 ·rw[O] at r
  rcases G j r with r | rfl
  ·exact h.lr t j r
  ·exact a0 t
theorem fe.Hf{m O c0 c1 c2 c3 c4:Nat}{A0 A1 A2 A3 A4:Option Addr}(h:fe w B n k v gr cr A b c)(hk:k 0=m /\ k 1=n /\ k 2=m /\ k 3=m /\ k 4=n)
  (hv:v 0= .slice A0 m c0 /\ v 1= .slice A1 n c1 /\ v 2= .slice A2 m c2 /\ v 3= .slice A3 m c3 /\ v 4= .slice A4 n c4) (ad:O<B)
  (hr:Row w O 241 [.int .i64 (n:Nat), .slice A0 m c0, .slice A1 n c1, .slice A2 m c2, .slice A3 m c3, .slice A4 n c4, .bool false, .slice none 0 0, .bool false, .slice none 0 0]):
  ∃L:Lay,L.gt=O /\ eZ w L m n (eu.init n A b c) /\ ∀k,L.blocks m k -> O <= k:=by
 obtain⟨k0,k1,k2,k3,k4⟩:=hk;obtain⟨v0,v1,v2,v3,v4⟩:=hv;have o0:=h.o0;have o1:=h.o1;have o2:=h.o2;have o3:=h.o3;have o4:=h.o4;have a5:=h.ap;have a6:=h.ar;have aa:=h.lo;rw[k0] at o0;rw[k1] at o1;rw[k2] at o2;rw[k3] at o3;rw[k4] at o4;obtain⟨M,a7⟩:∃M:Option Addr -> Nat,M=fun A=>(A.map (·.block)).getD O:=⟨_,rfl⟩
 have G:∀g,M (some ⟨g,0,none⟩)=g:=fun g=>by rw[a7];rfl
 have U:∀i X l x,v i= .slice X l x -> O <= M X:=by
  intro i X l x e;rw[a7];cases X with
  | none=>exact Nat.le_refl _
  | some a=>
   have:=(aa i a.block (by rw[e];rfl)).1;show O <= a.block;omega
 obtain⟨a1,a8⟩:∃a1:Nat -> Nat,a1=if 0<n then gr else fun _=>O:=⟨_,rfl⟩
 have a2:0<n -> a1=gr:=fun t=>by rw[a8,if_pos t]
 have own:∀i X l x g,v i= .slice X l x -> X=some ⟨g,0,none⟩ -> (v i).ownBlock=some g:=fun i X l x g e e'=>by rw[e,e'];rfl
 refine⟨⟨O,M A0,M A1,M A2,M A3,M A4,a1,cr,c0,c1,c2,c3,c4,A0,A1,A2,A3,A4⟩,rfl,?_,?_⟩
 ·have d0:=fun C:0<m=>o0.done C
  have d1:=fun t:0<n=>o1.done t
  have V:=fun C:0<m=>o2.done C
  have d3:=fun C:0<m=>o3.done C
  have W:=fun t:0<n=>o4.done t
  rw[v0] at d0;rw[v1] at d1;rw[v2] at V;rw[v3] at d3;rw[v4] at W;refine⟨⟨false,none,0,0,false,none,0,0,hr,eP.jo w⟩,fun C=> ?_,fun t=> ?_,fun C=> ?_,fun t=> ?_,fun C=> ?_,fun t=> ?_,fun C=> ?_,fun t r a9=> ?_,fun C t=> ?_,fun C t=> ?_,fun t r a9=> ?_,fun t r s ae hs=> ?_⟩
  ·obtain⟨g,x,cs,e,_⟩:=d0 C;obtain⟨Y,x2,E,_⟩:=V C;obtain⟨g3,x3,ac,e3,_⟩:=d3 C;simp only[Value.slice.injEq,true_and] at e E e3;simp only[];rw[e.1,E.1,e3.1,G,G,G];exact⟨rfl,rfl,rfl⟩
  ·obtain⟨g,x,cs,e,_⟩:=d1 t;obtain⟨Y,x2,E,_⟩:=W t;simp only[Value.slice.injEq,true_and] at e E;simp only[];rw[e.1,E.1,G,G];exact⟨rfl,rfl⟩
  ·obtain⟨g,x,cs,e,a0,hl,Z⟩:=d0 C;simp only[Value.slice.injEq,true_and] at e;simp only[];rw[e.1,G];refine⟨cs,a0,hl,fun j hj=> ?_⟩;obtain⟨u,h1,T⟩:=Z j hj;rw[h1];unfold oz at T;rw[T];rfl
  ·obtain⟨g,x,cs,e,a0,hl,Z⟩:=d1 t;simp only[Value.slice.injEq,true_and] at e;simp only[];rw[e.1,G];refine⟨cs,a0,hl,fun j hj=> ?_⟩;obtain⟨u,h1,T⟩:=Z j hj;rw[h1];unfold oz at T;rw[T];rfl
  ·obtain⟨g,x,e,a4⟩:=V C;simp only[Value.slice.injEq,true_and] at e;simp only[];rw[e.1,G];exact a4
  ·obtain⟨g,x,e,a4⟩:=W t;simp only[Value.slice.injEq,true_and] at e;simp only[];rw[e.1,G];exact a4
  ·obtain⟨g,x,cs,e,a0,hl,Z⟩:=d3 C;simp only[Value.slice.injEq,true_and] at e;simp only[];rw[e.1,G];refine⟨cs,a0,hl,fun j hj=> ?_⟩;obtain⟨u,h1,X,T,h3⟩:=Z j hj;exact⟨X,by rw[h1,T],fun t=>by rw[a2 t];exact h3 t⟩
  ·simp only[];rw[a2 t];exact h.rows t r oM
  ·obtain⟨g,x,cs,e,_⟩:=d0 C;obtain⟨Y,x2,ab,E,_⟩:=d1 t;simp only[Value.slice.injEq,true_and] at e E;simp only[];rw[e.1,E.1,G,G];intro R;subst R;exact a5 0 1 dC g (own 0 _ _ _ g v0 e.1) (own 1 _ _ _ g v1 E.1)
  ·obtain⟨g,x,e,_⟩:=V C;obtain⟨Y,x2,E,_⟩:=W t;simp only[Value.slice.injEq,true_and] at e E;simp only[];rw[e.1,E.1,G,G];intro R;subst R;exact a5 2 4 dC g (own 2 _ _ _ g v2 e.1) (own 4 _ _ _ g v4 E.1)
  ·obtain⟨g,x,e,_⟩:=V oM;obtain⟨Y,x2,E,_⟩:=W t;simp only[Value.slice.injEq,true_and] at e E;simp only[];rw[e.1,E.1,G,G,a2 t];exact⟨fun R=>a6 t 2 r oM (by rw[own 2 _ _ _ g v2 e.1,R]),fun R=>a6 t 4 r oM (by rw[own 4 _ _ _ Y v4 E.1,R])⟩
  ·simp only[];rw[a2 t];exact h.rr t r s oM oM
 ·intro kk a3;unfold Lay.blocks at a3;simp only[] at a3
  rcases a3 with e | e | e | e | e | e | ⟨r,a9,e⟩
  ·omega
  ·rw[e];exact U 0 _ _ _ v0
  ·rw[e];exact U 1 _ _ _ v1
  ·rw[e];exact U 2 _ _ _ v2
  ·rw[e];exact U 3 _ _ _ v3
  ·rw[e];exact U 4 _ _ _ v4
  ·rw[e,a8];split
   ·rename_i t;have:=h.lr t r oM;omega
   ·exact Nat.le_refl _
end
def vs5(a b c d e:Value):Nat -> Value
 | 0=>a
 | 1=>b
 | 2=>c
 | 3=>d
 | 4=>e
 | _=> .slice none 0 0
def ks5(a b c d e:Nat):Nat -> Nat
 | 0=>a
 | 1=>b
 | 2=>c
 | 3=>d
 | 4=>e
 | _=>0
section
variable (a b c d e x:Value) (ka kb kc kd ke kx:Nat)
theorem zJ:(fun _=> .slice none 0 0)=vs5 (.slice none 0 0) (.slice none 0 0) (.slice none 0 0) (.slice none 0 0) (.slice none 0 0):=by funext i;match i with | 0 | 1 | 2 | 3 | 4 | (_+5)=>rfl
theorem zK:(fun _=>0)=ks5 0 0 0 0 0:=by funext i;match i with | 0 | 1 | 2 | 3 | 4 | (_+5)=>rfl
theorem Hg:upd (vs5 a b c d e) 0 x=vs5 x b c d e:=by funext i;match i with | 0 | 1 | 2 | 3 | 4 | (_+5)=>rfl
theorem Hl:upd (vs5 a b c d e) 1 x=vs5 a x c d e:=by funext i;match i with | 0 | 1 | 2 | 3 | 4 | (_+5)=>rfl
theorem rR:upd (vs5 a b c d e) 2 x=vs5 a b x d e:=by funext i;match i with | 0 | 1 | 2 | 3 | 4 | (_+5)=>rfl
theorem rT:upd (vs5 a b c d e) 3 x=vs5 a b c x e:=by funext i;match i with | 0 | 1 | 2 | 3 | 4 | (_+5)=>rfl
theorem Hm:upd (vs5 a b c d e) 4 x=vs5 a b c d x:=by funext i;match i with | 0 | 1 | 2 | 3 | 4 | (_+5)=>rfl
theorem Ho:upd (ks5 ka kb kc kd ke) 0 kx=ks5 kx kb kc kd ke:=by funext i;match i with | 0 | 1 | 2 | 3 | 4 | (_+5)=>rfl
theorem Hq:upd (ks5 ka kb kc kd ke) 1 kx=ks5 ka kx kc kd ke:=by funext i;match i with | 0 | 1 | 2 | 3 | 4 | (_+5)=>rfl
theorem rU:upd (ks5 ka kb kc kd ke) 2 kx=ks5 ka kb kx kd ke:=by funext i;match i with | 0 | 1 | 2 | 3 | 4 | (_+5)=>rfl
theorem rV:upd (ks5 ka kb kc kd ke) 3 kx=ks5 ka kb kc kx ke:=by funext i;match i with | 0 | 1 | 2 | 3 | 4 | (_+5)=>rfl
theorem Hr:upd (ks5 ka kb kc kd ke) 4 kx=ks5 ka kb kc kd kx:=by funext i;match i with | 0 | 1 | 2 | 3 | 4 | (_+5)=>rfl
end
end
end Go.Proofs.YtokagbahdkfagaaGreatDoor
