/- Parts of this proof: Cat TComb. -/
import Derived.Test.YtdefghfjhgmpfaaGreatDoorMAV
import Derived.Test.YtdefghfjhgmpfaaGreatDoorMAE
import Derived.Test.YtdefghfjhgmpfaaGreatDoorMBM
namespace Go.Proofs.YtdefghfjhgmpfaaGreatDoor
open Go.Proofs.Tryz
section
open Go.RowKit
open Lp (RL upd eu)
theorem Jz(g o j:Nat):(⟨g,o,none⟩:Addr).add j=⟨g,o+j,none⟩:=by
 unfold Addr.add;by_cases h:j=0
 ·subst h;simp
 ·simp[h]
theorem mG(w:World){o:Oper}{a:Act}{K:Act -> World -> Prop}{Q:Exit -> Act -> World -> Prop}(s x:Operand)
  (M:o.op= .call {callee:= .builtin .append,args:= #[s,x],argTypes:= #[22,22]})
  (v u:Value) (k n:Nat) (f g:Nat -> ByteArray) (O:a.eval s=v) (Z:fH w v k f) (R:a.eval x=u) (hu:TSA w u n g) (a8:k <= 1000000000000 /\ n <= 1000000000000)
  (h:∀v' w',fH w' v' (k+n) (fun j=>if j<k then f j else g (j-k)) -> Turned w w' v v' -> K (a.put o.dst v') w'):Oper.wp prog o a w K Q:=by
 obtain⟨i,G,a1,a2,a3⟩:=info_parts qW;have a9:=Z;obtain⟨xs,E,a0⟩:=Z;have hl:xs.length=k:=by have:=E.1;omega
 have U:∀ (T:List Value) (m:Nat) v' w',m=n -> T=(List.range n).map (fun j=>Value.string (g j)) -> w'.ownsRow 0 30 1 v' (k+m) (xs++T) -> Turned w w' v v' -> K (a.put o.dst v') w':=by
  rintro T m v' w' rfl rfl a5 a7;refine h v' w' ⟨_,a5,fun j t=> ?_⟩ a7;by_cases e:j<k
  ·obtain⟨y,F,rfl⟩:=a0 j e;exact⟨_,by rw[List.getElem?_append_left oM];exact F,by show _=Value.string (if j<k then f j else g (j-k));rw[if_pos e]⟩
  ·exact⟨_,by rw[List.getElem?_append_right oM,hl,List.getElem?_map,List.getElem?_range oM];rfl,by show Value.string (g (j-k))=Value.string (if j<k then f j else g (j-k));rw[if_neg e]⟩
 obtain⟨ht,⟨rfl,rfl⟩ | ⟨b,p,c,rfl⟩ | ⟨rfl,ad,c,rfl⟩⟩:=hu
 ·have a6:=run_append_owned_none (P:=prog) w 0 22 o.type 30 i 1 underlying22 G v k xs E;unfold Oper.wp;simp[execOp,M,resolve,invoke,builtin,O,R,a6,Result.andThen];refine h v w ⟨xs,E,fun j t=> ?_⟩ ⟨⟨rfl,rfl,rfl,Nat.le_refl _,fun _ _ _=>rfl⟩, .inl rfl⟩;obtain⟨y,F,rfl⟩:=a0 j t;exact⟨_,F,by show _=Value.string (if j<k then f j else g (j-k));rw[if_pos (show j<k from t)]⟩
 ·refine lW w s x _ M _ i _ 1 16 underlying22 G a1 a2 a3 rfl dC v k xs O E ⟨b,p,none⟩ n c ((List.range n).map (fun j=>Value.string (g j))) R (by simp) ?_ ?_ (by unfold maxLen;omega) oM (fun v' w'=>U _ n v' w' rfl rfl)
  ·intro j y t
   have Y:j<n:=by
    have:=(List.getElem?_eq_some_iff.1 t).1
    simpa using this
   obtain⟨b',p',X,a4⟩:=ht.at_ oM;simp only[Option.some.injEq,Addr.mk.injEq,and_true] at X;obtain⟨rfl,rfl⟩:=X;rw[Jz,a4 j Y];simp[Y] at t;rw[t]
  ·intro y hy;obtain⟨j,_,rfl⟩:=List.mem_map.1 hy;rfl
 ·exact lW w s x _ M _ i _ 1 16 underlying22 G a1 a2 a3 rfl dC v k xs O E ad 0 c [] R rfl (by simp) (by simp) (by unfold maxLen;omega) oM (fun v' w'=>U [] 0 v' w' rfl (by simp))
def SG(w:World)(g n:Nat)(s:Nat -> ByteArray):Prop:=∃cs:List Value,Row w g 9 cs /\ n <= cs.length /\ ∀j,j<n -> cs[j]? =some (.string (s j))
section
variable {w w':World} {g n:Nat} {s:Nat -> ByteArray}
theorem SG.lt(h:SG w g n s):g<w.heap.size:=by obtain⟨cs,t,_⟩:=h;exact t.lt
theorem SG.below(h:SG w g n s)(E:Below w.heap.size w w'):SG w' g n s:=by obtain⟨cs,t,h⟩:=h;exact⟨cs,t.below E t.lt,h⟩
theorem SG.at_(h:SG w g n s){j:Nat}(t:j<n): w.cell? ⟨g,j,none⟩=some (.string (s j)):=by obtain⟨cs,E,_,h⟩:=h;exact E.at_ _ (h j t)
theorem SG.free(h:SG w g n s)(j:Nat): w.frozen? ⟨g,j,none⟩=false:=by obtain⟨cs,t,_⟩:=h;exact t.free j
theorem SG.congr{s':Nat -> ByteArray}(h:SG w g n s)(G:∀j,j<n -> s j=s' j):SG w g n s':=by
 obtain⟨cs,F,E,h⟩:=h;exact⟨cs,F,E,fun j t=>by rw[<- G j t];exact h j t⟩
theorem SG.set(h:SG w g n s){j:Nat}{x:ByteArray}(G:j<n):SG (w.setCell ⟨g,j,none⟩ (.string x)) g n (upd s j x):=by
 obtain⟨cs,F,E,h⟩:=h;refine⟨_,F.set j _,by simpa using E,fun k t=> ?_⟩;by_cases e:k=j
 ·subst e;rw[Lp.upd_same];simp[List.getElem?_set];omega
 ·rw[List.getElem?_set_ne oM,Lp.eT _ _ e];exact h k t
end
theorem JA:(prog.info? 9).map (fun i=>(i.zero,i.size,i.bytes))=some (some (.string ⟨#[]⟩),1,16):=by kernel_rfl
theorem SG.made{w:World}{base g n:Nat}(h:w.ownsRow base 9 1 (.slice (some ⟨g,0,none⟩) n n) n (madeCells (Value.string ⟨#[]⟩).cells (n*1)).toList):SG w g n (fun _=>⟨#[]⟩):=by
 have E:=Row.made (z:= .string ⟨#[]⟩) (by rw[Nat.mul_one] at h;exact h);refine⟨_,E,by simp,fun j t=> ?_⟩;rw[List.getElem?_replicate,if_pos t]
theorem JB(w:World){ops:Array Oper}{rest:List Oper}{o:Oper}{a:Act}{Q:Exit -> Act -> World -> Prop}
  (M:o.guard=none) (l c:Operand) (U:o.op=Op.makeSlice 152 l c) (L C:Int) (n:Nat) (T:a.eval l= .int .i64 L) (G:a.eval c= .int .i64 C) (F:L=(n:Int)) (t:C=(n:Int)) (b2:n <= 4398046511104)
  (E:∀w',SG w' w.heap.size n (fun _=>⟨#[]⟩) -> Below w.heap.size w w' -> w.heap.size<w'.heap.size -> wpList prog ops Q rest (a.put o.dst (.slice (some ⟨w.heap.size,0,none⟩) n n)) w'):
  wpList prog ops Q (o::rest) a w:=by
 obtain⟨i,R,Y,Z,a0⟩:=info_parts JA;refine wpList_make_full w M l c _ U w.heap.size _ i _ 1 underlying152 R Y Z .i64 .i64 L C n T G F t (by rw[a0];omega) (by unfold maxLen;omega) (Nat.le_refl _) ?_;intro w' X O;have h:=SG.made X;exact E w' h ((Below.refl _ _).grown O (Nat.le_refl _) (by simp)) h.lt
end
section
open Go.RowKit
open Lp (RL upd eu)
def uq(z:Bool)(m:Nat)(y:Nat -> Rat):Prop:=z=true↔∀i,i<m -> 0 <= y i
def JC(w':World)(n m:Nat)(A:Nat -> Nat -> Rat)(bq yq:Nat -> Rat)(e:Ending):Prop:=∃ (g:Nat) (z:Bool),e= .returned (.tuple #[.slice (some ⟨g,0,none⟩) n n, .string (eF (Lp.eB m yq bq)), .bool z]) /\ uq z m yq /\ SG w' g n (fun j=>eF (Lp.eB m yq (fun i=>A i j)))
set_option maxRecDepth 100000 in
set_option maxHeartbeats 6400000 in
theorem Cx(AR AY:Option Addr)(n m cR cY:Nat)(k:Nat -> Nat)(t:Nat -> Nat -> ByteArray)(b y:Nat -> ByteArray)(A:Nat -> Nat -> Rat)(bq E:Nat -> Rat)(Ka Kd M:Nat)(w:World)(hr:fZ w (.slice AR m cR) m k t b)(hy:TS w (.slice AY m cY) m y)(au:∀i,i<m -> k i=n)(ht:∀i,i<m -> ∀j,j<n -> t i j=eF (A i j))(an:∀i,i<m -> b i=eF (bq i))(ax:∀i,i<m -> y i=eF (E i))(hn:n <= 1000000000)(hm:m <= 1000000000)
  (a6:∀i,i<m -> ∀j,j<n -> RL Ka (A i j)) (a7:∀i,i<m -> RL Ka (bq i)) (a3:∀i,i<m -> RL Kd (E i)) (O:1+m* (Kd+Ka+1) <= M /\ Ka <= M /\ Kd <= M) (hk:4*M <= 4000000):
  Calls prog 105 #[.int .i64 n, .slice AR m cR, .slice AY m cY] w fun e w'=>JC w' n m A bq E e /\ Below w.heap.size w w':=by
 have HR:=lH hr;have HY:=lH (hy.congr ax);have HT:=lH (And.intro au (And.intro ht an));have ay:=lH (fun i Z j R=>(a6 i Z j R).mono O.2.1);have az:=lH (fun i Z=>(a7 i Z).mono O.2.1);have aa:=lH (fun i Z=>(a3 i Z).mono O.2.2);have a5:=lH hk;have aD:Hid (∀q,q <= m -> ∀j,j<n -> RL M (Lp.eB q E (fun i=>A i j))):=lH (fun q T j R=>(jy a3 (fun i Z=>a6 i Z j R) q T).mono (by have:=Nat.mul_le_mul_right (Kd+Ka+1) T;omega));have aA:Hid (∀q,q <= m -> RL M (Lp.eB q E bq)):=lH (fun q T=>(jy a3 a7 q T).mono (by have:=Nat.mul_le_mul_right (Kd+Ka+1) T;omega));have aB:Hid (∀q,q<m -> ∀j,j<n -> RL M (E q*A q j)):=lH (fun q T j R=>((a3 q T).mul (a6 q T j R)).mono (by have:1* (Kd+Ka+1) <= m* (Kd+Ka+1):=Nat.mul_le_mul_right _ oM;omega));have aC:Hid (∀q,q<m -> RL M (E q*bq q)):=lH (fun q T=>((a3 q T).mul (a7 q T)).mono (by have:1* (Kd+Ka+1) <= m* (Kd+Ka+1):=Nat.mul_le_mul_right _ oM;omega));clear hr hy au ht an ax a6 a7 a3 O hk;go_enter func105,ntmps105
 go_wp2_with (at_make;refine JB _ rfl (.tmp 16) (.tmp 16) rfl _ _ n rfl rfl rfl rfl oM ?_)
 intro w1 ad al aK;obtain⟨U,ar⟩:=eX (w.heap.size);rw[<- ar] at ad ⊢;have ah:Hid (w.heap.size <= U):=lH oM;have S0:=lH ad;have B0:=lH al;clear ad al aK ar;go_wp2_with fail
 go_loopw [12] (fun iv wr=>∃q:Nat,q <= n /\ iv= .int .i64 q /\ SG wr U n (fun j=>if j<q then⟨#[48]⟩ else⟨#[]⟩) /\ Below w.heap.size w wr)
  (fun iv _=>n-(intOf iv).toNat)
 case atStart=>exact⟨0,Nat.zero_le _,rfl,S0.o.congr (fun j _=>by rw[if_neg oM]),B0.o⟩
 case round=>
  clear S0 B0;obtain⟨q,T,rfl,hs,Y⟩:=hrel;have SB:=lH hs;have F:=lH Y;clear hs Y;by_cases aM:((q:Nat):Int)<((n:Nat):Int)
  ·have av:q<n:=oM
   have kg:=SB.o.at_ av;have fg:=SB.o.free q;have kl:=SB.o.lt;have hg:World.grownBy wr (wr.setCell ⟨U,q,none⟩ (.string ⟨#[48]⟩)) (some U):=grownBy_set _ _ _ _;have BN:=SB.o.set (x:=⟨#[48]⟩) av;have a9:=F.o.grown hg F.o.size (by have:=ah.o;first | (simp;done) | (simp;omega));go_wp2_with fail
   clear kg fg kl;go_roundw
   case rel=>
    refine⟨q+1,by omega,by go_num,BN.congr (fun j R=> ?_),a9⟩;by_cases e:j=q
    ·subst e;rw[Lp.upd_same,if_pos oM]
    ·rw[Lp.eT _ _ e];by_cases e2:j<q
     ·rw[if_pos e2,if_pos oM]
     ·rw[if_neg e2,if_neg oM]
   case measure=>exact mZ
  ·obtain rfl:n=q:=oM
   have S1:Hid (SG wr U n (fun j=>eF (Lp.eB 0 E (fun i=>A i j)))):=lH (SB.o.congr (fun j R=>by rw[if_pos R,show Lp.eB 0 E (fun i=>A i j)=0 from rfl,mF]));have B1:=F;clear SB F;go_wp2_with fail
   obtain⟨wa,rfl⟩:=eX (wr)
   go_loopw [9,10,13] (fun bv rv iv wr=>∃ (q:Nat) (z:Bool),q <= m /\ bv= .string (eF (Lp.eB q E bq)) /\ rv= .bool z /\ iv= .int .i64 q /\ uq z q E /\ SG wr U n (fun j=>eF (Lp.eB q E (fun i=>A i j))) /\ Below w.heap.size w wr)
    (fun _ _ iv _=>m-(intOf iv).toNat)
   case atStart=>exact⟨0,true,Nat.zero_le _,by rw[show Lp.eB 0 E bq=0 from rfl,mF],rfl,rfl,⟨fun _ i Z=>absurd Z oM,fun _=>rfl⟩,S1.o,B1.o⟩
   case round=>
    clear S1 B1;obtain⟨q,z,T,rfl,rfl,rfl,hz,hs,Y⟩:=hrel;have HZ:=lH hz;have SB:=lH hs;have F:=lH Y;clear hz hs Y;by_cases aL:((q:Nat):Int)<((m:Nat):Int)
    ·have X:q<m:=oM
     obtain⟨gY,oY,rfl,aq⟩:=HY.o.at_ oM;obtain⟨gR,oR,rfl,ao⟩:=HR.o.at_ oM;obtain⟨u,aw,ae,a8⟩:=ao q X;rw[HT.o.1 q X] at a8;rw[HT.o.2.2 q X] at ae;obtain⟨AU,cU,rfl,_,_⟩:=a8.shape;have HU:Hid (TS w (.slice AU n cU) n (fun j=>eF (A q j))):=lH (a8.congr (fun j R=>HT.o.2.1 q X j R));have WY:=lH (aq q X);have W0:=lH aw;have W1:=lH ae;clear aq ao aw ae a8;have cy:=cell_below F.o WY.o;have aF:=eG cy
     go_upto_region 11 with (fail)
     clear cy aF
     go_cut [10] (fun v wx=>∃z2:Bool,v= .bool z2 /\ uq z2 (q+1) E /\ Hid (SG wx U n (fun j=>eF (Lp.eB q E (fun i=>A i j)))) /\ Hid (Below w.heap.size w wx))
     case first=>
      cases z with
      | false=>
       go_wp2_with fail
       go_meet
       exact⟨false,rfl,⟨fun h=>(by cases h),fun h=>HZ.o.2 (fun i Z=>h i oM)⟩,SB,F⟩
      | true=>
       go_wp2_with fail
       refine(tO (E q) M _ (aa.o q X) a5.o).mono ?_;rintro e w3 ⟨rfl,am⟩;have H2:Hid (uq (decide (0 <= sgI (E q).num)) (q+1) E):=lH ⟨fun h i Z=>if e:i=q then by subst e;exact Rat.not_lt.1 (fun h2=>absurd (pK h2) (by have:=of_decide_eq_true h;omega)) else HZ.o.1 rfl i oM,fun h=>decide_eq_true (pM (h q oM))⟩;go_wp2_with fail
       go_meet
       exact⟨_,rfl,H2.o,lH (SB.o.below am),lH (F.o.trans (am.mono F.o.size))⟩
     case rest=>
      obtain⟨z2,rfl,hz,hs,Y⟩:=hcut;clear HZ SB F;have HZ:=lH hz;have SB:=lH hs.o;have F:=lH Y.o;have ag:=lH (cell_below F.o W1.o);clear hz hs Y;have cx:=ag.o;have aE:=eG cx;go_wp2_with fail
      clear cx aE;refine(vP (E q) (bq q) M _ (aa.o q X) (az.o q X) a5.o).mono ?_;rintro e w5 ⟨rfl,ab⟩;replace SB:=lH (SB.o.below ab);replace F:=bT F ab;go_wp2_with fail
      refine(vQ (Lp.eB q E bq) (E q*bq q) M _ (aA.o q oM) (aC.o q X) a5.o).mono ?_;rintro e w6 ⟨rfl,ac⟩;replace SB:=lH (SB.o.below ac);replace F:=bT F ac;clear ab ac;go_wp2_with fail
      obtain⟨wb,rfl⟩:=eX (w6);have S1:=SB;have B1:=F;clear SB F ag
      go_loopw [15] (fun iv wr=>∃r:Nat,r <= n /\ iv= .int .i64 r /\ SG wr U n (fun j=>eF (if j<r then Lp.eB (q+1) E (fun i=>A i j) else Lp.eB q E (fun i=>A i j))) /\ Below w.heap.size w wr)
       (fun iv _=>n-(intOf iv).toNat)
      case atStart=>exact⟨0,Nat.zero_le _,rfl,S1.o.congr (fun j _=>by rw[if_neg oM]),B1.o⟩
      case round=>
       clear S1 B1;obtain⟨r,hr,rfl,hs,Y⟩:=hrel;have SB:=lH hs;have F:=lH Y;clear hs Y;by_cases aN:((r:Nat):Int)<((n:Nat):Int)
       ·have a4:r<n:=oM
        have KG:Hid (wr.cell? ⟨U,r,none⟩=some (.string (eF (Lp.eB q E (fun i=>A i r))))):=lH (by rw[SB.o.at_ a4,if_neg oM]);have af:=lH (cell_below F.o W0.o);obtain⟨gU,oU,rfl,ap⟩:=HU.o.at_ oM;have CU:=lH (cell_below F.o (ap r a4));clear ap;go_wp2_with fail
        have a0:=rG wr;have aJ:=eG KG.o;have ak:=KG.o;have aG:=eG af.o;have ai:=af.o;have aH:=eG CU.o;have aj:=CU.o;have KS:=lH (kC ak (kC ai (kN aj)));clear aJ ak aG ai aH aj;refine rL KS.o (fun i=>decide (18 <= i)) ?_;have G:=KS.o _ a0.o;refine tKs 0 56 G ?_;refine tKs 1 57 G ?_;refine tKs 2 58 G ?_;refine tKs 3 59 G ?_;refine tKs 4 60 G ?_;refine tKs 5 61 G ?_;refine tKs 6 62 G ?_;refine tKs 7 63 G ?_;refine tKs 8 64 G ?_;refine tKs 9 65 G ?_;refine tKs 10 66 G ?_;refine tKs 11 67 G ?_;refine tKs 12 68 G ?_;refine tKs 13 69 G ?_;refine tKs 14 70 G ?_;refine rD 15 (fun K O=> ?_);go_simp;refine(vP (E q) (A q r) M _ (aa.o q X) (ay.o q X r a4) a5.o).mono ?_;rintro e w7 ⟨rfl,a1⟩;have a1:Below wr.heap.size wr w7:=bD a1;replace SB:=lH (SB.o.below a1);replace KG:=lH (cell_below a1 KG.o);replace F:=bT F a1;replace a0:=bT a0 a1;clear G a1;have G:=KS.o _ a0.o;refine kH O G ?_;clear O K;refine rD 16 (fun K O=> ?_);go_simp;refine(vQ (Lp.eB q E (fun i=>A i r)) (E q*A q r) M _ (aD.o q oM r a4) (aB.o q X r a4) a5.o).mono ?_;rintro e w8 ⟨rfl,a2⟩;have a2:Below w7.heap.size w7 w8:=bD a2;replace SB:=lH (SB.o.below a2);replace KG:=lH (cell_below a2 KG.o);replace F:=bT F a2;replace a0:=bT a0 a2;clear G a2;have G:=KS.o _ a0.o;refine kH O G ?_;clear O K;refine tKs 17 73 G ?_;have fg:=SB.o.free r;have kg:=KG.o;have kl:=SB.o.lt;refine rD 18 (fun K O=> ?_);go_simp;refine kL O ?_;clear O K;refine dN ?_ _;clear G KS a0;clear fg kg kl;have hg:World.grownBy w8 (w8.setCell ⟨U,r,none⟩ (.string (eF (Lp.eB q E (fun i=>A i r)+E q*A q r)))) (some U):=grownBy_set _ _ _ _;have BN:=SB.o.set (x:=eF (Lp.eB q E (fun i=>A i r)+E q*A q r)) a4;have a9:=F.o.grown hg F.o.size (by have:=ah.o;first | (simp;done) | (simp;omega));go_wp2_with fail
        go_roundw
        case rel=>
         refine⟨r+1,by omega,by go_num,BN.congr (fun j R=> ?_),a9⟩;by_cases e:j=r
         ·subst e;rw[Lp.upd_same,if_pos oM];rfl
         ·rw[Lp.eT _ _ e];by_cases e2:j<r
          ·rw[if_pos e2,if_pos oM]
          ·rw[if_neg e2,if_neg oM]
        case measure=>exact mZ
       ·obtain rfl:n=r:=oM
        go_wp2_with fail
        go_roundw
        case rel=>exact⟨q+1,z2,by omega,rfl,rfl,by go_num,HZ.o,SB.o.congr (fun j R=>by rw[if_pos R]),F.o⟩
        case measure=>exact mZ
    ·obtain rfl:m=q:=oM
     go_wp2_with fail
     go_returns;exact⟨⟨U,z,rfl,HZ.o,SB.o⟩,F.o⟩
end
end Go.Proofs.YtdefghfjhgmpfaaGreatDoor
