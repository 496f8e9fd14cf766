/- Parts of this proof: Cat TComb. -/
import Derived.Test.YtdefghfjhgmpfaaGreatDoorMAV
import Derived.Test.YtdefghfjhgmpfaaGreatDoorMAE
import Derived.Test.YtdefghfjhgmpfaaGreatDoorMBM
namespace Go.Proofs.YtdefghfjhgmpfaaGreatDoor
open Go.Proofs.Tryz
section
open Go.RowKit
open Lp (RL upd eu)
theorem Jz(g o j:Nat):(⟨g,o,none⟩:Addr).add j=⟨g,o+j,none⟩:=by
 unfold Addr.add;by_cases h:j=0
 ·subst h;simp
 ·simp[h]
theorem mG(w:World){o:Oper}{a:Act}{K:Act -> World -> Prop}{Q:Exit -> Act -> World -> Prop}(s x:Operand)
  (F:o.op= .call {callee:= .builtin .append,args:= #[s,x],argTypes:= #[22,22]})
  (v u:Value) (k n:Nat) (f g:Nat -> ByteArray) (G:a.eval s=v) (V:fH w v k f) (M:a.eval x=u) (hu:TSA w u n g) (a4:k <= 1000000000000 /\ n <= 1000000000000)
  (h:∀v' w',fH w' v' (k+n) (fun j=>if j<k then f j else g (j-k)) -> Turned w w' v v' -> K (a.put o.dst v') w'):Oper.wp prog o a w K Q:=by
 obtain⟨i,E,X,Y,Z⟩:=info_parts qW;have a5:=V;obtain⟨xs,t,W⟩:=V;have hl:xs.length=k:=by have:=t.1;omega
 have R:∀ (O:List Value) (m:Nat) v' w',m=n -> O=(List.range n).map (fun j=>Value.string (g j)) -> w'.ownsRow 0 30 1 v' (k+m) (xs++O) -> Turned w w' v v' -> K (a.put o.dst v') w':=by
  rintro O m v' w' rfl rfl a1 a3;refine h v' w' ⟨_,a1,fun j r=> ?_⟩ a3;by_cases e:j<k
  ·obtain⟨y,C,rfl⟩:=W j e;exact⟨_,by rw[List.getElem?_append_left oM];exact C,by show _=Value.string (if j<k then f j else g (j-k));rw[if_pos e]⟩
  ·exact⟨_,by rw[List.getElem?_append_right oM,hl,List.getElem?_map,List.getElem?_range oM];rfl,by show Value.string (g (j-k))=Value.string (if j<k then f j else g (j-k));rw[if_neg e]⟩
 obtain⟨ht,⟨rfl,rfl⟩ | ⟨b,p,c,rfl⟩ | ⟨rfl,ad,c,rfl⟩⟩:=hu
 ·have a2:=run_append_owned_none (P:=prog) w 0 22 o.type 30 i 1 underlying22 E v k xs t;unfold Oper.wp;simp[execOp,F,resolve,invoke,builtin,G,M,a2,Result.andThen];refine h v w ⟨xs,t,fun j r=> ?_⟩ ⟨⟨rfl,rfl,rfl,Nat.le_refl _,fun _ _ _=>rfl⟩, .inl rfl⟩;obtain⟨y,C,rfl⟩:=W j r;exact⟨_,C,by show _=Value.string (if j<k then f j else g (j-k));rw[if_pos (show j<k from r)]⟩
 ·refine lW w s x _ F _ i _ 1 16 underlying22 E X Y Z rfl dC v k xs G t ⟨b,p,none⟩ n c ((List.range n).map (fun j=>Value.string (g j))) M (by simp) ?_ ?_ (by unfold maxLen;omega) oM (fun v' w'=>R _ n v' w' rfl rfl)
  ·intro j y r
   have U:j<n:=by
    have:=(List.getElem?_eq_some_iff.1 r).1
    simpa using this
   obtain⟨b',p',T,a0⟩:=ht.at_ oM;simp only[Option.some.injEq,Addr.mk.injEq,and_true] at T;obtain⟨rfl,rfl⟩:=T;rw[Jz,a0 j U];simp[U] at r;rw[r]
  ·intro y hy;obtain⟨j,_,rfl⟩:=List.mem_map.1 hy;rfl
 ·exact lW w s x _ F _ i _ 1 16 underlying22 E X Y Z rfl dC v k xs G t ad 0 c [] M rfl (by simp) (by simp) (by unfold maxLen;omega) oM (fun v' w'=>R [] 0 v' w' rfl (by simp))
def SG(w:World)(g n:Nat)(s:Nat -> ByteArray):Prop:=∃cs:List Value,Row w g 9 cs /\ n <= cs.length /\ ∀j,j<n -> cs[j]? =some (.string (s j))
section
variable {w w':World} {g n:Nat} {s:Nat -> ByteArray}
theorem SG.lt(h:SG w g n s):g<w.heap.size:=by obtain⟨cs,r,_⟩:=h;exact r.lt
theorem SG.below(h:SG w g n s)(t:Below w.heap.size w w'):SG w' g n s:=by obtain⟨cs,r,h⟩:=h;exact⟨cs,r.below t r.lt,h⟩
theorem SG.at_(h:SG w g n s){j:Nat}(r:j<n): w.cell? ⟨g,j,none⟩=some (.string (s j)):=by obtain⟨cs,t,_,h⟩:=h;exact t.at_ _ (h j r)
theorem SG.free(h:SG w g n s)(j:Nat): w.frozen? ⟨g,j,none⟩=false:=by obtain⟨cs,r,_⟩:=h;exact r.free j
theorem SG.congr{t:Nat -> ByteArray}(h:SG w g n s)(F:∀j,j<n -> s j=t j):SG w g n t:=by
 obtain⟨cs,E,C,h⟩:=h;exact⟨cs,E,C,fun j r=>by rw[<- F j r];exact h j r⟩
theorem SG.set(h:SG w g n s){j:Nat}{x:ByteArray}(E:j<n):SG (w.setCell ⟨g,j,none⟩ (.string x)) g n (upd s j x):=by
 obtain⟨cs,C,t,h⟩:=h;refine⟨_,C.set j _,by simpa using t,fun k r=> ?_⟩;by_cases e:k=j
 ·subst e;rw[Lp.upd_same];simp[List.getElem?_set];omega
 ·rw[List.getElem?_set_ne oM,Lp.eT _ _ e];exact h k r
end
theorem JA:(prog.info? 9).map (fun i=>(i.zero,i.size,i.bytes))=some (some (.string ⟨#[]⟩),1,16):=by kernel_rfl
theorem SG.made{w:World}{base g n:Nat}(h:w.ownsRow base 9 1 (.slice (some ⟨g,0,none⟩) n n) n (madeCells (Value.string ⟨#[]⟩).cells (n*1)).toList):SG w g n (fun _=>⟨#[]⟩):=by
 have t:=Row.made (z:= .string ⟨#[]⟩) (by rw[Nat.mul_one] at h;exact h);refine⟨_,t,by simp,fun j r=> ?_⟩;rw[List.getElem?_replicate,if_pos r]
theorem JB(w:World){ops:Array Oper}{rest:List Oper}{o:Oper}{a:Act}{Q:Exit -> Act -> World -> Prop}
  (G:o.guard=none) (l c:Operand) (T:o.op=Op.makeSlice 152 l c) (L C:Int) (n:Nat) (R:a.eval l= .int .i64 L) (F:a.eval c= .int .i64 C) (E:L=(n:Int)) (r:C=(n:Int)) (b2:n <= 4398046511104)
  (t:∀w',SG w' w.heap.size n (fun _=>⟨#[]⟩) -> Below w.heap.size w w' -> w.heap.size<w'.heap.size -> wpList prog ops Q rest (a.put o.dst (.slice (some ⟨w.heap.size,0,none⟩) n n)) w'):
  wpList prog ops Q (o::rest) a w:=by
 obtain⟨i,O,V,W,X⟩:=info_parts JA;refine wpList_make_full w G l c _ T w.heap.size _ i _ 1 underlying152 O V W .i64 .i64 L C n R F E r (by rw[X];omega) (by unfold maxLen;omega) (Nat.le_refl _) ?_;intro w' U M;have h:=SG.made U;exact t w' h ((Below.refl _ _).grown M (Nat.le_refl _) (by simp)) h.lt
end
section
open Go.RowKit
open Lp (RL upd eu)
def uq(z:Bool)(m:Nat)(y:Nat -> Rat):Prop:=z=true↔∀i,i<m -> 0 <= y i
def JC(w':World)(n m:Nat)(A:Nat -> Nat -> Rat)(bq yq:Nat -> Rat)(e:Ending):Prop:=∃ (g:Nat) (z:Bool),e= .returned (.tuple #[.slice (some ⟨g,0,none⟩) n n, .string (eF (Lp.eB m yq bq)), .bool z]) /\ uq z m yq /\ SG w' g n (fun j=>eF (Lp.eB m yq (fun i=>A i j)))
set_option maxRecDepth 100000 in
set_option maxHeartbeats 6400000 in
theorem Cx(AR AY:Option Addr)(n m cR cY:Nat)(k:Nat -> Nat)(t:Nat -> Nat -> ByteArray)(b y:Nat -> ByteArray)(A:Nat -> Nat -> Rat)(bq C:Nat -> Rat)(Z Kd G:Nat)(w:World)(hr:fZ w (.slice AR m cR) m k t b)(hy:TS w (.slice AY m cY) m y)(au:∀i,i<m -> k i=n)(ht:∀i,i<m -> ∀j,j<n -> t i j=eF (A i j))(an:∀i,i<m -> b i=eF (bq i))(ax:∀i,i<m -> y i=eF (C i))(hn:n <= 1000000000)(hm:m <= 1000000000)
  (a6:∀i,i<m -> ∀j,j<n -> RL Z (A i j)) (a7:∀i,i<m -> RL Z (bq i)) (a3:∀i,i<m -> RL Kd (C i)) (M:1+m* (Kd+Z+1) <= G /\ Z <= G /\ Kd <= G) (hk:4*G <= 1000000):
  Calls prog 105 #[.int .i64 n, .slice AR m cR, .slice AY m cY] w fun e w'=>JC w' n m A bq C e /\ Below w.heap.size w w':=by
 have HR:=lH hr;have HY:=lH (hy.congr ax);have HT:=lH (And.intro au (And.intro ht an));have ay:=lH (fun i W j O=>(a6 i W j O).mono M.2.1);have az:=lH (fun i W=>(a7 i W).mono M.2.1);have aa:=lH (fun i W=>(a3 i W).mono M.2.2);have a5:=lH hk;have aD:Hid (∀q,q <= m -> ∀j,j<n -> RL G (Lp.eB q C (fun i=>A i j))):=lH (fun q R j O=>(jy a3 (fun i W=>a6 i W j O) q R).mono (by have:=Nat.mul_le_mul_right (Kd+Z+1) R;omega));have aA:Hid (∀q,q <= m -> RL G (Lp.eB q C bq)):=lH (fun q R=>(jy a3 a7 q R).mono (by have:=Nat.mul_le_mul_right (Kd+Z+1) R;omega));have aB:Hid (∀q,q<m -> ∀j,j<n -> RL G (C q*A q j)):=lH (fun q R j O=>((a3 q R).mul (a6 q R j O)).mono (by have:1* (Kd+Z+1) <= m* (Kd+Z+1):=Nat.mul_le_mul_right _ oM;omega));have aC:Hid (∀q,q<m -> RL G (C q*bq q)):=lH (fun q R=>((a3 q R).mul (a7 q R)).mono (by have:1* (Kd+Z+1) <= m* (Kd+Z+1):=Nat.mul_le_mul_right _ oM;omega));clear hr hy au ht an ax a6 a7 a3 M hk;go_enter func105,ntmps105
 go_wp2_with (at_make;refine JB _ rfl (.tmp 16) (.tmp 16) rfl _ _ n rfl rfl rfl rfl oM ?_)
 intro w1 ad al aK;obtain⟨T,ar⟩:=eX (w.heap.size);rw[<- ar] at ad ⊢;have ah:Hid (w.heap.size <= T):=lH oM;have S0:=lH ad;have B0:=lH al;clear ad al aK ar;go_wp2_with fail
 go_loopw [12] (fun Y wr=>∃q:Nat,q <= n /\ Y= .int .i64 q /\ SG wr T n (fun j=>if j<q then⟨#[48]⟩ else⟨#[]⟩) /\ Below w.heap.size w wr)
  (fun Y _=>n-(intOf Y).toNat)
 case atStart=>exact⟨0,Nat.zero_le _,rfl,S0.o.congr (fun j _=>by rw[if_neg oM]),B0.o⟩
 case round=>
  clear S0 B0;obtain⟨q,R,rfl,X,V⟩:=hrel;have SB:=lH X;have E:=lH V;clear X V;by_cases aM:((q:Nat):Int)<((n:Nat):Int)
  ·have av:q<n:=oM
   have kg:=SB.o.at_ av;have fg:=SB.o.free q;have kl:=SB.o.lt;have hg:World.grownBy wr (wr.setCell ⟨T,q,none⟩ (.string ⟨#[48]⟩)) (some T):=grownBy_set _ _ _ _;have BN:=SB.o.set (x:=⟨#[48]⟩) av;have a9:=E.o.grown hg E.o.size (by have:=ah.o;first | (simp;done) | (simp;omega));go_wp2_with fail
   clear kg fg kl;go_roundw
   case rel=>
    refine⟨q+1,by omega,by go_num,BN.congr (fun j O=> ?_),a9⟩;by_cases e:j=q
    ·subst e;rw[Lp.upd_same,if_pos oM]
    ·rw[Lp.eT _ _ e];by_cases e2:j<q
     ·rw[if_pos e2,if_pos oM]
     ·rw[if_neg e2,if_neg oM]
   case measure=>exact mZ
  ·obtain rfl:n=q:=oM
   have S1:Hid (SG wr T n (fun j=>eF (Lp.eB 0 C (fun i=>A i j)))):=lH (SB.o.congr (fun j O=>by rw[if_pos O,show Lp.eB 0 C (fun i=>A i j)=0 from rfl,mF]));have B1:=E;clear SB E;go_wp2_with fail
   obtain⟨wa,rfl⟩:=eX (wr)
   go_loopw [9,10,13] (fun bv rv Y wr=>∃ (q:Nat) (z:Bool),q <= m /\ bv= .string (eF (Lp.eB q C bq)) /\ rv= .bool z /\ Y= .int .i64 q /\ uq z q C /\ SG wr T n (fun j=>eF (Lp.eB q C (fun i=>A i j))) /\ Below w.heap.size w wr)
    (fun _ _ Y _=>m-(intOf Y).toNat)
   case atStart=>exact⟨0,true,Nat.zero_le _,by rw[show Lp.eB 0 C bq=0 from rfl,mF],rfl,rfl,⟨fun _ i W=>absurd W oM,fun _=>rfl⟩,S1.o,B1.o⟩
   case round=>
    clear S1 B1;obtain⟨q,z,R,rfl,rfl,rfl,hz,X,V⟩:=hrel;have HZ:=lH hz;have SB:=lH X;have E:=lH V;clear hz X V;by_cases aL:((q:Nat):Int)<((m:Nat):Int)
    ·have U:q<m:=oM
     obtain⟨gY,oY,rfl,aq⟩:=HY.o.at_ oM;obtain⟨gR,oR,rfl,ao⟩:=HR.o.at_ oM;obtain⟨u,aw,ae,a8⟩:=ao q U;rw[HT.o.1 q U] at a8;rw[HT.o.2.2 q U] at ae;obtain⟨AU,cU,rfl,_,_⟩:=a8.shape;have HU:Hid (TS w (.slice AU n cU) n (fun j=>eF (A q j))):=lH (a8.congr (fun j O=>HT.o.2.1 q U j O));have WY:=lH (aq q U);have W0:=lH aw;have W1:=lH ae;clear aq ao aw ae a8;have cy:=cell_below E.o WY.o;have aF:=eG cy
     go_upto_region 11 with (fail)
     clear cy aF
     go_cut [10] (fun v wx=>∃z2:Bool,v= .bool z2 /\ uq z2 (q+1) C /\ Hid (SG wx T n (fun j=>eF (Lp.eB q C (fun i=>A i j)))) /\ Hid (Below w.heap.size w wx))
     case first=>
      cases z with
      | false=>
       go_wp2_with fail
       go_meet
       exact⟨false,rfl,⟨fun h=>(by cases h),fun h=>HZ.o.2 (fun i W=>h i oM)⟩,SB,E⟩
      | true=>
       go_wp2_with fail
       refine(tO (C q) G _ (aa.o q U) a5.o).mono ?_;rintro e w3 ⟨rfl,am⟩;have H2:Hid (uq (decide (0 <= sgI (C q).num)) (q+1) C):=lH ⟨fun h i W=>if e:i=q then by subst e;exact Rat.not_lt.1 (fun h2=>absurd (pK h2) (by have:=of_decide_eq_true h;omega)) else HZ.o.1 rfl i oM,fun h=>decide_eq_true (pM (h q oM))⟩;go_wp2_with fail
       go_meet
       exact⟨_,rfl,H2.o,lH (SB.o.below am),lH (E.o.trans (am.mono E.o.size))⟩
     case rest=>
      obtain⟨z2,rfl,hz,X,V⟩:=hcut;clear HZ SB E;have HZ:=lH hz;have SB:=lH X.o;have E:=lH V.o;have ag:=lH (cell_below E.o W1.o);clear hz X V;have cx:=ag.o;have aE:=eG cx;go_wp2_with fail
      clear cx aE;refine(vP (C q) (bq q) G _ (aa.o q U) (az.o q U) a5.o).mono ?_;rintro e w5 ⟨rfl,ab⟩;replace SB:=lH (SB.o.below ab);replace E:=bT E ab;go_wp2_with fail
      refine(vQ (Lp.eB q C bq) (C q*bq q) G _ (aA.o q oM) (aC.o q U) a5.o).mono ?_;rintro e w6 ⟨rfl,ac⟩;replace SB:=lH (SB.o.below ac);replace E:=bT E ac;clear ab ac;go_wp2_with fail
      obtain⟨wb,rfl⟩:=eX (w6);have S1:=SB;have B1:=E;clear SB E ag
      go_loopw [15] (fun Y wr=>∃r:Nat,r <= n /\ Y= .int .i64 r /\ SG wr T n (fun j=>eF (if j<r then Lp.eB (q+1) C (fun i=>A i j) else Lp.eB q C (fun i=>A i j))) /\ Below w.heap.size w wr)
       (fun Y _=>n-(intOf Y).toNat)
      case atStart=>exact⟨0,Nat.zero_le _,rfl,S1.o.congr (fun j _=>by rw[if_neg oM]),B1.o⟩
      case round=>
       clear S1 B1;obtain⟨r,hr,rfl,X,V⟩:=hrel;have SB:=lH X;have E:=lH V;clear X V;by_cases aN:((r:Nat):Int)<((n:Nat):Int)
       ·have a4:r<n:=oM
        have KG:Hid (wr.cell? ⟨T,r,none⟩=some (.string (eF (Lp.eB q C (fun i=>A i r))))):=lH (by rw[SB.o.at_ a4,if_neg oM]);have af:=lH (cell_below E.o W0.o);obtain⟨gU,oU,rfl,ap⟩:=HU.o.at_ oM;have CU:=lH (cell_below E.o (ap r a4));clear ap;go_wp2_with fail
        have a0:=rG wr;have aJ:=eG KG.o;have ak:=KG.o;have aG:=eG af.o;have ai:=af.o;have aH:=eG CU.o;have aj:=CU.o;have KS:=lH (kC ak (kC ai (kN aj)));clear aJ ak aG ai aH aj;refine rL KS.o (fun i=>decide (18 <= i)) ?_;have F:=KS.o _ a0.o;refine tKs 0 56 F ?_;refine tKs 1 57 F ?_;refine tKs 2 58 F ?_;refine tKs 3 59 F ?_;refine tKs 4 60 F ?_;refine tKs 5 61 F ?_;refine tKs 6 62 F ?_;refine tKs 7 63 F ?_;refine tKs 8 64 F ?_;refine tKs 9 65 F ?_;refine tKs 10 66 F ?_;refine tKs 11 67 F ?_;refine tKs 12 68 F ?_;refine tKs 13 69 F ?_;refine tKs 14 70 F ?_;refine rD 15 (fun K M=> ?_);go_simp;refine(vP (C q) (A q r) G _ (aa.o q U) (ay.o q U r a4) a5.o).mono ?_;rintro e w7 ⟨rfl,a1⟩;have a1:Below wr.heap.size wr w7:=bD a1;replace SB:=lH (SB.o.below a1);replace KG:=lH (cell_below a1 KG.o);replace E:=bT E a1;replace a0:=bT a0 a1;clear F a1;have F:=KS.o _ a0.o;refine kH M F ?_;clear M K;refine rD 16 (fun K M=> ?_);go_simp;refine(vQ (Lp.eB q C (fun i=>A i r)) (C q*A q r) G _ (aD.o q oM r a4) (aB.o q U r a4) a5.o).mono ?_;rintro e w8 ⟨rfl,a2⟩;have a2:Below w7.heap.size w7 w8:=bD a2;replace SB:=lH (SB.o.below a2);replace KG:=lH (cell_below a2 KG.o);replace E:=bT E a2;replace a0:=bT a0 a2;clear F a2;have F:=KS.o _ a0.o;refine kH M F ?_;clear M K;refine tKs 17 73 F ?_;have fg:=SB.o.free r;have kg:=KG.o;have kl:=SB.o.lt;refine rD 18 (fun K M=> ?_);go_simp;refine kL M ?_;clear M K;refine dN ?_ _;clear F KS a0;clear fg kg kl;have hg:World.grownBy w8 (w8.setCell ⟨T,r,none⟩ (.string (eF (Lp.eB q C (fun i=>A i r)+C q*A q r)))) (some T):=grownBy_set _ _ _ _;have BN:=SB.o.set (x:=eF (Lp.eB q C (fun i=>A i r)+C q*A q r)) a4;have a9:=E.o.grown hg E.o.size (by have:=ah.o;first | (simp;done) | (simp;omega));go_wp2_with fail
        go_roundw
        case rel=>
         refine⟨r+1,by omega,by go_num,BN.congr (fun j O=> ?_),a9⟩;by_cases e:j=r
         ·subst e;rw[Lp.upd_same,if_pos oM];rfl
         ·rw[Lp.eT _ _ e];by_cases e2:j<r
          ·rw[if_pos e2,if_pos oM]
          ·rw[if_neg e2,if_neg oM]
        case measure=>exact mZ
       ·obtain rfl:n=r:=oM
        go_wp2_with fail
        go_roundw
        case rel=>exact⟨q+1,z2,by omega,rfl,rfl,by go_num,HZ.o,SB.o.congr (fun j O=>by rw[if_pos O]),E.o⟩
        case measure=>exact mZ
    ·obtain rfl:m=q:=oM
     go_wp2_with fail
     go_returns;exact⟨⟨T,z,rfl,HZ.o,SB.o⟩,E.o⟩
end
end Go.Proofs.YtdefghfjhgmpfaaGreatDoor
