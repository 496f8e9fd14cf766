/- The statement LinearLimitsCardSaid: for every input the call of dowellaw06.LinearLimits returns true and each argument reads behind it as it read before. Conditions: none but those of the given row. -/
import Derived.Test.YtdefghfjhgmpfaaGreatDoorMAE
import Derived.Test.YtdefghfjhgmpfaaGreatDoorMBJ
import Derived.Test.YtdefghfjhgmpfaaGreatDoorMCG
import Derived.Test.YtdefghfjhgmpfaaGreatDoorMBZ
import Derived.Test.YtdefghfjhgmpfaaGreatDoorMBV
import Derived.Test.YtdefghfjhgmpfaaGreatDoorMBY
import Derived.Test.YtdefghfjhgmpfaaGreatDoorMCJ
import Derived.Test.YtdefghfjhgmpfaaGreatDoorMAZ
import Derived.Test.YtdefghfjhgmpfaaGreatDoorMAV
namespace Go.Proofs.YtdefghfjhgmpfaaGreatDoor
open Go.Proofs.Tryz
section
open Go.RowKit
open Lp (RL upd eu)
theorem Ku(w:World){o:Oper}{a:Act}{K:Act -> World -> Prop}{Q:Exit -> Act -> World -> Prop}(s x:Operand)
  (V:o.op= .call {callee:= .builtin .append,args:= #[s,x],argTypes:= #[23,23]})
  (v:Value) (q:Nat) (xs:List Value) (Z:a.eval s=v) (W:w.ownsRow 0 53 2 v q xs)
  (t C:Value) (h0:t.oneCell'=true) (h1:C.oneCell'=true) (hx:a.eval x= .slice (some ⟨w.heap.size,0,none⟩) 1 1)
  (a4:q <= 1000000000000)
  (h:∀v' w',w'.ownsRow 0 53 2 v' (q+1) (xs++ [t,C]) -> Turned w w' v v' -> K (a.put o.dst v') w'):Oper.wp prog o a (w.alloc (.cells #[t,C] 53)) K Q:=by
 obtain⟨i,R,a1,a2,a3⟩:=info_parts C8;have r:=eD w (.cells #[t,C] 53);have Y:Row (w.alloc (.cells #[t,C] 53)) w.heap.size 53 [t,C]:=eP _ _;have a0:=lI W (below_grown r) (by simp);refine lW _ s x _ V _ i _ 2 40 underlying23 R a1 a2 a3 rfl dC v q xs Z a0 ⟨w.heap.size,0,none⟩ 1 1 [t,C] hx rfl ?_ ?_ (by unfold maxLen;omega) oM ?_
 ·intro j y T;rw[add0];exact Y.at_ j T
 ·intro y M;simp only[List.mem_cons,List.not_mem_nil,or_false] at M;rcases M with rfl | rfl
  ·exact h0
  ·exact h1
 ·intro v' w' X E;refine h v' w' X ⟨⟨E.grown.os.trans r.os,E.grown.tape.trans r.tape,E.grown.output.trans r.output,Nat.le_trans r.size E.grown.size,fun k G U=>(E.grown.block k (Nat.lt_of_lt_of_le G r.size) U).trans (r.block k G)⟩,?_⟩
  rcases E.own with F | ⟨g,F,O⟩
  ·exact .inl F
  ·exact .inr ⟨g,F,Nat.le_trans r.size O⟩
def Kj(j:Nat):ByteArray:=if j=0 then⟨#[49]⟩ else⟨#[48]⟩
def Kk(w:World)(v:Value)(q g n:Nat):Prop:=
 ∃xs,w.ownsRow 0 53 2 v q xs /\ ∀i,i<q -> xs[i*2]? =some (.slice (some ⟨g,0,none⟩) n n) /\ xs[i*2+1]? =some (.string ⟨#[49]⟩)
theorem Kk.nil(w:World)(g n:Nat):Kk w (.slice none 0 0) 0 g n:=⟨[],World.ownsRow_nil _ _ _ _,fun i h=>absurd h oM⟩
theorem Kk.shape{w:World}{v:Value}{q g n:Nat}(h:Kk w v q g n):∃A c,v= .slice A q c /\ q <= c /\ c <= maxLen:=by obtain⟨xs,r,_⟩:=h;exact sP r
theorem Kk.row{w:World}{v:Value}{q g n:Nat}(h:Kk w v q g n){g':Nat}(r:v.ownBlock=some g'):∃cs,Row w g' 53 cs:=by obtain⟨xs,t,_⟩:=h;exact qN t r
theorem Kk.below{w w':World}{v:Value}{q g n:Nat}(h:Kk w v q g n)(r:Below w.heap.size w w'):Kk w' v q g n:=by
 obtain⟨xs,t,C⟩:=h;exact⟨xs,lI t (below_grown r) (by simp),C⟩
theorem Kk.other{w w':World}{v:Value}{q g n g':Nat}{e:TypeId}{cs:List Value}(h:Kk w v q g n)(F:w.grownBy w' (some g'))(O:Row w g' e cs)(E:e≠53):Kk w' v q g n:=by
 have t:v.ownBlock≠some g':=fun r=>by obtain⟨_,R⟩:=h.row r;exact E (O.ty R)
 obtain⟨xs,G,M⟩:=h;exact⟨xs,lI G F (fun T C r=>t (by rw[C];exact r.symm)),M⟩
theorem Kk.more{w:World}{v:Value}{q g n:Nat}{xs:List Value}(t:∀i,i<q -> xs[i*2]? =some (.slice (some ⟨g,0,none⟩) n n) /\ xs[i*2+1]? =some (.string ⟨#[49]⟩))(E:xs.length=q*2)
  (h:w.ownsRow 0 53 2 v (q+1) (xs++ [.slice (some ⟨g,0,none⟩) n n, .string ⟨#[49]⟩])):Kk w v (q+1) g n:=⟨_,h,fun i C=>by
 by_cases e:i=q
 ·subst e;exact⟨by rw[List.getElem?_append_right oM,show i*2-xs.length=0 by omega];rfl,by rw[List.getElem?_append_right oM,show i*2+1-xs.length=1 by omega];rfl⟩
 ·obtain⟨h1,r⟩:=t i oM
  exact⟨by rw[List.getElem?_append_left oM];exact h1,by rw[List.getElem?_append_left oM];exact r⟩⟩
theorem Kk.kG{w:World}{v:Value}{q g n:Nat}(h:Kk w v q g n)(U:SK w g n Kj)(O:n <= maxLen):fZ w v q (fun _=>n) (fun _=>Kj) (fun _=>⟨#[49]⟩):=by
 obtain⟨A,c,rfl,h1,G⟩:=h.shape;refine⟨A,c,rfl,h1,G,?_⟩
 rcases Nat.eq_zero_or_pos q with h0 | h0
 ·exact .inl h0
 ·obtain⟨xs,R,T⟩:=h;obtain⟨g',cap,cs,C,t,r⟩:=C9 R h0;simp only[Value.slice.injEq,true_and] at C;refine .inr ⟨g',0,C.1,fun i M=> ?_⟩;obtain⟨E,F⟩:=T i M;refine⟨.slice (some ⟨g,0,none⟩) n n,?_,?_,U.ts (Nat.le_refl _) O⟩
  ·rw[Nat.zero_add];exact t.at_ _ (r _ _ E)
  ·rw[Nat.zero_add];exact t.at_ _ (r _ _ F)
theorem KC:eF 1=⟨#[49]⟩:=by kernel_rfl
theorem KD:sE ⟨#[49]⟩=0:=by kernel_rfl
theorem KN:sE ⟨#[48]⟩=0:=by kernel_rfl
theorem KO(j:Nat):sE (Kj j)=0:=by unfold Kj;split;exact KD;exact KN
theorem Kl(j:Nat):(Kj j).size <= 1:=by unfold Kj;split <;> exact Nat.le_refl _
theorem Kn(n m:Nat):fD n m (fun _=>n) Kj (fun _=>Kj) (fun _=>⟨#[49]⟩)=if 96<n \/ 256<m then 6 else 0:=by
 unfold fD;by_cases h:96<n \/ 256<m
 ·rw[if_pos h,if_pos h]
 ·have r:fo n (fun j=>sE (Kj j))=0:=kF.2 fun j _=>KO j
  have t:fo m (fun _=>iw n Kj ⟨#[49]⟩)=0:=kF.2 fun i _=>by unfold iw;rw[r,if_neg (by simp)];exact KD
  rw[if_neg h,if_neg h,if_neg (fun C=>C (fun _ _=>rfl)),r,if_neg (by simp),t]
def Km(j:Nat):Rat:=if j=0 then 1 else 0
theorem KE(n:Nat)(f:Nat -> Rat):Lp.sumTo (n+1) (fun k=>Km k*f k)=f 0:=by
 induction n with
 | zero=>simp only[Lp.sumTo];unfold Km;rw[if_pos rfl];grind
 | succ n t=>
  have h:Lp.sumTo (n+1+1) (fun k=>Km k*f k)=Lp.sumTo (n+1) (fun k=>Km k*f k)+Km (n+1)*f (n+1):=rfl;rw[h,t];have r:Km (n+1)=0:=by unfold Km;rw[if_neg oM]
  rw[r];grind
theorem KP{n m:Nat}{A:Nat -> Nat -> Rat}{C c:Nat -> Rat}(h:jk n m Kj (fun _=>Kj) (fun _=>⟨#[49]⟩) A C c):(∀i,i<m -> ∀j,j<n -> A i j=Km j) /\ (∀i,i<m -> C i=1) /\ ∀j,j<n -> c j=Km j:=by
 have E:(⟨#[49]⟩:ByteArray).data.toList=fA 1:=by rw[<- jI,KC]
 have F:(⟨#[48]⟩:ByteArray).data.toList=fA 0:=by rw[<- jI,mF]
 have e:∀j,(Kj j).data.toList=fA (Km j):=fun j=>by unfold Kj Km;split;exact E;exact F
 exact⟨fun i r j t=>rQ ((h.rows i r j t).symm.trans (e j)),fun i r=>rQ ((h.bounds i r).symm.trans E),fun j t=>rQ ((h.obj j t).symm.trans (e j))⟩
theorem KQ{n m:Nat}{A:Nat -> Nat -> Rat}{t c:Nat -> Rat}(h:jk (n+1) (m+1) Kj (fun _=>Kj) (fun _=>⟨#[49]⟩) A t c):Lp.Opt (m+1) (n+1) A t c 1 Km Km:=by
 obtain⟨C,E,F⟩:=KP h
 have G:∀a:Nat -> Rat,(∀j,j<n+1 -> a j=Km j) -> Lp.eB (n+1) a Km=1:=fun a R=>by
  have e:Lp.eB (n+1) a Km=Lp.sumTo (n+1) (fun k=>Km k*Km k):=Lp.sumTo_congr fun k r=>by rw[R k r]
  rw[e,KE];unfold Km;rw[if_pos rfl]
 have O:∀f:Nat -> Rat,Lp.eB (m+1) Km f=f 0:=fun f=>KE m f
 refine⟨⟨fun i _=>by unfold Km;split <;> decide,fun k r=>by rw[O,C 0 oM k r,F k r]⟩,by rw[O,E 0 oM],fun i M=>by rw[G _ (fun j T=>C i M j T),E i M];exact Rat.le_refl,G _ F⟩
theorem KF{n m:Nat}{A:Nat -> Nat -> Rat}{t c x y d:Nat -> Rat}{q:Rat}{O:OTx}(E:jk (n+1) (m+1) Kj (fun _=>Kj) (fun _=>⟨#[49]⟩) A t c)(G:1 <= O.kk /\ O.kk <= 3)(F:O.Is q x y d)(h:kI (m+1) (n+1) O.kk A t c q x y d):O.kk=1 /\ O.s=⟨#[49]⟩:=by
 have r:=KM (d':=fun _=>0) G ⟨by decide,by decide⟩ h (kk':=1) ⟨fun _=>KQ E,fun e=>absurd e dC,fun e=>absurd e dC⟩;refine⟨r.1,?_⟩;have C:=jE (F.val r.1);rw[r.2 r.1] at C;exact C.trans KC
set_option maxRecDepth 100000 in
set_option maxHeartbeats 12800000 in
theorem KR(more aU:Bool)(w:World)(W:iG w)(ht:Tab w):
  Calls prog 14 #[.bool more, .bool aU] w fun e w'=>e= .returned (.bool true) /\ Below w.heap.size w w':=by
 have ac:=lH W;have ay:=lH ht;clear W ht;cases more <;> cases aU
 ·go_enter func14,ntmps14;go_wp2_with fail
  refine(pW _ ac.o ay.o).mono ?_;rintro e w1 ⟨rfl,F⟩;have r:=lH F;clear F;obtain⟨w2,G⟩:=eX (w1.alloc (.cells #[.string ⟨#[48]⟩] 30));obtain⟨g1,R⟩:=eX (w1.heap.size);have M:Below w1.heap.size w1 w2:=by rw[G];exact eD _ _
  have R1:Hid (Row w2 g1 30 [.string ⟨#[48]⟩]):=lH (by rw[G,R];exact eP _ _);replace r:=bT r M;clear M;go_wp2_with fail
  rw[<- G, <- R];clear G R;refine(Kt g1 0 1 96 ⟨#[48]⟩ _ (R1.o.at_ 0 rfl) dC dC).mono ?_;rintro e w3 ⟨E,rfl,al,ah,F⟩;have aA:Hid (w.heap.size <= E):=lH (Nat.le_trans r.o.size ah);replace r:=bT r F;clear F;have C:=lH al;clear al ah R1;have am:=r.o.size;obtain⟨w4,G⟩:=eX (w3.alloc (.cells #[.slice (some ⟨E,0,none⟩) 96 96, .slice none 0 0] 25));obtain⟨Y,R⟩:=eX (w3.heap.size);have M:Below w3.heap.size w3 w4:=by rw[G];exact eD _ _
  have t:Hid (Row w4 Y 25 [.slice (some ⟨E,0,none⟩) 96 96, .slice none 0 0]):=lH (by rw[G,R];exact eP _ _);replace C:=lH (C.o.below M);replace r:=bT r M;have az:Hid (w.heap.size <= Y):=lH (by rw[R];exact am);clear am;clear M
  go_upto_region 11 with (fail)
  rw[<- G, <- R];clear G R;have a3:=aI 0 t;have a4:=t.o.lt;have c0:=C.o.at_ (show 0<96 by decide);have f0:=C.o.free 0;have gl:=C.o.lt;have W:World.grownBy w4 (w4.setCell ⟨E,0,none⟩ (.string ⟨#[49]⟩)) (some E):=grownBy_set _ _ _ _;have a8:SK (w4.setCell ⟨E,0,none⟩ (.string ⟨#[49]⟩)) E 96 Kj:=(C.o.set (j:=0) (x:=⟨#[49]⟩) (show 0<96 by decide)).congr (fun j _=>by unfold Kj Lp.upd;split <;> rfl);obtain⟨_,ak⟩:=C.o.row;have e2:=t.o.other W (fun e1=>by subst e1;exact absurd (t.o.ty ak) dC);have e3:=r.o.grown W r.o.size (by have:=aA.o;first | (simp;done) | (simp;omega));obtain⟨w5,a9⟩:=eX ((w4.setCell ⟨E,0,none⟩ (.string ⟨#[49]⟩)));rw[<- a9] at a8 e2 e3
  skip
  go_upto_region 12 with (fail)
  rw[<- a9];clear a9 W ak c0 f0 gl a3 a4;replace C:=lH a8;replace t:=lH e2;replace r:=lH e3;clear a8 e2 e3;go_wp2_with fail
  go_loopw [30] (fun iv wr=>∃ (q:Nat) (B:Option Addr) (d:Nat),q <= 1 /\ iv= .int .i64 q /\ Hid (Row wr Y 25 [.slice (some ⟨E,0,none⟩) 96 96, .slice B q d]) /\ Hid (SK wr E 96 Kj) /\ Hid (Kk wr (.slice B q d) q E 96) /\ Hid (∀g,(Value.slice B q d).ownBlock=some g -> w.heap.size <= g) /\ Hid (Below w.heap.size w wr))
   (fun iv _=>1-(intOf iv).toNat)
  case atStart=>exact⟨0,none,0,Nat.zero_le _,rfl,t,C,lH (Kk.nil _ _ _),lH (fun g W=>by simp[Value.ownBlock] at W),r⟩
  case round=>
   clear t C r;obtain⟨q,B,d,hq,rfl,t,C,X,LO,r⟩:=hrel;by_cases aS:((q:Nat):Int)<1
   ·have aT:q<1:=oM
    go_upto_region 14 with (fail)
    go_wp2_with fail
    have a0:=rG wr;have aE:=t.o.lt;obtain⟨ae,af⟩:=aT2 t.o;have KS:=lH (kC ae (kN af));clear aE ae af;refine rL KS.o (fun i=>decide (8 <= i)) ?_;have T:=KS.o _ a0.o;refine tKs 0 32 T ?_;refine tKs 1 33 T ?_;refine tKs 2 34 T ?_;refine tKs 3 35 T ?_;refine rD 4 (fun K U=> ?_);go_simp;refine(oq ⟨#[49]⟩ (some ⟨E,0,none⟩) 96 96 _).mono ?_;rintro e ax ⟨rfl,Z⟩;have Z:Below wr.heap.size wr ax:=bD Z;replace t:=rW t Z;replace C:=lH (C.o.below Z);replace X:=lH (X.o.below Z);replace r:=bT r Z;replace a0:=bT a0 Z;clear T Z;have T:=KS.o _ a0.o;refine kH U T ?_;clear U K;obtain⟨xs,aa,an⟩:=X.o;have ao:=aa.1;refine rD 5 (fun K U=> ?_);go_simp;refine U.out _ _ (fun _=>KS.o _ (a0.o.trans ((eD _ _).mono a0.o.size))) ?_;clear U K T;refine rD 6 (fun K U=> ?_);rw[if_pos (by rfl)];refine Ku ax (.tmp 33) (.tmp 37) rfl (.slice B q d) q xs rfl aa (.slice (some ⟨E,0,none⟩) 96 96) (.string ⟨#[49]⟩) rfl rfl rfl oM ?_;intro va a7 ho a5;show K (Act.put _ (some 38) va) a7;have ad:=lH (Kk.more an ao ho);obtain⟨B2,d2,rfl,_,_⟩:=ad.o.shape;have ai:(Value.slice B q d).ownBlock≠some Y:=fun e=>by obtain⟨_,hx⟩:=X.o.row e;exact absurd (t.o.ty hx) dC
    have aj:(Value.slice B q d).ownBlock≠some E:=fun e=>by obtain⟨_,hx⟩:=X.o.row e;obtain⟨_,hy⟩:=C.o.row;exact absurd (hy.ty hx) dC
    replace t:=lH (t.o.turned a5 ai);replace C:=lH (C.o.turned a5 aj);have ag:=a5.below (B:=w.heap.size) r.o.size LO.o;have aC:=lH (a5.base r.o.size LO.o);replace r:=lH (r.o.trans ag);clear ag a5 ho ai aj X LO aa an ao;have T:=And.intro (t.o.at_ 0 rfl) (t.o.at_ 1 rfl);refine kH U T ?_;clear U K;refine tKs 7 39 T ?_;have k1:=aI 1 t;have f1:=t.o.free 1;have kl:=t.o.lt;refine rD 8 (fun K U=> ?_);go_simp;refine kL U ?_;clear U K;refine dN ?_ _;clear T KS a0;clear k1 f1 kl;have W:World.grownBy a7 (a7.setCell ⟨Y,1,none⟩ (.slice B2 (q+1) d2)) (some Y):=grownBy_set _ _ _ _;have QN:Row (a7.setCell ⟨Y,1,none⟩ (.slice B2 (q+1) d2)) Y 25 [.slice (some ⟨E,0,none⟩) 96 96, .slice B2 (q+1) d2]:=t.o.set 1 (.slice B2 (q+1) d2);have SN:=C.o.jN W t.o dC;have ON:=ad.o.other W t.o dC;have HN:=r.o.grown W r.o.size (by have:=az.o;first | (simp;done) | (simp;omega));go_wp2_with fail
    go_roundw
    case rel=>exact⟨q+1,B2,d2,by omega,by go_num,lH QN,lH SN,lH ON,aC,lH HN⟩
    case measure=>exact mZ
   ·have aK:q=1:=oM
    subst aK;have a1:=lH (C.o.ts (Nat.le_refl _) (show 96 <= maxLen by unfold maxLen;decide));have a2:=lH (X.o.kG C.o (show 96 <= maxLen by unfold maxLen;decide));clear X LO C;obtain⟨a3,a6⟩:=aT2 t.o;have a4:=t.o.lt
    go_upto_region 16 with (fail)
    go_wp2_with fail
    clear a3 a6 a4;refine(Ct (some ⟨E,0,none⟩) B 96 1 96 d (fun _=>96) Kj (fun _=>Kj) (fun _=>⟨#[49]⟩) 1 _ a1.o a2.o dC dC (fun j _=>Nat.le_trans (Kl j) dC) (fun _ _ j _=>Nat.le_trans (Kl j) dC) (fun _ _=>by decide) dC dC (fun j _=>Kl j) (fun _ _ j _=>Kl j) (fun _ _=>by decide) (ay.o.below r.o) (ac.o.below r.o)).mono ?_;rintro e w6 ⟨hs,F⟩;replace t:=rW t F;replace a1:=lH (a1.o.below F);replace a2:=lH (a2.o.below F);replace r:=bT r F;clear F;unfold Iy at hs;rw[Kn] at hs;rw[if_neg dC] at hs
    rcases hs with ⟨h0,_⟩ | ⟨_,A,bq,c,V,aH,hv,rfl⟩
    ·exact absurd rfl h0
    ·have aR:Hid (fD 96 1 (fun _=>96) Kj (fun _=>Kj) (fun _=>⟨#[49]⟩)=0):=lH (by rw[Kn];exact if_neg dC);obtain⟨O,hO,aO,aG,aL,aN,q,x,y,dd,aF,aJ⟩:=hv.tx;obtain⟨AP,cP,AY,cY,AD,cD,rfl,hp,hy,hd⟩:=hO.shape;have ab:=lH (KF (n:=95) (m:=0) aH aG aF aJ);have aP:Hid (O.Fit 65536):=lH (aO.mono dC);have aB:=lH (q8 aL);have HP:=lH hp;have HY:=lH hy;have HD:=lH hd;have aQ:Hid (∀aD:Nat,ou 96 1 (fun _=>96) Kj (fun _=>Kj) (fun _=>⟨#[49]⟩) O aD -> aD=0):=lH (fun aD h=>Ci h aR.o aG aL aN aH aF aJ);clear hv hO aO aG aL aH aF aJ hp hy hd aN;obtain⟨w7,G⟩:=eX (w6.alloc (.cells #[.int .i64 O.kk, .string O.s, .slice AP O.np cP, .slice AY O.ny cY, .slice AD O.nd cD] 32));obtain⟨gO,R⟩:=eX (w6.heap.size);have M:Below w6.heap.size w6 w7:=by rw[G];exact eD _ _
     have OB:Hid (Row w7 gO 32 [.int .i64 O.kk, .string O.s, .slice AP O.np cP, .slice AY O.ny cY, .slice AD O.nd cD]):=lH (by rw[G,R];exact eP _ _);replace t:=rW t M;replace a1:=lH (a1.o.below M);replace a2:=lH (a2.o.below M);replace HP:=lH (HP.o.below M);replace HY:=lH (HY.o.below M);replace HD:=lH (HD.o.below M);replace r:=bT r M;rw[ab.o.1,ab.o.2] at OB G;rw[ab.o.1,ab.o.2];obtain⟨a3,a6⟩:=aT2 t.o;have a4:=t.o.lt;obtain⟨ap,aq,ar,au,av⟩:=aT5 OB.o;have aw:=OB.o.lt;rw[G] at a3 a6 a4 ap aq ar au av aw;rw[R] at ap aq ar au av aw;go_wp2_with fail
     rw[<- G];clear G R M a3 a6 a4 ap aq ar au av aw
     skip
     refine(Jy (some ⟨E,0,none⟩) B 96 1 96 d (fun _=>96) Kj (fun _=>Kj) (fun _=>⟨#[49]⟩) ⟨1,⟨#[49]⟩,O.np,O.p,O.ny,O.y,O.nd,O.d⟩ AP AY AD cP cY cD _ a1.o a2.o dC dC (fun j _=>Nat.le_trans (Kl j) dC) (fun _ _ j _=>Nat.le_trans (Kl j) dC) (fun _ _=>by decide) HP.o.1 HY.o.1 HD.o.1 ⟨Nat.le_trans aB.o.1 dC,Nat.le_trans aB.o.2.1 dC,Nat.le_trans aB.o.2.2 dC⟩ ⟨by show(⟨#[49]⟩:ByteArray).size <= 65536;decide,aP.o.2⟩ (ac.o.below r.o)).mono ?_;rintro e w9 ⟨⟨c1,rfl,aM⟩,F⟩;replace r:=bT r F;clear F;have e:(⟨1,⟨#[49]⟩,O.np,O.p,O.ny,O.y,O.nd,O.d⟩:OTx)=O:=by rw[<- ab.o.1, <- ab.o.2]
     rw[e] at aM;obtain rfl:=aQ.o _ aM;clear aM e;go_wp2_with fail
     go_returns;exact⟨rfl,r.o⟩
 ·go_enter func14,ntmps14;go_wp2_with fail
  refine(pW _ ac.o ay.o).mono ?_;rintro e w1 ⟨rfl,F⟩;have r:=lH F;clear F;obtain⟨w2,G⟩:=eX (w1.alloc (.cells #[.string ⟨#[48]⟩] 30));obtain⟨g1,R⟩:=eX (w1.heap.size);have M:Below w1.heap.size w1 w2:=by rw[G];exact eD _ _
  have R1:Hid (Row w2 g1 30 [.string ⟨#[48]⟩]):=lH (by rw[G,R];exact eP _ _);replace r:=bT r M;clear M;go_wp2_with fail
  rw[<- G, <- R];clear G R;refine(Kt g1 0 1 2 ⟨#[48]⟩ _ (R1.o.at_ 0 rfl) dC dC).mono ?_;rintro e w3 ⟨E,rfl,al,ah,F⟩;have aA:Hid (w.heap.size <= E):=lH (Nat.le_trans r.o.size ah);replace r:=bT r F;clear F;have C:=lH al;clear al ah R1;have am:=r.o.size;obtain⟨w4,G⟩:=eX (w3.alloc (.cells #[.slice (some ⟨E,0,none⟩) 2 2, .slice none 0 0] 25));obtain⟨Y,R⟩:=eX (w3.heap.size);have M:Below w3.heap.size w3 w4:=by rw[G];exact eD _ _
  have t:Hid (Row w4 Y 25 [.slice (some ⟨E,0,none⟩) 2 2, .slice none 0 0]):=lH (by rw[G,R];exact eP _ _);replace C:=lH (C.o.below M);replace r:=bT r M;have az:Hid (w.heap.size <= Y):=lH (by rw[R];exact am);clear am;clear M
  go_upto_region 11 with (fail)
  rw[<- G, <- R];clear G R;have a3:=aI 0 t;have a4:=t.o.lt;have c0:=C.o.at_ (show 0<2 by decide);have f0:=C.o.free 0;have gl:=C.o.lt;have W:World.grownBy w4 (w4.setCell ⟨E,0,none⟩ (.string ⟨#[49]⟩)) (some E):=grownBy_set _ _ _ _;have a8:SK (w4.setCell ⟨E,0,none⟩ (.string ⟨#[49]⟩)) E 2 Kj:=(C.o.set (j:=0) (x:=⟨#[49]⟩) (show 0<2 by decide)).congr (fun j _=>by unfold Kj Lp.upd;split <;> rfl);obtain⟨_,ak⟩:=C.o.row;have e2:=t.o.other W (fun e1=>by subst e1;exact absurd (t.o.ty ak) dC);have e3:=r.o.grown W r.o.size (by have:=aA.o;first | (simp;done) | (simp;omega));obtain⟨w5,a9⟩:=eX ((w4.setCell ⟨E,0,none⟩ (.string ⟨#[49]⟩)));rw[<- a9] at a8 e2 e3
  skip
  go_upto_region 12 with (fail)
  rw[<- a9];clear a9 W ak c0 f0 gl a3 a4;replace C:=lH a8;replace t:=lH e2;replace r:=lH e3;clear a8 e2 e3;go_wp2_with fail
  go_loopw [30] (fun iv wr=>∃ (q:Nat) (B:Option Addr) (d:Nat),q <= 256 /\ iv= .int .i64 q /\ Hid (Row wr Y 25 [.slice (some ⟨E,0,none⟩) 2 2, .slice B q d]) /\ Hid (SK wr E 2 Kj) /\ Hid (Kk wr (.slice B q d) q E 2) /\ Hid (∀g,(Value.slice B q d).ownBlock=some g -> w.heap.size <= g) /\ Hid (Below w.heap.size w wr))
   (fun iv _=>256-(intOf iv).toNat)
  case atStart=>exact⟨0,none,0,Nat.zero_le _,rfl,t,C,lH (Kk.nil _ _ _),lH (fun g W=>by simp[Value.ownBlock] at W),r⟩
  case round=>
   clear t C r;obtain⟨q,B,d,hq,rfl,t,C,X,LO,r⟩:=hrel;by_cases aS:((q:Nat):Int)<256
   ·have aT:q<256:=oM
    go_upto_region 14 with (fail)
    go_wp2_with fail
    have a0:=rG wr;have aE:=t.o.lt;obtain⟨ae,af⟩:=aT2 t.o;have KS:=lH (kC ae (kN af));clear aE ae af;refine rL KS.o (fun i=>decide (8 <= i)) ?_;have T:=KS.o _ a0.o;refine tKs 0 32 T ?_;refine tKs 1 33 T ?_;refine tKs 2 34 T ?_;refine tKs 3 35 T ?_;refine rD 4 (fun K U=> ?_);go_simp;refine(oq ⟨#[49]⟩ (some ⟨E,0,none⟩) 2 2 _).mono ?_;rintro e ax ⟨rfl,Z⟩;have Z:Below wr.heap.size wr ax:=bD Z;replace t:=rW t Z;replace C:=lH (C.o.below Z);replace X:=lH (X.o.below Z);replace r:=bT r Z;replace a0:=bT a0 Z;clear T Z;have T:=KS.o _ a0.o;refine kH U T ?_;clear U K;obtain⟨xs,aa,an⟩:=X.o;have ao:=aa.1;refine rD 5 (fun K U=> ?_);go_simp;refine U.out _ _ (fun _=>KS.o _ (a0.o.trans ((eD _ _).mono a0.o.size))) ?_;clear U K T;refine rD 6 (fun K U=> ?_);rw[if_pos (by rfl)];refine Ku ax (.tmp 33) (.tmp 37) rfl (.slice B q d) q xs rfl aa (.slice (some ⟨E,0,none⟩) 2 2) (.string ⟨#[49]⟩) rfl rfl rfl oM ?_;intro va a7 ho a5;show K (Act.put _ (some 38) va) a7;have ad:=lH (Kk.more an ao ho);obtain⟨B2,d2,rfl,_,_⟩:=ad.o.shape;have ai:(Value.slice B q d).ownBlock≠some Y:=fun e=>by obtain⟨_,hx⟩:=X.o.row e;exact absurd (t.o.ty hx) dC
    have aj:(Value.slice B q d).ownBlock≠some E:=fun e=>by obtain⟨_,hx⟩:=X.o.row e;obtain⟨_,hy⟩:=C.o.row;exact absurd (hy.ty hx) dC
    replace t:=lH (t.o.turned a5 ai);replace C:=lH (C.o.turned a5 aj);have ag:=a5.below (B:=w.heap.size) r.o.size LO.o;have aC:=lH (a5.base r.o.size LO.o);replace r:=lH (r.o.trans ag);clear ag a5 ho ai aj X LO aa an ao;have T:=And.intro (t.o.at_ 0 rfl) (t.o.at_ 1 rfl);refine kH U T ?_;clear U K;refine tKs 7 39 T ?_;have k1:=aI 1 t;have f1:=t.o.free 1;have kl:=t.o.lt;refine rD 8 (fun K U=> ?_);go_simp;refine kL U ?_;clear U K;refine dN ?_ _;clear T KS a0;clear k1 f1 kl;have W:World.grownBy a7 (a7.setCell ⟨Y,1,none⟩ (.slice B2 (q+1) d2)) (some Y):=grownBy_set _ _ _ _;have QN:Row (a7.setCell ⟨Y,1,none⟩ (.slice B2 (q+1) d2)) Y 25 [.slice (some ⟨E,0,none⟩) 2 2, .slice B2 (q+1) d2]:=t.o.set 1 (.slice B2 (q+1) d2);have SN:=C.o.jN W t.o dC;have ON:=ad.o.other W t.o dC;have HN:=r.o.grown W r.o.size (by have:=az.o;first | (simp;done) | (simp;omega));go_wp2_with fail
    go_roundw
    case rel=>exact⟨q+1,B2,d2,by omega,by go_num,lH QN,lH SN,lH ON,aC,lH HN⟩
    case measure=>exact mZ
   ·have aK:q=256:=oM
    subst aK;have a1:=lH (C.o.ts (Nat.le_refl _) (show 2 <= maxLen by unfold maxLen;decide));have a2:=lH (X.o.kG C.o (show 2 <= maxLen by unfold maxLen;decide));clear X LO C;obtain⟨a3,a6⟩:=aT2 t.o;have a4:=t.o.lt
    go_upto_region 16 with (fail)
    go_wp2_with fail
    clear a3 a6 a4;refine(Ct (some ⟨E,0,none⟩) B 2 256 2 d (fun _=>2) Kj (fun _=>Kj) (fun _=>⟨#[49]⟩) 1 _ a1.o a2.o dC dC (fun j _=>Nat.le_trans (Kl j) dC) (fun _ _ j _=>Nat.le_trans (Kl j) dC) (fun _ _=>by decide) dC dC (fun j _=>Kl j) (fun _ _ j _=>Kl j) (fun _ _=>by decide) (ay.o.below r.o) (ac.o.below r.o)).mono ?_;rintro e w6 ⟨hs,F⟩;replace t:=rW t F;replace a1:=lH (a1.o.below F);replace a2:=lH (a2.o.below F);replace r:=bT r F;clear F;unfold Iy at hs;rw[Kn] at hs;rw[if_neg dC] at hs
    rcases hs with ⟨h0,_⟩ | ⟨_,A,bq,c,V,aH,hv,rfl⟩
    ·exact absurd rfl h0
    ·have aR:Hid (fD 2 256 (fun _=>2) Kj (fun _=>Kj) (fun _=>⟨#[49]⟩)=0):=lH (by rw[Kn];exact if_neg dC);obtain⟨O,hO,aO,aG,aL,aN,q,x,y,dd,aF,aJ⟩:=hv.tx;obtain⟨AP,cP,AY,cY,AD,cD,rfl,hp,hy,hd⟩:=hO.shape;have ab:=lH (KF (n:=1) (m:=255) aH aG aF aJ);have aP:Hid (O.Fit 65536):=lH (aO.mono dC);have aB:=lH (q8 aL);have HP:=lH hp;have HY:=lH hy;have HD:=lH hd;have aQ:Hid (∀aD:Nat,ou 2 256 (fun _=>2) Kj (fun _=>Kj) (fun _=>⟨#[49]⟩) O aD -> aD=0):=lH (fun aD h=>Ci h aR.o aG aL aN aH aF aJ);clear hv hO aO aG aL aH aF aJ hp hy hd aN;obtain⟨w7,G⟩:=eX (w6.alloc (.cells #[.int .i64 O.kk, .string O.s, .slice AP O.np cP, .slice AY O.ny cY, .slice AD O.nd cD] 32));obtain⟨gO,R⟩:=eX (w6.heap.size);have M:Below w6.heap.size w6 w7:=by rw[G];exact eD _ _
     have OB:Hid (Row w7 gO 32 [.int .i64 O.kk, .string O.s, .slice AP O.np cP, .slice AY O.ny cY, .slice AD O.nd cD]):=lH (by rw[G,R];exact eP _ _);replace t:=rW t M;replace a1:=lH (a1.o.below M);replace a2:=lH (a2.o.below M);replace HP:=lH (HP.o.below M);replace HY:=lH (HY.o.below M);replace HD:=lH (HD.o.below M);replace r:=bT r M;rw[ab.o.1,ab.o.2] at OB G;rw[ab.o.1,ab.o.2];obtain⟨a3,a6⟩:=aT2 t.o;have a4:=t.o.lt;obtain⟨ap,aq,ar,au,av⟩:=aT5 OB.o;have aw:=OB.o.lt;rw[G] at a3 a6 a4 ap aq ar au av aw;rw[R] at ap aq ar au av aw;go_wp2_with fail
     rw[<- G];clear G R M a3 a6 a4 ap aq ar au av aw
     skip
     refine(Jy (some ⟨E,0,none⟩) B 2 256 2 d (fun _=>2) Kj (fun _=>Kj) (fun _=>⟨#[49]⟩) ⟨1,⟨#[49]⟩,O.np,O.p,O.ny,O.y,O.nd,O.d⟩ AP AY AD cP cY cD _ a1.o a2.o dC dC (fun j _=>Nat.le_trans (Kl j) dC) (fun _ _ j _=>Nat.le_trans (Kl j) dC) (fun _ _=>by decide) HP.o.1 HY.o.1 HD.o.1 ⟨Nat.le_trans aB.o.1 dC,Nat.le_trans aB.o.2.1 dC,Nat.le_trans aB.o.2.2 dC⟩ ⟨by show(⟨#[49]⟩:ByteArray).size <= 65536;decide,aP.o.2⟩ (ac.o.below r.o)).mono ?_;rintro e w9 ⟨⟨c1,rfl,aM⟩,F⟩;replace r:=bT r F;clear F;have e:(⟨1,⟨#[49]⟩,O.np,O.p,O.ny,O.y,O.nd,O.d⟩:OTx)=O:=by rw[<- ab.o.1, <- ab.o.2]
     rw[e] at aM;obtain rfl:=aQ.o _ aM;clear aM e;go_wp2_with fail
     go_returns;exact⟨rfl,r.o⟩
 ·go_enter func14,ntmps14;go_wp2_with fail
  refine(pW _ ac.o ay.o).mono ?_;rintro e w1 ⟨rfl,F⟩;have r:=lH F;clear F;obtain⟨w2,G⟩:=eX (w1.alloc (.cells #[.string ⟨#[48]⟩] 30));obtain⟨g1,R⟩:=eX (w1.heap.size);have M:Below w1.heap.size w1 w2:=by rw[G];exact eD _ _
  have R1:Hid (Row w2 g1 30 [.string ⟨#[48]⟩]):=lH (by rw[G,R];exact eP _ _);replace r:=bT r M;clear M;go_wp2_with fail
  rw[<- G, <- R];clear G R;refine(Kt g1 0 1 97 ⟨#[48]⟩ _ (R1.o.at_ 0 rfl) dC dC).mono ?_;rintro e w3 ⟨E,rfl,al,ah,F⟩;have aA:Hid (w.heap.size <= E):=lH (Nat.le_trans r.o.size ah);replace r:=bT r F;clear F;have C:=lH al;clear al ah R1;have am:=r.o.size;obtain⟨w4,G⟩:=eX (w3.alloc (.cells #[.slice (some ⟨E,0,none⟩) 97 97, .slice none 0 0] 25));obtain⟨Y,R⟩:=eX (w3.heap.size);have M:Below w3.heap.size w3 w4:=by rw[G];exact eD _ _
  have t:Hid (Row w4 Y 25 [.slice (some ⟨E,0,none⟩) 97 97, .slice none 0 0]):=lH (by rw[G,R];exact eP _ _);replace C:=lH (C.o.below M);replace r:=bT r M;have az:Hid (w.heap.size <= Y):=lH (by rw[R];exact am);clear am;clear M
  go_upto_region 11 with (fail)
  rw[<- G, <- R];clear G R;have a3:=aI 0 t;have a4:=t.o.lt;have c0:=C.o.at_ (show 0<97 by decide);have f0:=C.o.free 0;have gl:=C.o.lt;have W:World.grownBy w4 (w4.setCell ⟨E,0,none⟩ (.string ⟨#[49]⟩)) (some E):=grownBy_set _ _ _ _;have a8:SK (w4.setCell ⟨E,0,none⟩ (.string ⟨#[49]⟩)) E 97 Kj:=(C.o.set (j:=0) (x:=⟨#[49]⟩) (show 0<97 by decide)).congr (fun j _=>by unfold Kj Lp.upd;split <;> rfl);obtain⟨_,ak⟩:=C.o.row;have e2:=t.o.other W (fun e1=>by subst e1;exact absurd (t.o.ty ak) dC);have e3:=r.o.grown W r.o.size (by have:=aA.o;first | (simp;done) | (simp;omega));obtain⟨w5,a9⟩:=eX ((w4.setCell ⟨E,0,none⟩ (.string ⟨#[49]⟩)));rw[<- a9] at a8 e2 e3
  skip
  go_upto_region 12 with (fail)
  rw[<- a9];clear a9 W ak c0 f0 gl a3 a4;replace C:=lH a8;replace t:=lH e2;replace r:=lH e3;clear a8 e2 e3;go_wp2_with fail
  go_loopw [30] (fun iv wr=>∃ (q:Nat) (B:Option Addr) (d:Nat),q <= 1 /\ iv= .int .i64 q /\ Hid (Row wr Y 25 [.slice (some ⟨E,0,none⟩) 97 97, .slice B q d]) /\ Hid (SK wr E 97 Kj) /\ Hid (Kk wr (.slice B q d) q E 97) /\ Hid (∀g,(Value.slice B q d).ownBlock=some g -> w.heap.size <= g) /\ Hid (Below w.heap.size w wr))
   (fun iv _=>1-(intOf iv).toNat)
  case atStart=>exact⟨0,none,0,Nat.zero_le _,rfl,t,C,lH (Kk.nil _ _ _),lH (fun g W=>by simp[Value.ownBlock] at W),r⟩
  case round=>
   clear t C r;obtain⟨q,B,d,hq,rfl,t,C,X,LO,r⟩:=hrel;by_cases aS:((q:Nat):Int)<1
   ·have aT:q<1:=oM
    go_upto_region 14 with (fail)
    go_wp2_with fail
    have a0:=rG wr;have aE:=t.o.lt;obtain⟨ae,af⟩:=aT2 t.o;have KS:=lH (kC ae (kN af));clear aE ae af;refine rL KS.o (fun i=>decide (8 <= i)) ?_;have T:=KS.o _ a0.o;refine tKs 0 32 T ?_;refine tKs 1 33 T ?_;refine tKs 2 34 T ?_;refine tKs 3 35 T ?_;refine rD 4 (fun K U=> ?_);go_simp;refine(oq ⟨#[49]⟩ (some ⟨E,0,none⟩) 97 97 _).mono ?_;rintro e ax ⟨rfl,Z⟩;have Z:Below wr.heap.size wr ax:=bD Z;replace t:=rW t Z;replace C:=lH (C.o.below Z);replace X:=lH (X.o.below Z);replace r:=bT r Z;replace a0:=bT a0 Z;clear T Z;have T:=KS.o _ a0.o;refine kH U T ?_;clear U K;obtain⟨xs,aa,an⟩:=X.o;have ao:=aa.1;refine rD 5 (fun K U=> ?_);go_simp;refine U.out _ _ (fun _=>KS.o _ (a0.o.trans ((eD _ _).mono a0.o.size))) ?_;clear U K T;refine rD 6 (fun K U=> ?_);rw[if_pos (by rfl)];refine Ku ax (.tmp 33) (.tmp 37) rfl (.slice B q d) q xs rfl aa (.slice (some ⟨E,0,none⟩) 97 97) (.string ⟨#[49]⟩) rfl rfl rfl oM ?_;intro va a7 ho a5;show K (Act.put _ (some 38) va) a7;have ad:=lH (Kk.more an ao ho);obtain⟨B2,d2,rfl,_,_⟩:=ad.o.shape;have ai:(Value.slice B q d).ownBlock≠some Y:=fun e=>by obtain⟨_,hx⟩:=X.o.row e;exact absurd (t.o.ty hx) dC
    have aj:(Value.slice B q d).ownBlock≠some E:=fun e=>by obtain⟨_,hx⟩:=X.o.row e;obtain⟨_,hy⟩:=C.o.row;exact absurd (hy.ty hx) dC
    replace t:=lH (t.o.turned a5 ai);replace C:=lH (C.o.turned a5 aj);have ag:=a5.below (B:=w.heap.size) r.o.size LO.o;have aC:=lH (a5.base r.o.size LO.o);replace r:=lH (r.o.trans ag);clear ag a5 ho ai aj X LO aa an ao;have T:=And.intro (t.o.at_ 0 rfl) (t.o.at_ 1 rfl);refine kH U T ?_;clear U K;refine tKs 7 39 T ?_;have k1:=aI 1 t;have f1:=t.o.free 1;have kl:=t.o.lt;refine rD 8 (fun K U=> ?_);go_simp;refine kL U ?_;clear U K;refine dN ?_ _;clear T KS a0;clear k1 f1 kl;have W:World.grownBy a7 (a7.setCell ⟨Y,1,none⟩ (.slice B2 (q+1) d2)) (some Y):=grownBy_set _ _ _ _;have QN:Row (a7.setCell ⟨Y,1,none⟩ (.slice B2 (q+1) d2)) Y 25 [.slice (some ⟨E,0,none⟩) 97 97, .slice B2 (q+1) d2]:=t.o.set 1 (.slice B2 (q+1) d2);have SN:=C.o.jN W t.o dC;have ON:=ad.o.other W t.o dC;have HN:=r.o.grown W r.o.size (by have:=az.o;first | (simp;done) | (simp;omega));go_wp2_with fail
    go_roundw
    case rel=>exact⟨q+1,B2,d2,by omega,by go_num,lH QN,lH SN,lH ON,aC,lH HN⟩
    case measure=>exact mZ
   ·have aK:q=1:=oM
    subst aK;have a1:=lH (C.o.ts (Nat.le_refl _) (show 97 <= maxLen by unfold maxLen;decide));have a2:=lH (X.o.kG C.o (show 97 <= maxLen by unfold maxLen;decide));clear X LO C;obtain⟨a3,a6⟩:=aT2 t.o;have a4:=t.o.lt
    go_upto_region 16 with (fail)
    go_wp2_with fail
    clear a3 a6 a4;refine(Ct (some ⟨E,0,none⟩) B 97 1 97 d (fun _=>97) Kj (fun _=>Kj) (fun _=>⟨#[49]⟩) 1 _ a1.o a2.o dC dC (fun j _=>Nat.le_trans (Kl j) dC) (fun _ _ j _=>Nat.le_trans (Kl j) dC) (fun _ _=>by decide) dC dC (fun j _=>Kl j) (fun _ _ j _=>Kl j) (fun _ _=>by decide) (ay.o.below r.o) (ac.o.below r.o)).mono ?_;rintro e w6 ⟨hs,F⟩;replace t:=rW t F;replace a1:=lH (a1.o.below F);replace a2:=lH (a2.o.below F);replace r:=bT r F;clear F;unfold Iy at hs;rw[Kn] at hs;rw[if_pos dC] at hs
    rcases hs with ⟨_,rfl⟩ | ⟨h0,_⟩
    ·obtain⟨w7,G⟩:=eX (w6.alloc (.cells #[.int .i64 0, .string ⟨#[]⟩, .slice none 0 0, .slice none 0 0, .slice none 0 0] 32));obtain⟨gO,R⟩:=eX (w6.heap.size);have M:Below w6.heap.size w6 w7:=by rw[G];exact eD _ _
     have OB:Hid (Row w7 gO 32 [.int .i64 0, .string ⟨#[]⟩, .slice none 0 0, .slice none 0 0, .slice none 0 0]):=lH (by rw[G,R];exact eP _ _);replace t:=rW t M;replace a1:=lH (a1.o.below M);replace a2:=lH (a2.o.below M);replace r:=bT r M;obtain⟨a3,a6⟩:=aT2 t.o;have a4:=t.o.lt;rw[G] at a3 a6 a4;go_wp2_with fail
     rw[<- G, <- R];clear G R M a3 a6 a4;refine(K9 (some ⟨E,0,none⟩) B 97 1 97 d (fun _=>97) Kj (fun _=>Kj) (fun _=>⟨#[49]⟩) _ a1.o a2.o dC dC (fun j _=>Nat.le_trans (Kl j) dC) (fun _ _ j _=>Nat.le_trans (Kl j) dC) (fun _ _=>by decide) (ac.o.below r.o)).mono ?_;rintro e w8 ⟨rfl,F⟩;replace OB:=rW OB F;replace r:=bT r F;clear F;rw[Kn,if_pos dC];obtain⟨ap,aq,ar,au,av⟩:=aT5 OB.o;have aw:=OB.o.lt;go_wp2_with fail
     clear ap aq ar au av aw;refine(CJ _).mono ?_;rintro e w9 ⟨rfl,F⟩;replace r:=bT r F;clear F;go_wp2_with fail
     go_returns;exact⟨rfl,r.o⟩
    ·exact absurd h0 dC
 ·go_enter func14,ntmps14;go_wp2_with fail
  refine(pW _ ac.o ay.o).mono ?_;rintro e w1 ⟨rfl,F⟩;have r:=lH F;clear F;obtain⟨w2,G⟩:=eX (w1.alloc (.cells #[.string ⟨#[48]⟩] 30));obtain⟨g1,R⟩:=eX (w1.heap.size);have M:Below w1.heap.size w1 w2:=by rw[G];exact eD _ _
  have R1:Hid (Row w2 g1 30 [.string ⟨#[48]⟩]):=lH (by rw[G,R];exact eP _ _);replace r:=bT r M;clear M;go_wp2_with fail
  rw[<- G, <- R];clear G R;refine(Kt g1 0 1 2 ⟨#[48]⟩ _ (R1.o.at_ 0 rfl) dC dC).mono ?_;rintro e w3 ⟨E,rfl,al,ah,F⟩;have aA:Hid (w.heap.size <= E):=lH (Nat.le_trans r.o.size ah);replace r:=bT r F;clear F;have C:=lH al;clear al ah R1;have am:=r.o.size;obtain⟨w4,G⟩:=eX (w3.alloc (.cells #[.slice (some ⟨E,0,none⟩) 2 2, .slice none 0 0] 25));obtain⟨Y,R⟩:=eX (w3.heap.size);have M:Below w3.heap.size w3 w4:=by rw[G];exact eD _ _
  have t:Hid (Row w4 Y 25 [.slice (some ⟨E,0,none⟩) 2 2, .slice none 0 0]):=lH (by rw[G,R];exact eP _ _);replace C:=lH (C.o.below M);replace r:=bT r M;have az:Hid (w.heap.size <= Y):=lH (by rw[R];exact am);clear am;clear M
  go_upto_region 11 with (fail)
  rw[<- G, <- R];clear G R;have a3:=aI 0 t;have a4:=t.o.lt;have c0:=C.o.at_ (show 0<2 by decide);have f0:=C.o.free 0;have gl:=C.o.lt;have W:World.grownBy w4 (w4.setCell ⟨E,0,none⟩ (.string ⟨#[49]⟩)) (some E):=grownBy_set _ _ _ _;have a8:SK (w4.setCell ⟨E,0,none⟩ (.string ⟨#[49]⟩)) E 2 Kj:=(C.o.set (j:=0) (x:=⟨#[49]⟩) (show 0<2 by decide)).congr (fun j _=>by unfold Kj Lp.upd;split <;> rfl);obtain⟨_,ak⟩:=C.o.row;have e2:=t.o.other W (fun e1=>by subst e1;exact absurd (t.o.ty ak) dC);have e3:=r.o.grown W r.o.size (by have:=aA.o;first | (simp;done) | (simp;omega));obtain⟨w5,a9⟩:=eX ((w4.setCell ⟨E,0,none⟩ (.string ⟨#[49]⟩)));rw[<- a9] at a8 e2 e3
  skip
  go_upto_region 12 with (fail)
  rw[<- a9];clear a9 W ak c0 f0 gl a3 a4;replace C:=lH a8;replace t:=lH e2;replace r:=lH e3;clear a8 e2 e3;go_wp2_with fail
  go_loopw [30] (fun iv wr=>∃ (q:Nat) (B:Option Addr) (d:Nat),q <= 257 /\ iv= .int .i64 q /\ Hid (Row wr Y 25 [.slice (some ⟨E,0,none⟩) 2 2, .slice B q d]) /\ Hid (SK wr E 2 Kj) /\ Hid (Kk wr (.slice B q d) q E 2) /\ Hid (∀g,(Value.slice B q d).ownBlock=some g -> w.heap.size <= g) /\ Hid (Below w.heap.size w wr))
   (fun iv _=>257-(intOf iv).toNat)
  case atStart=>exact⟨0,none,0,Nat.zero_le _,rfl,t,C,lH (Kk.nil _ _ _),lH (fun g W=>by simp[Value.ownBlock] at W),r⟩
  case round=>
   clear t C r;obtain⟨q,B,d,hq,rfl,t,C,X,LO,r⟩:=hrel;by_cases aS:((q:Nat):Int)<257
   ·have aT:q<257:=oM
    go_upto_region 14 with (fail)
    go_wp2_with fail
    have a0:=rG wr;have aE:=t.o.lt;obtain⟨ae,af⟩:=aT2 t.o;have KS:=lH (kC ae (kN af));clear aE ae af;refine rL KS.o (fun i=>decide (8 <= i)) ?_;have T:=KS.o _ a0.o;refine tKs 0 32 T ?_;refine tKs 1 33 T ?_;refine tKs 2 34 T ?_;refine tKs 3 35 T ?_;refine rD 4 (fun K U=> ?_);go_simp;refine(oq ⟨#[49]⟩ (some ⟨E,0,none⟩) 2 2 _).mono ?_;rintro e ax ⟨rfl,Z⟩;have Z:Below wr.heap.size wr ax:=bD Z;replace t:=rW t Z;replace C:=lH (C.o.below Z);replace X:=lH (X.o.below Z);replace r:=bT r Z;replace a0:=bT a0 Z;clear T Z;have T:=KS.o _ a0.o;refine kH U T ?_;clear U K;obtain⟨xs,aa,an⟩:=X.o;have ao:=aa.1;refine rD 5 (fun K U=> ?_);go_simp;refine U.out _ _ (fun _=>KS.o _ (a0.o.trans ((eD _ _).mono a0.o.size))) ?_;clear U K T;refine rD 6 (fun K U=> ?_);rw[if_pos (by rfl)];refine Ku ax (.tmp 33) (.tmp 37) rfl (.slice B q d) q xs rfl aa (.slice (some ⟨E,0,none⟩) 2 2) (.string ⟨#[49]⟩) rfl rfl rfl oM ?_;intro va a7 ho a5;show K (Act.put _ (some 38) va) a7;have ad:=lH (Kk.more an ao ho);obtain⟨B2,d2,rfl,_,_⟩:=ad.o.shape;have ai:(Value.slice B q d).ownBlock≠some Y:=fun e=>by obtain⟨_,hx⟩:=X.o.row e;exact absurd (t.o.ty hx) dC
    have aj:(Value.slice B q d).ownBlock≠some E:=fun e=>by obtain⟨_,hx⟩:=X.o.row e;obtain⟨_,hy⟩:=C.o.row;exact absurd (hy.ty hx) dC
    replace t:=lH (t.o.turned a5 ai);replace C:=lH (C.o.turned a5 aj);have ag:=a5.below (B:=w.heap.size) r.o.size LO.o;have aC:=lH (a5.base r.o.size LO.o);replace r:=lH (r.o.trans ag);clear ag a5 ho ai aj X LO aa an ao;have T:=And.intro (t.o.at_ 0 rfl) (t.o.at_ 1 rfl);refine kH U T ?_;clear U K;refine tKs 7 39 T ?_;have k1:=aI 1 t;have f1:=t.o.free 1;have kl:=t.o.lt;refine rD 8 (fun K U=> ?_);go_simp;refine kL U ?_;clear U K;refine dN ?_ _;clear T KS a0;clear k1 f1 kl;have W:World.grownBy a7 (a7.setCell ⟨Y,1,none⟩ (.slice B2 (q+1) d2)) (some Y):=grownBy_set _ _ _ _;have QN:Row (a7.setCell ⟨Y,1,none⟩ (.slice B2 (q+1) d2)) Y 25 [.slice (some ⟨E,0,none⟩) 2 2, .slice B2 (q+1) d2]:=t.o.set 1 (.slice B2 (q+1) d2);have SN:=C.o.jN W t.o dC;have ON:=ad.o.other W t.o dC;have HN:=r.o.grown W r.o.size (by have:=az.o;first | (simp;done) | (simp;omega));go_wp2_with fail
    go_roundw
    case rel=>exact⟨q+1,B2,d2,by omega,by go_num,lH QN,lH SN,lH ON,aC,lH HN⟩
    case measure=>exact mZ
   ·have aK:q=257:=oM
    subst aK;have a1:=lH (C.o.ts (Nat.le_refl _) (show 2 <= maxLen by unfold maxLen;decide));have a2:=lH (X.o.kG C.o (show 2 <= maxLen by unfold maxLen;decide));clear X LO C;obtain⟨a3,a6⟩:=aT2 t.o;have a4:=t.o.lt
    go_upto_region 16 with (fail)
    go_wp2_with fail
    clear a3 a6 a4;refine(Ct (some ⟨E,0,none⟩) B 2 257 2 d (fun _=>2) Kj (fun _=>Kj) (fun _=>⟨#[49]⟩) 1 _ a1.o a2.o dC dC (fun j _=>Nat.le_trans (Kl j) dC) (fun _ _ j _=>Nat.le_trans (Kl j) dC) (fun _ _=>by decide) dC dC (fun j _=>Kl j) (fun _ _ j _=>Kl j) (fun _ _=>by decide) (ay.o.below r.o) (ac.o.below r.o)).mono ?_;rintro e w6 ⟨hs,F⟩;replace t:=rW t F;replace a1:=lH (a1.o.below F);replace a2:=lH (a2.o.below F);replace r:=bT r F;clear F;unfold Iy at hs;rw[Kn] at hs;rw[if_pos dC] at hs
    rcases hs with ⟨_,rfl⟩ | ⟨h0,_⟩
    ·obtain⟨w7,G⟩:=eX (w6.alloc (.cells #[.int .i64 0, .string ⟨#[]⟩, .slice none 0 0, .slice none 0 0, .slice none 0 0] 32));obtain⟨gO,R⟩:=eX (w6.heap.size);have M:Below w6.heap.size w6 w7:=by rw[G];exact eD _ _
     have OB:Hid (Row w7 gO 32 [.int .i64 0, .string ⟨#[]⟩, .slice none 0 0, .slice none 0 0, .slice none 0 0]):=lH (by rw[G,R];exact eP _ _);replace t:=rW t M;replace a1:=lH (a1.o.below M);replace a2:=lH (a2.o.below M);replace r:=bT r M;obtain⟨a3,a6⟩:=aT2 t.o;have a4:=t.o.lt;rw[G] at a3 a6 a4;go_wp2_with fail
     rw[<- G, <- R];clear G R M a3 a6 a4;refine(K9 (some ⟨E,0,none⟩) B 2 257 2 d (fun _=>2) Kj (fun _=>Kj) (fun _=>⟨#[49]⟩) _ a1.o a2.o dC dC (fun j _=>Nat.le_trans (Kl j) dC) (fun _ _ j _=>Nat.le_trans (Kl j) dC) (fun _ _=>by decide) (ac.o.below r.o)).mono ?_;rintro e w8 ⟨rfl,F⟩;replace OB:=rW OB F;replace r:=bT r F;clear F;rw[Kn,if_pos dC];obtain⟨ap,aq,ar,au,av⟩:=aT5 OB.o;have aw:=OB.o.lt;go_wp2_with fail
     clear ap aq ar au av aw;refine(CJ _).mono ?_;rintro e w9 ⟨rfl,F⟩;replace r:=bT r F;clear F;go_wp2_with fail
     go_returns;exact⟨rfl,r.o⟩
    ·exact absurd h0 dC
end
section
namespace cLimits
open Go.ChangeShapes Go.WideShapes Go.ChangeAt Go.RowKit
open Go.ChangeMaps (open_string)
set_option maxRecDepth 100000 in
theorem contract(H:Type)(enc:TypeId × Value -> H)(W:World)(base:Nat)(args:Array Value)(E O:List (DataW H))(M:List MemPlace)
  (r:∀ (j:Nat) t v,Tryz.f14.params[j]? =some t -> args[j]? =some v -> Value.okWide prog W .any base t v)
  (F:DataW.Whole enc prog Tryz.f14.params.toList Rows.linearLimitsSpec.vars false W args.toList E O M) (R:laidMetH prog Rows.linearLimitsRow.laid W) (T:W.ShapedOpen prog):
  Calls prog 14 args W fun e C=>∃v,e= .returned v /\ Rows.linearLimitsSpec.post enc prog Tryz.f14 false true false false W args v C:=by
 have G:=F;obtain⟨p,q,hA0,V,rfl,a0,a1⟩:=F;have h:DataW.TrodAll enc prog W 0 (fun _=>true) true Tryz.f14.params.toList args.toList E p:=hA0;have hA2:=h;rw[Tryz.params14] at h r;obtain⟨v0,v1,d0,d1,p0,p1,rfl,rfl,rfl,h0,h1⟩:=trodAll_two h;obtain⟨rfl,rfl⟩:=trodVars_none V;rw[List.append_nil] at G;obtain⟨Z,rfl⟩:=okWide_bool underlying4 (r 0 4 v0 rfl rfl);obtain⟨x1,rfl⟩:=okWide_bool underlying4 (r 1 4 v1 rfl rfl);have U:Tab W:=Aw (show laidMet prog Rows.linearLimitsRow.laid W from R);refine(KR Z x1 W (Al T) U).mono fun e C ⟨Y,X⟩=> ?_
 subst Y;exact⟨_,rfl,zZ G laidOut kR rfl hA2 rfl rfl (fun _ _ _=>trodAll_cons_mk (shut_bool underlying4 _) trodAll_mk0) X (ok_one kR rfl (okWide_bool_mk underlying4 _))⟩
theorem reads(h:Os){H:Type}(enc:TypeId × Value -> H):∃r,DataW.whole enc prog ((qZ h).forCall (fun _ _=>0) ⟨#[], #[.bool false, .bool false],[]⟩).memory Tryz.f14.params.toList Rows.linearLimitsSpec.vars false (#[.bool false, .bool false]:Array Value).toList 8=some ([.lit (.bool false), .lit (.bool false)],[],r):=
 ⟨[],by kernel_rfl⟩
set_option maxRecDepth 100000 in
theorem lifted(h:Os)(V:h.Started)(H:Type)(enc:TypeId × Value -> H)(F:Stop.Interp):
  ReturnsInHanded {} Tryz.checked h 14 .any ((OpenSpec.ofChange Rows.linearLimitsSpec).preRow enc prog Tryz.f14 Rows.linearLimitsRow.domain false Rows.linearLimitsRow.laid) (((OpenSpec.ofChange Rows.linearLimitsSpec).at F).post enc prog Tryz.f14 false true false false):=by
 obtain⟨X,U⟩:=reads h enc
 refine returnsInHanded_of_row (C:=Tryz.checked) (s:=OpenSpec.ofChange Rows.linearLimitsSpec) own V kR func14
  (witness_row_atRef (enc:=enc) (C:=Tryz.checked) false (qZ h) #[.bool false, .bool false] rfl kR kR kR
   (OpenSpec.preRow_of_cond 8 U kR (fun k R=>by cases R) kR (AA h _))) ?_
 intro W base args t E r T O _ _ _ G M _;exact contract H enc W base args t E r T O G M
set_option maxRecDepth 100000 in
theorem wP:Rows.linearLimitsRow.inPlace=prog.inPlace 14:=by kernel_rfl
set_option maxRecDepth 100000 in
theorem wR:Rows.linearLimitsRow.unfollowed=prog.unfollowed 14:=by kernel_rfl
set_option maxRecDepth 100000 in
theorem wT:Rows.linearLimitsRow.recurses=prog.recurses 14:=by kernel_rfl
set_option maxRecDepth 100000 in
theorem wU:Rows.linearLimitsRow.named=prog.varsNamed 14:=by kernel_rfl
set_option maxRecDepth 100000 in
theorem joined:joinedFacts prog 14 Tryz.f14 Rows.linearLimitsSpec Rows.linearLimitsRow=true:=AB wP wR wT wU rfl rfl kR
set_option maxRecDepth 100000 in
theorem said:Rows.LinearLimitsSaid:=
 OpenClaim.holds_of_cond 14 Tryz.f14 rfl rfl rfl rfl rfl rfl rfl ⟨rfl,rfl,rfl,rfl,rfl⟩ rfl rfl rfl rfl rfl kR func14 joined
  (of_decide_eq_true kR) (by unfold Func.isWrapper;first | (rw[if_pos (by decide+kernel)];kernel_rfl) | (rw[if_neg (by decide+kernel)];exact⟨rfl,rfl⟩))
  (fun h r H enc _ F=>by rw[OpenClaim.pre_eq_preRow];exact lifted h r H enc F)
theorem plain(f:FuncId)(h:Func)(E:Tryz.pinned.checked.prog.funcNamed "dowel/dowellaw06.LinearLimits" =some f)(F:Tryz.pinned.checked.prog.funcs[f]? =some h):
  true=Tryz.pinned.checked.prog.looks [] /\ ∀ (j:Nat) t,h.params[j]? =some t -> Tryz.pinned.checked.prog.wantsStandIn t=false:=by
 obtain rfl:f=14:=Option.some.inj ((show prog.funcNamed "dowel/dowellaw06.LinearLimits" =some 14 by kernel_rfl).symm.trans E) |>.symm
 obtain rfl:h=Tryz.f14:=(Option.some.inj (func14.symm.trans F)).symm;refine⟨by kernel_rfl,fun j t C=> ?_⟩;rw[Tryz.params14] at C;have r:= Array.mem_of_getElem? C;have r:t=4:=by simpa using r
 subst r;exact(show prog.wantsStandIn 4=false by kernel_rfl)
theorem card:Rows.LinearLimitsCardSaid:=
 Claim7.holds_tied_plain_at .later [] _ _ _ _ said (fun _ h=>by cases h) kR (fun _ h=>by cases h) linearLimits_row_tie rfl ⟨rfl,rfl⟩ kR rfl plain kR
#print axioms card
end cLimits
end
end Go.Proofs.YtdefghfjhgmpfaaGreatDoor
