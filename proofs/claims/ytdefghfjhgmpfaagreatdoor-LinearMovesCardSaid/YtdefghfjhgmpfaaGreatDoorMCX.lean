/- Parts of this proof: CopiedD Delete MoveW. -/
import Derived.Test.YtdefghfjhgmpfaaGreatDoorMAE
import Derived.Test.YtdefghfjhgmpfaaGreatDoorMAZ
import Derived.Test.YtdefghfjhgmpfaaGreatDoorMCP
import Derived.Test.YtdefghfjhgmpfaaGreatDoorMCJ
import Derived.Test.YtdefghfjhgmpfaaGreatDoorMBM
import Derived.Test.YtdefghfjhgmpfaaGreatDoorMAY
namespace Go.Proofs.YtdefghfjhgmpfaaGreatDoor
open Go.Proofs.Tryz
section
open Go.RowKit
open Lp (RL upd eu)
def Ns(w:World)(v:Value)(q:Nat)(k:Nat -> Nat)(s:Nat -> Nat -> ByteArray)(b:Nat -> ByteArray)(V:Value)(L B0:Nat):Prop:=
 ∃ (xs:List Value) (u:Nat -> Value),w.ownsRow 0 53 2 v q xs /\ (∀i,i<q -> xs[i*2]? =some (u i) /\ xs[i*2+1]? =some (.string (b i)) /\ fH w (u i) (k i) (s i) /\ ∀g,(u i).ownBlock=some g -> g<B0 /\ L <= g /\ V.ownBlock≠some g) /\
  ∀i j,i<q -> j<q -> i≠j -> ∀g,(u i).ownBlock=some g -> (u j).ownBlock≠some g
section
variable {w w':World} {v v' u u' V:Value} {m q B0 B1 L:Nat} {k:Nat -> Nat} {s:Nat -> Nat -> ByteArray} {b:Nat -> ByteArray}
theorem Ns.nil(w:World)(k:Nat -> Nat)(s:Nat -> Nat -> ByteArray)(b:Nat -> ByteArray)(V:Value)(L B0:Nat):Ns w (.slice none 0 0) 0 k s b V L B0:=⟨[],fun _=>undef,World.ownsRow_nil _ _ _ _,fun j h=>absurd h oM,fun j _ h=>absurd h oM⟩
theorem Ns.Nt(h:Ns w v q k s b V L B0):iK w v q k s b:=by
 obtain⟨xs,u,F,E,_⟩:=h;exact⟨xs,F,fun i t=>⟨u i,(E i t).1,(E i t).2.1,(E i t).2.2.1⟩⟩
theorem Ns.shape(h:Ns w v q k s b V L B0):∃A c,v= .slice A q c /\ q <= c /\ c <= maxLen:=h.Nt.shape
theorem Ns.lt(h:Ns w v q k s b V L B0){g:Nat}(t:v.ownBlock=some g):g<w.heap.size:=h.Nt.lt t
theorem Ns.row(h:Ns w v q k s b V L B0){g:Nat}(t:v.ownBlock=some g):∃cs,Row w g 53 cs:=h.Nt.row t
theorem Ns.wider(h:Ns w v q k s b V L B0)(G:B0 <= B1):Ns w v q k s b V L B1:=by
 obtain⟨xs,u,O,E,M⟩:=h;exact⟨xs,u,O,fun i t=>⟨(E i t).1,(E i t).2.1,(E i t).2.2.1,fun g F=>⟨Nat.lt_of_lt_of_le ((E i t).2.2.2 g F).1 G,((E i t).2.2.2 g F).2⟩⟩,M⟩
theorem Ns.below(h:Ns w v q k s b V L B0)(F:Below w.heap.size w w'):Ns w' v q k s b V L B0:=by
 obtain⟨xs,u,M,E,G⟩:=h;exact⟨xs,u,lI M (below_grown F) (by simp),fun i t=>⟨(E i t).1,(E i t).2.1,eY.below (E i t).2.2.1 F,(E i t).2.2.2⟩,G⟩
theorem Ns.other{g:Nat}{e:TypeId}{cs:List Value}(h:Ns w v q k s b V L B0)(G:w.grownBy w' (some g))(M:Row w g e cs)(U:e≠53)(X:e≠30):Ns w' v q k s b V L B0:=by
 have O:v.ownBlock≠some g:=fun F=>by obtain⟨_,Z⟩:=h.row F;exact U (M.ty Z)
 obtain⟨xs,u,Y,E,T⟩:=h;exact⟨xs,u,lI Y G (fun g' R F=>O (by rw[R];exact F.symm)),fun i t=>⟨(E i t).1,(E i t).2.1,Cb (E i t).2.2.1 G M X,(E i t).2.2.2⟩,T⟩
end
theorem NF(w:World){o:Oper}{a:Act}{K:Act -> World -> Prop}{Q:Exit -> Act -> World -> Prop}(s x:Operand)
  (ho:o.op= .call {callee:= .builtin .append,args:= #[s,x],argTypes:= #[23,23]})
  (v:Value) (q:Nat) (k:Nat -> Nat) (t:Nat -> Nat -> ByteArray) (b:Nat -> ByteArray) (V:Value) (L B0:Nat) (hs:a.eval s=v) (a5:Ns w v q k t b V L B0) (hV:∀g,V.ownBlock=some g -> g<B0) (hL:L <= B0)
  (A:Option Addr) (l c:Nat) (hu:fH w (.slice A l c) (k q) (t q)) (T:∀g,(Value.slice A l c).ownBlock=some g -> B0 <= g) (hB:B0 <= w.heap.size) (hx:a.eval x= .slice (some ⟨w.heap.size,0,none⟩) 1 1)
  (a9:q <= 1000000000000)
  (h:∀v' w',Ns w' v' (q+1) k t b V L w.heap.size -> Turned w w' v v' -> K (a.put o.dst v') w'):Oper.wp prog o a (w.alloc (.cells #[.slice A l c, .string (b q)] 53)) K Q:=by
 obtain⟨i,hi,a7,a8,U⟩:=info_parts C8;obtain⟨xs,u,a0,Y,a2⟩:=a5;have G:=eD w (.cells #[.slice A l c, .string (b q)] 53);have hr:Row (w.alloc (.cells #[.slice A l c, .string (b q)] 53)) w.heap.size 53 [.slice A l c, .string (b q)]:=eP _ _;have hl:xs.length=q*2:=a0.1;have a1:=lI a0 (below_grown G) (by simp);refine lW _ s x _ ho _ i _ 2 40 underlying23 hi a7 a8 U rfl dC v q xs hs a1 ⟨w.heap.size,0,none⟩ 1 1 [.slice A l c, .string (b q)] hx rfl ?_ ?_ (by unfold maxLen;omega) oM ?_
 ·intro j y X;rw[add0];exact hr.at_ j X
 ·intro y hy;simp only[List.mem_cons,List.not_mem_nil,or_false] at hy;rcases hy with rfl | rfl <;> rfl
 ·intro v' w' a6 M
  have Z:∀ {z:Value} {n:Nat} {f:Nat -> ByteArray},fH w z n f -> fH w' z n f:=fun hz=>by
   have U:=eY.below hz G;exact eY.turned U M (zl (fun _ E=>eY.row U E) (fun _ E=>qN a1 E) dC)
  refine h v' w' ⟨_,fun i=>if i=q then .slice A l c else u i,a6,fun j X=> ?_,fun i j hi X a3 g E=> ?_⟩ ⟨⟨M.grown.os.trans G.os,M.grown.tape.trans G.tape,M.grown.output.trans G.output,Nat.le_trans G.size M.grown.size,fun k hk a4=>(M.grown.block k (Nat.lt_of_lt_of_le hk G.size) a4).trans (G.block k hk)⟩,?_⟩
  ·by_cases e:j=q
   ·subst e;refine⟨?_,?_,?_,?_⟩
    ·rw[List.getElem?_append_right oM,show j*2-xs.length=0 by omega];simp only[↓reduceIte];rfl
    ·rw[List.getElem?_append_right oM,show j*2+1-xs.length=1 by omega];rfl
    ·simp only[↓reduceIte];exact Z hu
    ·simp only[↓reduceIte];exact fun g E=>⟨eY.lt hu E,Nat.le_trans hL (T g E),fun e=>by have:=hV g e;have:=T g E;omega⟩
   ·obtain⟨h1,F,O,R⟩:=Y j oM;simp only[if_neg e];exact⟨by rw[List.getElem?_append_left oM];exact h1,by rw[List.getElem?_append_left oM];exact F,Z O,fun g E=>⟨Nat.lt_of_lt_of_le (R g E).1 hB,(R g E).2⟩⟩
  ·simp only at E ⊢;by_cases e1:i=q
   ·rw[if_pos e1] at E;rw[if_neg oM];intro F;have O:=((Y j oM).2.2.2 g F).1;have R:=T g E;omega
   ·rw[if_neg e1] at E;by_cases e2:j=q
    ·rw[if_pos e2];intro F;have O:=((Y i oM).2.2.2 g E).1;have R:=T g F;omega
    ·rw[if_neg e2];exact a2 i j oM oM a3 g E
  ·rcases M.own with F | ⟨g,F,O⟩
   ·exact .inl F
   ·exact .inr ⟨g,F,Nat.le_trans G.size O⟩
set_option maxRecDepth 100000 in
set_option maxHeartbeats 6400000 in
theorem Nz(AO AR:Option Addr)(n m cO cR:Nat)(k:Nat -> Nat)(o:Nat -> ByteArray)(t:Nat -> Nat -> ByteArray)(b:Nat -> ByteArray)(w:World)(ho:TSA w (.slice AO n cO) n o)(hr:TRA w (.slice AR m cR) m k t b)(hn:n <= 1000000000)(hm:m <= 1000000000)(hk:∀i,i<m -> k i <= 1000000000):
  Calls prog 25 #[.agg #[.slice AO n cO, .slice AR m cR]] w fun e w'=>∃v u,e= .returned (.agg #[v,u]) /\ fH w' v n o /\ Ns w' u m k t b v w.heap.size w'.heap.size /\ (∀g,u.ownBlock=some g -> w.heap.size <= g) /\ Below w.heap.size w w':=by
 have HO:=lH ho;have HR:=lH hr;have ac:=lH (And.intro hn (And.intro hm hk));clear ho hr;obtain⟨W,hW,PB,F,h⟩:=eN2 w [.slice AO n cO, .slice AR m cR] 25 [.slice none 0 0, .slice none 0 0] 25;go_enter func25,ntmps25;obtain⟨p0,p1⟩:=aT2 PB.o;have pl:=PB.o.lt;rw[hW] at p0 p1 pl;go_wp2_with fail
 rw[<- hW];clear hW p0 p1 pl;refine(zX _ n o _ (HO.o.below h.o) ac.o.1).mono ?_;rintro e w2 ⟨v,rfl,hv,_,_,a9⟩;obtain⟨G,M,rfl,_,_⟩:=eY.shape hv;have T:=lH hv;replace PB:=rW PB a9;replace F:=rW F a9;replace h:=bT h a9;clear a9 hv;obtain⟨w3,a7⟩:=eX (w2.alloc (.cells #[.slice G n M, .slice none 0 0] 25));obtain⟨g3,aa⟩:=eX (w2.heap.size);have a5:Below w2.heap.size w2 w3:=by rw[a7];exact eD _ _
 have E:Hid (Row w3 g3 25 [.slice G n M, .slice none 0 0]):=lH (by rw[a7,aa];exact eP _ _);have ag:Hid (w.heap.size+1<g3):=lH (by rw[aa];exact F.o.lt);replace PB:=rW PB a5;replace F:=rW F a5;replace T:Hid (fH w3 (.slice G n M) n o):=lH (eY.below T.o a5);replace h:=bT h a5;obtain⟨p0,p1⟩:=aT2 PB.o;have pl:=PB.o.lt;rw[a7] at p0 p1 pl;go_wp2_with fail
 rw[<- a7, <- aa];clear a7 aa a5 p0 p1 pl;have aj:=E;have al:=T;have ak:=F;have af:=h;clear E T F h PB
 go_loopw [13] (fun iv wr=>∃ (q:Nat) (B:Option Addr) (d:Nat),q <= m /\ iv= .int .i64 q /\ Row wr g3 25 [.slice G n M, .slice B q d] /\ fH wr (.slice G n M) n o /\ Ns wr (.slice B q d) q k t b (.slice G n M) w.heap.size wr.heap.size /\ Hid (∀g,(Value.slice B q d).ownBlock=some g -> w.heap.size <= g) /\ Row wr (w.heap.size+1) 25 [.slice none 0 0, .slice none 0 0] /\ Below w.heap.size w wr)
  (fun iv _=>m-(intOf iv).toNat)
 case atStart=>exact⟨0,none,0,Nat.zero_le _,rfl,aj.o,al.o,Ns.nil _ _ _ _ _ _ _,lH (fun g O=>by simp[Value.ownBlock] at O),ak.o,af.o⟩
 case round=>
  clear aj al ak af;obtain⟨q,B,d,hq,rfl,aB,aF,az,ay,aE,ar⟩:=hrel;have E:=lH aB;have T:=lH aF;have Z:=lH az;have LO:=lH ay.o;have F:=lH aE;have h:=lH ar;clear aB aF az ay aE ar;by_cases aT:((q:Nat):Int)<((m:Nat):Int)
  ·have aC:q<m:=oM
   obtain⟨gR,oR,rfl,aw⟩:=HR.o.at_ oM;obtain⟨u,au,av,ad⟩:=aw q aC;obtain⟨X,x,rfl,_,_⟩:=ad.1.shape;have a8:=lH (ad.below h.o);have c1:=cell_below h.o au;have c2:=cell_below h.o av;have cl:=eG c1;clear aw au av ad;obtain⟨w4,ab⟩:=eX (wr.alloc (.cells #[.slice X (k q) x, .string (b q)] 53));obtain⟨g5,a6⟩:=eX (wr.heap.size);have a3:Below wr.heap.size wr w4:=by rw[ab];exact eD _ _
   have XB:Hid (Row w4 g5 53 [.slice X (k q) x, .string (b q)]):=lH (by rw[ab,a6];exact eP _ _);have aS:Hid (g3≠g5):=lH (by rw[a6];exact Nat.ne_of_lt E.o.lt);have aL:Hid (∀g,(Value.slice G n M).ownBlock=some g -> g<wr.heap.size):=lH (fun g O=>eY.lt T.o O);have aH:Hid (w.heap.size <= wr.heap.size):=lH h.o.size;have aJ:Hid (∀g,(Value.slice B q d).ownBlock=some g -> g≠g5):=lH (fun g O=>by rw[a6];exact Nat.ne_of_lt (Z.o.lt O));replace E:=rW E a3;replace F:=rW F a3;replace T:Hid (fH w4 (.slice G n M) n o):=lH (eY.below T.o a3);replace Z:=lH (Z.o.below a3);have ai:Hid (wr.heap.size <= w4.heap.size):=lH a3.size;replace a8:=lH (a8.o.below a3);replace h:=bT h a3
   go_upto_region 5 with (fail)
   rw[<- ab, <- a6];clear ab a6 a3 c1 c2 cl;go_wp2_with fail
   have a1:=rG w4;have aO:=E.o.lt;obtain⟨am,ao⟩:=aT2 E.o;have aP:=XB.o.lt;obtain⟨an,ap⟩:=aT2 XB.o;have KS:=lH (kC am (kC ao (kC an (kN ap))));clear aO am ao aP an ap;refine rL KS.o (fun i=>decide (11 <= i)) ?_;have R:=KS.o _ a1.o;refine tKs 0 17 R ?_;refine tKs 1 18 R ?_;refine tKs 2 19 R ?_;refine tKs 3 20 R ?_;refine tKs 4 21 R ?_;refine tKs 5 22 R ?_;refine rD 6 (fun K U=> ?_);go_simp;refine(zX _ (k q) (t q) _ (by exact a8.o) (ac.o.2.2 q aC)).mono ?_;rintro e w5 ⟨v5,rfl,ae,ax,_,a2⟩;have a2:Below w4.heap.size w4 w5:=bD a2;replace E:=rW E a2;replace XB:=rW XB a2;replace F:=rW F a2;replace Z:=lH (Z.o.below a2);replace h:=bT h a2;replace a1:=bT a1 a2;obtain⟨Y,y,rfl,_,_⟩:=eY.shape ae;have V5:=lH ae;have aG:=lH ax;clear ax;replace T:Hid (fH w5 (.slice G n M) n o):=lH (eY.below T.o a2);clear ae;clear R a2;have R:=KS.o _ a1.o;refine kH U R ?_;clear U K;refine rD 7 (fun K U=> ?_);go_simp;refine(oq (b q) Y (k q) y _).mono ?_;rintro e w6 ⟨rfl,a0⟩;have a0:Below w5.heap.size w5 w6:=bD a0;replace E:=rW E a0;replace XB:=rW XB a0;replace F:=rW F a0;replace Z:=lH (Z.o.below a0);replace h:=bT h a0;replace a1:=bT a1 a0;replace T:Hid (fH w6 (.slice G n M) n o):=lH (eY.below T.o a0);replace V5:Hid (fH w6 (.slice Y (k q) y) (k q) (t q)):=lH (eY.below V5.o a0);clear R a0;have R:=KS.o _ a1.o;refine kH U R ?_;clear U K;refine rD 8 (fun K U=> ?_);go_simp;refine U.out _ _ (fun _=>KS.o _ (a1.o.trans ((eD _ _).mono a1.o.size))) ?_;clear U K R;refine rD 9 (fun K U=> ?_);rw[if_pos (by rfl)];refine NF w6 (.tmp 18) (.tmp 25) rfl (.slice B q d) q k t b (.slice G n M) w.heap.size wr.heap.size rfl Z.o aL.o aH.o Y (k q) y V5.o (fun g O=>Nat.le_trans ai.o (aG.o g O)) (Nat.le_trans ai.o a1.o.size) rfl (by have:=ac.o.2.1;omega) ?_;intro va w8 ho a4;show K (Act.put _ (some 26) va) w8;obtain⟨B2,d2,rfl,_,_⟩:=ho.shape;have aA:(Value.slice B q d).ownBlock≠some g3:=fun e=>by obtain⟨_,hx⟩:=Z.o.row e;exact absurd (E.o.ty hx) dC
   have aD:(Value.slice B q d).ownBlock≠some (w.heap.size+1):=fun e=>by obtain⟨_,hx⟩:=Z.o.row e;exact absurd (F.o.ty hx) dC
   replace E:=lH (E.o.turned a4 aA);replace F:=lH (F.o.turned a4 aD);replace XB:=lH (XB.o.turned a4 (fun e=>aJ.o _ e rfl));replace T:Hid (fH w8 (.slice G n M) n o):=lH (II T.o Z.o.Nt a4);have aq:=a4.below (B:=w.heap.size) h.o.size LO.o;have aM:=lH (a4.base h.o.size LO.o);replace h:=lH (h.o.trans aq);have aN:=lH ho;have aK:Hid (w6.heap.size <= w8.heap.size):=lH a4.grown.size;clear aq a4 ho aA aD V5 a8 Z LO a2 a0;have R:=And.intro (E.o.at_ 0 rfl) (And.intro (E.o.at_ 1 rfl) (And.intro (XB.o.at_ 0 rfl) (XB.o.at_ 1 rfl)));refine kH U R ?_;clear U K;refine tKs 10 27 R ?_;have k1:=aI 1 E;have f1:=E.o.free 1;have kl:=E.o.lt;refine rD 11 (fun K U=> ?_);go_simp;refine kL U ?_;clear U K;refine dN ?_ _;clear R KS a1;clear k1 f1 kl;have O:World.grownBy w8 (w8.setCell ⟨g3,1,none⟩ (.slice B2 (q+1) d2)) (some g3):=grownBy_set _ _ _ _;have QN:Row (w8.setCell ⟨g3,1,none⟩ (.slice B2 (q+1) d2)) g3 25 [.slice G n M, .slice B2 (q+1) d2]:=E.o.set 1 (.slice B2 (q+1) d2);have VN:fH (w8.setCell ⟨g3,1,none⟩ (.slice B2 (q+1) d2)) (.slice G n M) n o:=Cb T.o O E.o dC;have ON:=aN.o.other O E.o dC dC;have RN:=F.o.other O (by have:=ag.o;omega);have HN:=h.o.grown O h.o.size (by have:=ag.o;first | (simp;done) | (simp;omega));go_wp2_with fail
   go_roundw
   case rel=>exact⟨q+1,B2,d2,by omega,by go_num,QN,VN,ON.wider (Nat.le_trans aK.o O.size),aM,RN,HN⟩
   case measure=>exact mZ
  ·have aQ:m=q:=oM
   subst aQ;obtain⟨q0,q1⟩:=aT2 E.o;have ql:=E.o.lt;obtain⟨r0,r1⟩:=aT2 F.o;have f0:=F.o.free 0;have f1:=F.o.free 1;have rl:=F.o.lt;go_wp2_with fail
   clear q0 q1 ql r0 r1 f0 f1 rl;have O:World.grownBy wr ((wr.setCell ⟨w.heap.size+1,0,none⟩ (.slice G n M)).setCell ⟨w.heap.size+1,1,none⟩ (.slice B m d)) (some (w.heap.size+1)):=grownBy_trans (grownBy_set _ _ _ _) (grownBy_set _ _ _ _);have RE:Row ((wr.setCell ⟨w.heap.size+1,0,none⟩ (.slice G n M)).setCell ⟨w.heap.size+1,1,none⟩ (.slice B m d)) (w.heap.size+1) 25 [.slice G n M, .slice B m d]:=(F.o.set 0 (.slice G n M)).set 1 (.slice B m d);have VN:fH ((wr.setCell ⟨w.heap.size+1,0,none⟩ (.slice G n M)).setCell ⟨w.heap.size+1,1,none⟩ (.slice B m d)) (.slice G n M) n o:=Cb T.o O F.o dC;have ON:=Z.o.other O F.o dC dC;have HN:=h.o.grown O h.o.size (by first | (simp;done) | (simp;omega));obtain⟨wE,aR⟩:=eX (((wr.setCell ⟨w.heap.size+1,0,none⟩ (.slice G n M)).setCell ⟨w.heap.size+1,1,none⟩ (.slice B m d)));have ah:=O.size;rw[<- aR] at RE VN ON HN ah ⊢;have k0:=RE.at_ 0 rfl;have k1:=RE.at_ 1 rfl;refine bodyPost_ret (v:= .agg #[.slice G n M, .slice B m d]) (by simp[results,results25,go_sem,k0,k1]) rfl ?_;exact⟨_,_,rfl,VN,ON.wider ah,LO.o,HN⟩
end
section
open Go.RowKit
open Lp (RL upd eu)
theorem NG{P:Program}(w:World){o:Oper}{a:Act}{K:Act -> World -> Prop}{Q:Exit -> Act -> World -> Prop}(s x:Operand)(t:TypeId)
  (U:o.op= .call {callee:= .builtin .append,args:= #[s,x],argTypes:= #[t,t]})
  (e:TypeId) (i:TypeInfo) (size:Nat) (ht:P.underlying t=some (.slice e)) (O: P.info? e=some i) (a0:i.size=size)
  (g n cap:Nat) (xs:List Value) (hs:a.eval s= .slice (some ⟨g,0,none⟩) n cap) (X:w.ownsRow 0 e size (.slice (some ⟨g,0,none⟩) n cap) n xs)
  (F:Addr) (m c:Nat) (E:List Value) (hx:a.eval x= .slice (some F) m c) (R:E.length=m*size) (T:∀j u,E[j]? =some u -> w.cell? (F.add j)=some u) (h1:∀u ∈ E,u.oneCell'=true) (Y:n+m <= cap)
  (h:∀w',w'.ownsRow 0 e size (.slice (some ⟨g,0,none⟩) (n+m) cap) (n+m) (xs++E) -> w.grownBy w' (some g) -> K (a.put o.dst (.slice (some ⟨g,0,none⟩) (n+m) cap)) w'):Oper.wp P o a w K Q:=by
 obtain⟨w',Z,G,M⟩:=run_append_fits (P:=P) w 0 t o.type e i size ht O a0 g n cap xs X F m c E R T h1 Y;unfold Oper.wp;simp[execOp,U,resolve,invoke,builtin,hs,hx,Z,Result.andThen];exact h w' G M
theorem NH{w:World}{g m c size:Nat}{e:TypeId}{xs:List Value}(h:w.ownsRow 0 e size (.slice (some ⟨g,0,none⟩) m c) m xs){k:Nat}(R:k <= m):w.ownsRow 0 e size (.slice (some ⟨g,0,none⟩) k c) k (xs.take (k*size)):=by
 obtain⟨X,⟨h0,_⟩ | ⟨g',cap,E,t,h1,F,U,G,M,O⟩⟩:=h
 ·cases h0
 ·simp only[Value.slice.injEq,Option.some.injEq,Addr.mk.injEq,and_true,true_and] at t;obtain⟨rfl,rfl⟩:=t;have T:k*size <= m*size:=Nat.mul_le_mul_right _ R;refine⟨by rw[List.length_take];omega, .inr ⟨g,c,E,rfl,h1,F,by omega,G,M,?_⟩⟩;rw[<- O,List.take_take,Nat.min_eq_left T]
theorem NA{w:World}{g m c size j:Nat}{e:TypeId}{xs:List Value}{x:Value}(h:w.ownsRow 0 e size (.slice (some ⟨g,0,none⟩) m c) m xs)(Y:m*size <= j):(w.setCell ⟨g,j,none⟩ x).ownsRow 0 e size (.slice (some ⟨g,0,none⟩) m c) m xs:=by
 obtain⟨T,⟨h0,_⟩ | ⟨g',cap,t,E,h1,F,G,M,O,R⟩⟩:=h
 ·cases h0
 ·simp only[Value.slice.injEq,Option.some.injEq,Addr.mk.injEq,and_true,true_and] at E;obtain⟨rfl,rfl⟩:=E;have U:Row w g e t.toList:=by unfold Row;simpa using F
  have X:=U.set j x;refine⟨T, .inr ⟨g,c,(t.toList.set j x).toArray,rfl,h1,X,G,M,by simpa using O,?_⟩⟩;rw[List.take_set_of_le oM];exact R
theorem NB{w:World}{g m c size j:Nat}{e:TypeId}{xs:List Value}(h:w.ownsRow 0 e size (.slice (some ⟨g,0,none⟩) m c) m xs)(X:j<c*size):(∃u,w.cell? ⟨g,j,none⟩=some u) /\ w.frozen? ⟨g,j,none⟩=false:=by
 obtain⟨Y,⟨h0,_⟩ | ⟨g',cap,t,F,h1,G,O,R,T,U⟩⟩:=h
 ·cases h0
 ·simp only[Value.slice.injEq,Option.some.injEq,Addr.mk.injEq,and_true,true_and] at F;obtain⟨rfl,rfl⟩:=F;have E:Row w g e t.toList:=by unfold Row;simpa using G
  have M:j<t.toList.length:=by simp;omega
  exact⟨⟨_,E.at_ j (List.getElem?_eq_getElem M)⟩,E.free j⟩
theorem Nv{w:World}{g m c size:Nat}{e:TypeId}{xs:List Value}(h:w.ownsRow 0 e size (.slice (some ⟨g,0,none⟩) m c) m xs){j:Nat}{u:Value}(t:xs[j]? =some u): w.cell? ⟨g,j,none⟩=some u:=by
 have E:j<m*size:=by rw[<- h.1];exact(List.getElem?_eq_some_iff.1 t).1
 rw[World.ownsRow.cellAt h j E];exact t
set_option maxRecDepth 100000 in
set_option maxHeartbeats 12800000 in
theorem NI(g c r k:Nat)(xs:List Value)(w:World)(ho:w.ownsRow 0 53 2 (.slice (some ⟨g,0,none⟩) (r+1) c) (r+1) xs)(h1:∀u ∈ xs,u.oneCell'=true)(hk:k <= r)(hr:r <= 1000000)(hc:r+1 <= c):
  Calls prog 35 #[.slice (some ⟨g,0,none⟩) (r+1) c, .int .i64 (k:Nat), .int .i64 ((k+1:Nat):Int)] w fun e w'=>e= .returned (.slice (some ⟨g,0,none⟩) r c) /\ w'.ownsRow 0 53 2 (.slice (some ⟨g,0,none⟩) r c) r (xs.take (k*2)++xs.drop ((k+1)*2)) /\ w.grownBy w' (some g):=by
 obtain⟨iR,ac,aj,ad,ak⟩:=info_parts C8;have R:=lH ho;have H1:=lH h1;clear ho h1;obtain⟨t,Y⟩:=eX (k+1);rw[<- Y];have G:=lH Y;have ae:k <= c:=oM
 have af:((k:Nat):Int) <= ((t:Nat):Int):=oM
 have ag:((t:Nat):Int) <= ((r:Nat):Int)+1:=oM
 have ah:((r:Nat):Int)+1 <= ((c:Nat):Int):=oM
 have a8:((k:Nat):Int)≠((t:Nat):Int):=oM
 have hd:(((k:Nat):Int)== ((t:Nat):Int))=false:=by simpa using a8
 have ab:(k==t)=false:=by simp;omega
 clear Y;go_enter func35,ntmps35
 go_upto_region 5 with (fail)
 obtain⟨T,a0⟩:∃a:Addr,a=if c=t then(⟨g,0,none⟩:Addr) else⟨g,t*2,none⟩:=⟨_,rfl⟩
 have U:=lH a0;clear a0 hd ab
 have a6:Hid (∀j u,(xs.drop ((k+1)*2))[j]? =some u -> w.cell? (T.add j)=some u):=lH (fun j u E=>by
  have hl:=R.o.1;rw[List.getElem?_drop] at E;have ai:=(List.getElem?_eq_some_iff.1 E).1;have a9:c≠t:=by have:=G.o;omega
  have e2:T.add j=⟨g,(k+1)*2+j,none⟩:=by
   rw[U.o,if_neg a9,G.o];unfold Addr.add;by_cases e:j=0
   ·rw[if_pos e,e];try simp
   ·rw[if_neg e];try simp
  rw[e2];exact Nv R.o E)
 have a5:Hid ((xs.drop ((k+1)*2)).length=(r+1-t)*2):=lH (by rw[List.length_drop,R.o.1,G.o];omega);have HB:Hid (Below w.heap.size w w):=lH (Below.refl _ _);have C0:Hid (w.heap.size=w.heap.size):=lH rfl;refine kT (fun _=>True) (fun _=>false) kR ?_;have F:True:=trivial;refine tKs 0 20 F ?_;refine tKs 1 21 F ?_;refine tKs 2 22 F ?_;refine tKs 3 23 F ?_;refine tKs 4 24 F ?_;refine jf (i:=5) (v:= .slice (some T) (r+1-t) (c-t)) (some 25) rfl (by rfl) kR kR kR kR (fun _ _ _ h=>h) (Or.inl ⟨by rfl,?_⟩) F ?_
 ·(intro w' a7;clear a7;go_simp;(first | done | (rw[if_pos ⟨by omega,by omega⟩,U.o];split <;> rfl) | (rw[U.o];split <;> rfl) | trace_state))
 simp only[Act.put,List.setIfInBounds_toArray,List.set_cons_zero,List.set_cons_succ];refine jL 6 kR rfl (by rfl) (fun K hK=> ?_);refine NG _ (.tmp 22) (.tmp 25) 23 rfl 53 iR 2 underlying23 ac ad g k c (xs.take (k*2)) rfl (NH R.o oM) T (r+1-t) (c-t) (xs.drop ((k+1)*2)) rfl a5.o a6.o (fun u hu=>H1.o u (List.mem_of_mem_drop hu)) (by have:=G.o;omega) ?_;intro M Z a1;refine hK.out _ _ (fun _=>trivial) ?_;clear hK K;refine tKs 7 0 F ?_;refine dN ?_ _;clear F;have a3:k+ (r+1-t)=r:=by have:=G.o;omega
 rw[a3] at Z ⊢;clear a3;have X:=lH Z;have O:=lH a1;clear Z a1
 have aa:∀ty:TypeId,(Builtin.clear_ #[23] ty #[.slice (some ⟨g,r*2,none⟩) 1 (c-r)]).run prog M= .ok (.tuple #[]) ((M.setCell ⟨g,r*2,none⟩ (.slice none 0 0)).setCell ⟨g,r*2+1,none⟩ (.string ⟨#[]⟩)):=fun ty=>by
  obtain⟨⟨u0,k0⟩,f0⟩:=NB X.o (show r*2<c*2 by omega);obtain⟨⟨u1,k1⟩,f1⟩:=NB X.o (show r*2+1<c*2 by omega)
  have a4:=run_storeCells_cells (P:=prog) g (r*2) [.slice none 0 0, .string ⟨#[]⟩] 0 M (fun j E=>by
   have E:j<2:=E
   rcases j with _ | _ | j
   ·show(M.cell? ⟨g,r*2,none⟩).isSome=true;rw[k0];rfl
   ·show(M.cell? ⟨g,r*2+1,none⟩).isSome=true;rw[k1];rfl
   ·omega) (fun j E=>by
   have E:j<2:=E
   rcases j with _ | _ | j
   ·exact f0
   ·exact f1
   ·omega) (fun v hv=>by simp only[List.mem_cons,List.not_mem_nil,or_false] at hv;rcases hv with rfl | rfl <;> rfl)
  have hz:(Builtin.zeroCells (Value.agg #[.slice none 0 0, .string ⟨#[]⟩]).cells 1).toList= [.slice none 0 0, .string ⟨#[]⟩]:=by kernel_rfl
  simp only[Nat.add_zero] at a4;simp[Builtin.clear_,run_underlying underlying23,Tryz.zeroValue53,hz,a4];rfl
 go_wp2_with fail
 clear aa;go_returns;rw[G.o];refine⟨rfl,NA (NA X.o (Nat.le_refl _)) oM,?_⟩;have h2:World.grownBy w M (some g):=⟨O.o.os,O.o.tape,O.o.output,O.o.size,O.o.block⟩;exact grownBy_trans h2 (grownBy_trans (grownBy_set _ _ _ _) (grownBy_set _ _ _ _))
end
section
open Go.RowKit
open Lp (RL upd eu)
def RD(w:World)(v:Value)(q:Nat)(u:Nat -> Value)(k:Nat -> Nat)(s:Nat -> Nat -> ByteArray)(b:Nat -> ByteArray)(V:Value)(L:Nat):Prop:=
 ∃xs,w.ownsRow 0 53 2 v q xs /\ (∀i,i<q -> xs[i*2]? =some (u i) /\ xs[i*2+1]? =some (.string (b i)) /\ fH w (u i) (k i) (s i) /\ ∀g,(u i).ownBlock=some g -> L <= g /\ V.ownBlock≠some g) /\
  ∀i j,i<q -> j<q -> i≠j -> ∀g,(u i).ownBlock=some g -> (u j).ownBlock≠some g
theorem NC{w:World}{g m c size j:Nat}{e:TypeId}{xs:List Value}(x:Value)(h:w.ownsRow 0 e size (.slice (some ⟨g,0,none⟩) m c) m xs):(w.setCell ⟨g,j,none⟩ x).ownsRow 0 e size (.slice (some ⟨g,0,none⟩) m c) m (xs.set j x):=by
 obtain⟨T,⟨h0,_⟩ | ⟨g',cap,t,E,h1,F,G,M,O,R⟩⟩:=h
 ·cases h0
 ·simp only[Value.slice.injEq,Option.some.injEq,Addr.mk.injEq,and_true,true_and] at E;obtain⟨rfl,rfl⟩:=E;have U:Row w g e t.toList:=by unfold Row;simpa using F
  have X:=U.set j x;refine⟨by simpa using T, .inr ⟨g,c,(t.toList.set j x).toArray,rfl,h1,X,G,M,by simpa using O,?_⟩⟩;rw[List.take_set];exact congrArg (fun l=>List.set l j x) R
section
variable {w w':World} {v V:Value} {q L:Nat} {u:Nat -> Value} {k:Nat -> Nat} {s:Nat -> Nat -> ByteArray} {b:Nat -> ByteArray}
theorem Ns.rd{B0:Nat}(h:Ns w v q k s b V L B0):∃u,RD w v q u k s b V L:=by
 obtain⟨xs,u,M,E,F⟩:=h;exact⟨u,xs,M,fun i t=>⟨(E i t).1,(E i t).2.1,(E i t).2.2.1,fun g G=>((E i t).2.2.2 g G).2⟩,F⟩
theorem RD.Nt(h:RD w v q u k s b V L):iK w v q k s b:=by
 obtain⟨xs,F,E,_⟩:=h;exact⟨xs,F,fun i t=>⟨u i,(E i t).1,(E i t).2.1,(E i t).2.2.1⟩⟩
theorem RD.below(h:RD w v q u k s b V L)(F:Below w.heap.size w w'):RD w' v q u k s b V L:=by
 obtain⟨xs,M,E,G⟩:=h;exact⟨xs,lI M (below_grown F) (by simp),fun i t=>⟨(E i t).1,(E i t).2.1,eY.below (E i t).2.2.1 F,(E i t).2.2.2⟩,G⟩
theorem RD.other{g:Nat}{e:TypeId}{cs:List Value}(h:RD w v q u k s b V L)(G:w.grownBy w' (some g))(M:Row w g e cs)(U:e≠53)(X:e≠30):RD w' v q u k s b V L:=by
 have O:v.ownBlock≠some g:=fun F=>by obtain⟨_,Z⟩:=h.Nt.row F;exact U (M.ty Z)
 obtain⟨xs,Y,E,T⟩:=h;exact⟨xs,lI Y G (fun g' R F=>O (by rw[R];exact F.symm)),fun i t=>⟨(E i t).1,(E i t).2.1,Cb (E i t).2.2.1 G M X,(E i t).2.2.2⟩,T⟩
theorem RD.list(h:RD w v q u k s b V L){i:Nat}(t:i<q):fH w (u i) (k i) (s i) /\ ∀g,(u i).ownBlock=some g -> L <= g /\ V.ownBlock≠some g:=by
 obtain⟨xs,_,E,_⟩:=h;exact(E i t).2.2
theorem RD.at_{g c:Nat}(h:RD w (.slice (some ⟨g,0,none⟩) q c) q u k s b V L){i:Nat}(t:i<q): w.cell? ⟨g,i*2,none⟩=some (u i) /\ w.cell? ⟨g,i*2+1,none⟩=some (.string (b i)):=by
 obtain⟨xs,E,F,_⟩:=h;exact⟨Nv E (F i t).1,Nv E (F i t).2.1⟩
theorem RD.congr{s':Nat -> Nat -> ByteArray}{b':Nat -> ByteArray}(h:RD w v q u k s b V L)(T:∀i,i<q -> ∀j,j<k i -> s i j=s' i j)(M:∀i,i<q -> b i=b' i):RD w v q u k s' b' V L:=by
 obtain⟨xs,R,E,O⟩:=h;refine⟨xs,R,fun i t=>⟨(E i t).1,by rw[<- M i t];exact(E i t).2.1,?_,(E i t).2.2.2⟩,O⟩;obtain⟨Y,U,X⟩:=(E i t).2.2.1;exact⟨Y,U,fun j F=>by obtain⟨z,h1,G⟩:=X j F;exact⟨z,h1,by rw[G,T i t j F]⟩⟩
theorem RD.set{g c i j:Nat}{x:ByteArray}(h:RD w v q u k s b V L)(hi:i<q)(O:u i= .slice (some ⟨g,0,none⟩) (k i) c)(hj:j<k i):RD (w.setCell ⟨g,j,none⟩ (.string x)) v q u k (fun a z=>if a=i /\ z=j then x else s a z) b V L:=by
 have Z:World.grownBy w (w.setCell ⟨g,j,none⟩ (.string x)) (some g):=grownBy_set _ _ _ _
 have ha:v.ownBlock≠some g:=fun G=>by
  obtain⟨_,hx⟩:=h.Nt.row G;obtain⟨_,t⟩:=eY.row (h.list hi).1 (g:=g) (by rw[O];rfl);exact absurd (hx.ty t) dC
 obtain⟨xs,ho,F,Y⟩:=h;refine⟨xs,lI ho Z (fun g' hb G=>ha (by rw[hb];exact G.symm)),fun a E=>⟨(F a E).1,(F a E).2.1,?_,(F a E).2.2.2⟩,Y⟩;by_cases e:a=i
 ·subst e;obtain⟨U,t,R⟩:=(F a E).2.2.1;rw[O] at t ⊢;refine⟨U.set j (.string x),NC _ t,fun z T=> ?_⟩;have a0:=t.1;by_cases X:z=j
  ·subst X;exact⟨.string x,List.getElem?_set_self oM,by show Value.string x= .string (if a=a /\ z=z then x else s a z);rw[if_pos ⟨rfl,rfl⟩]⟩
  ·obtain⟨y,h1,M⟩:=R z T;exact⟨y,by rw[List.getElem?_set_ne oM];exact h1,by show y= .string (if a=a /\ z=j then x else s a z);rw[if_neg (fun h=>X h.2)];exact M⟩
 ·have hs:=eY.other (F a E).2.2.1 Z (Y i a hi E (fun h=>e h.symm) g (by rw[O];rfl));obtain⟨U,t,R⟩:=hs;exact⟨U,t,fun z T=>by obtain⟨y,h1,M⟩:=R z T;exact⟨y,h1,by show y= .string (if a=i /\ z=j then x else s a z);rw[if_neg (fun h=>e h.1)];exact M⟩⟩
theorem RD.NJ{g c i:Nat}{x:ByteArray}(h:RD w (.slice (some ⟨g,0,none⟩) q c) q u k s b V L)(R:i<q):RD (w.setCell ⟨g,i*2+1,none⟩ (.string x)) (.slice (some ⟨g,0,none⟩) q c) q u k s (fun a=>if a=i then x else b a) V L:=by
 have M:World.grownBy w (w.setCell ⟨g,i*2+1,none⟩ (.string x)) (some g):=grownBy_set _ _ _ _;obtain⟨cs,O⟩:=h.Nt.row (g:=g) rfl;obtain⟨xs,F,t,G⟩:=h;have T:=F.1;refine⟨xs.set (i*2+1) (.string x),NC _ F,fun a E=>⟨?_,?_,Cb (t a E).2.2.1 M O dC,(t a E).2.2.2⟩,G⟩
 ·rw[List.getElem?_set_ne oM];exact(t a E).1
 ·by_cases e:a=i
  ·subst e;show _=some (Value.string (if a=a then x else b a));rw[if_pos rfl];exact List.getElem?_set_self oM
  ·show _=some (Value.string (if a=i then x else b a));rw[if_neg e,List.getElem?_set_ne oM];exact(t a E).2.1
theorem NK{xs:List Value}(F:w.ownsRow 0 53 2 v q xs)(G:∀i,i<q -> ∃u,xs[i*2]? =some u /\ xs[i*2+1]? =some (.string (b i)) /\ fH w u (k i) (s i)):∀x ∈ xs,x.oneCell'=true:=fun x O=>by
 obtain⟨p,t,rfl⟩:=List.mem_iff_getElem.1 O;have R:=F.1;obtain⟨z,h1,h,E⟩:=G (p / 2) oM;by_cases e:p%2=0
 ·rw[show p / 2*2=p by omega,List.getElem?_eq_getElem t] at h1;obtain⟨A,c,M,_⟩:=eY.shape E;rw[Option.some.inj h1,M];rfl
 ·rw[show p / 2*2+1=p by omega,List.getElem?_eq_getElem t] at h;rw[Option.some.inj h];rfl
theorem NL{g r i:Nat}{v':Value}{xs:List Value}(R:i <= r)(E:w.grownBy w' (some g))(O:∃cs,Row w g 53 cs)(U:xs.length=(r+1)*2)(G:∀i,i<r+1 -> ∃u,xs[i*2]? =some u /\ xs[i*2+1]? =some (.string (b i)) /\ fH w u (k i) (s i))
  (F:w'.ownsRow 0 53 2 v' r (xs.take (i*2)++xs.drop ((i+1)*2))):iK w' v' r (fun j=>k (del i j)) (fun j=>s (del i j)) (fun j=>b (del i j)):=by
 obtain⟨cs,M⟩:=O;refine⟨_,F,fun j T=> ?_⟩;obtain⟨z,h1,h,t⟩:=G (del i j) (by unfold del;split <;> omega);refine⟨z,?_,?_,Cb t E M dC⟩
 ·by_cases e:j<i
  ·rw[List.getElem?_append_left (by simp;omega),List.getElem?_take,if_pos oM];unfold del at h1;rw[if_pos e] at h1;exact h1
  ·rw[List.getElem?_append_right (by simp;omega),List.getElem?_drop,List.length_take,Nat.min_eq_left oM,show(i+1)*2+ (j*2-i*2)=(j+1)*2 by omega];unfold del at h1;rw[if_neg e] at h1;exact h1
 ·by_cases e:j<i
  ·rw[List.getElem?_append_left (by simp;omega),List.getElem?_take,if_pos oM];show _=some (Value.string (b (del i j)));unfold del at h ⊢;rw[if_pos e] at h ⊢;exact h
  ·rw[List.getElem?_append_right (by simp;omega),List.getElem?_drop,List.length_take,Nat.min_eq_left oM,show(i+1)*2+ (j*2+1-i*2)=(j+1)*2+1 by omega];show _=some (Value.string (b (del i j)));unfold del at h ⊢;rw[if_neg e] at h ⊢;exact h
end
theorem Nw{α:Type}{m k:Nat}(f:Nat -> α)(i:Nat):jn (m-k) (fun r=>f (k+r)) f i=f (rot m k i):=by
 unfold jn rot;by_cases h:i<m-k
 ·rw[if_pos h,if_pos h,Nat.add_comm]
 ·rw[if_neg h,if_neg h]
theorem NM{w:World}{g o m c:Nat}{k:Nat -> Nat}{s:Nat -> Nat -> ByteArray}{b:Nat -> ByteArray}(h:fZ w (.slice (some ⟨g,o,none⟩) m c) m k s b){i c':Nat}(G:i <= m)(t:i <= c')(E:c' <= maxLen)(h0:0<m):fZ w (.slice (some ⟨g,o,none⟩) i c') i k s b:=by
 obtain⟨g',O,e,F⟩:=h.at_ h0;simp only[Option.some.injEq,Addr.mk.injEq,and_true] at e;obtain⟨rfl,rfl⟩:=e;exact⟨_,_,rfl,t,E, .inr ⟨g,o,rfl,fun j M=>F j oM⟩⟩
theorem NN{w:World}{g o m c:Nat}{k:Nat -> Nat}{s:Nat -> Nat -> ByteArray}{b:Nat -> ByteArray}(h:fZ w (.slice (some ⟨g,o,none⟩) m c) m k s b){i r c' t:Nat}(T:i+r=m)(M:r <= c')(O:c' <= maxLen)(h0:0<m)(E:t=o+i*2):fZ w (.slice (some ⟨g,t,none⟩) r c') r (fun j=>k (i+j)) (fun j=>s (i+j)) (fun j=>b (i+j)):=by
 obtain⟨g',X,e,R⟩:=h.at_ h0;simp only[Option.some.injEq,Addr.mk.injEq,and_true] at e;obtain⟨rfl,rfl⟩:=e;refine⟨_,_,rfl,M,O, .inr ⟨g,t,rfl,fun j U=> ?_⟩⟩;obtain⟨u,h1,F,G⟩:=R (i+j) oM;refine⟨u,?_,?_,G⟩
 ·rw[E,show o+i*2+j*2=o+ (i+j)*2 by omega];exact h1
 ·rw[E,show o+i*2+j*2+1=o+ (i+j)*2+1 by omega];exact F
theorem ND{n m:Nat}{k:Nat -> Nat}{o:Nat -> ByteArray}{t:Nat -> Nat -> ByteArray}{b:Nat -> ByteArray}(T:n <= 96)(R:m <= 256)(G:∀i,i<m -> k i=n)(M:∀j,j<n -> sE (o j)=0)(O:∀i,i<m -> ∀j,j<n -> sE (t i j)=0)(F:∀i,i<m -> sE (b i)=0):fD n m k o t b=0:=by
 unfold fD;rw[if_neg oM,if_neg (fun h=>h G),kF.2 M,if_neg (by simp)];refine kF.2 fun i E=> ?_
 unfold iw;rw[kF.2 (O i E),if_neg (by simp)];exact F i E
theorem NP{m n:Nat}(t:n <= 6):Lp.wide m n 37+1 <= 1000000:=by
 have h:=Lp.yY (m:=m) (n:=n) (k:=37) (p:=6) (N:=6) (K:=37) oM t (Nat.le_refl _);have E:Lp.wb 6 (37* (6+2))+37* (6+1) <= 999999:=dC
 omega
theorem NQ{a b:Rat}(h:a <= b):jq a b <= 0:=by
 have:=uk (a:=a) (b:=b);by_cases t:0<jq a b
 ·exact absurd h (this.1 t)
 ·omega
end
end Go.Proofs.YtdefghfjhgmpfaaGreatDoor
