/- Parts of this proof: SCornC CorM SFac SAbs SGapC Frag. -/
import Derived.Test.YtokagbahdkfagaaGreatDoorMAE
import Derived.Test.YtokagbahdkfagaaGreatDoorMBG
import Derived.Test.YtokagbahdkfagaaGreatDoorMAU
import Derived.Test.YtokagbahdkfagaaGreatDoorMBJ
import Derived.Test.YtokagbahdkfagaaGreatDoorMAP
import Derived.Test.YtokagbahdkfagaaGreatDoorMBP
import Derived.Test.YtokagbahdkfagaaGreatDoorMBL
import Derived.Test.YtokagbahdkfagaaGreatDoorMAK
import Derived.Test.YtokagbahdkfagaaGreatDoorMBS
import Derived.Test.YtokagbahdkfagaaGreatDoorMAC
namespace Go.Proofs.YtokagbahdkfagaaGreatDoor
open Go.Proofs.Tryz
section
open Go.RowKit
open Lp (RL upd eH jf)
noncomputable def Lb(P:Prb)(F:Frm)(g:Int):Nat -> Nat -> Int
 | 0=>fun i=>P.a i+P.l i
 | k+1=>if sgI (qof (F.f k)).num=g then upd (Lb P F g k) (F.d k).toNat (P.a (F.d k).toNat+P.u (F.d k).toNat) else Lb P F g k
noncomputable def L6(P:Prb)(F:Frm)(g:Int)(j:Nat):Rat:=((Lb P F g F.N j:Int):Rat)
theorem M0:(prog.info? 22).map (fun i=>(i.zero,i.size,i.bytes))=some (some (.string ⟨#[]⟩),1,16):=by kernel_rfl
theorem fI.skC{w:World}{B:Option Addr}{n b:Nat}{s:Nat -> ByteArray}(h:fI w (.slice B n b) 22 n (fun j u=>u= .string (s j)))(M:0<n):∃g,B=some ⟨g,0,none⟩ /\ SK w g n s:=by
 obtain⟨g,c',cs,r,O,G,t⟩:=h.done M;simp only[Value.slice.injEq,true_and] at r;exact⟨g,r.1,cs,O,G,fun j E=>by obtain⟨u,h1,rfl⟩:=t j E;exact h1⟩
theorem M3{P:Program}(w:World){o:Oper}{a:Act}{K:Act -> World -> Prop}{Q:Exit -> Act -> World -> Prop}(s x:Operand)(t:TypeId)
  (X:o.op= .call {callee:= .builtin .append,args:= #[s,x],argTypes:= #[t,t]})
  (e:TypeId) (i:TypeInfo) (z:Value) (r:Nat) (ht:P.underlying t=some (.slice e)) (V: P.info? e=some i) (hz:i.zero=some z)
  (a1:i.size=1) (U:i.bytes=r) (a3:z.cells.size=1)
  (v:Value) (k:Nat) (p:Nat -> Value -> Prop) (hs:a.eval s=v) (Y:fI w v e k p)
  (u:Value) (h1:u.oneCell'=true) (hp:p k u) (g:Nat) (hr:Row w g e [u]) (hx:a.eval x= .slice (some ⟨g,0,none⟩) 1 1)
  (G:k+1 <= maxLen /\ (k+1)*r <= 140737488355328)
  (h:∀v' w',fI w' v' e (k+1) p -> Turned w w' v v' -> K (a.put o.dst v') w'):Oper.wp P o a w K Q:=by
 obtain⟨xs,M,a0⟩:=Y;have W:xs.length=k:=by have:=M.1;omega
 refine nO _ s x t X e i z 1 r ht V hz a1 U a3 dC v k xs hs M ⟨g,0,none⟩ 1 1 [u] hx rfl ?_ ?_ G.1 G.2 ?_
 ·intro j y E;rw[add0];exact hr.at_ j E
 ·intro y O;simp only[List.mem_singleton] at O;subst O;exact h1
 ·intro v' w' Z a2;refine h v' w' ⟨_,Z,fun j E=> ?_⟩ a2;by_cases e:j=k
  ·subst e;exact⟨u,by rw[List.getElem?_append_right oM,W];simp,hp⟩
  ·obtain⟨y,R,T⟩:=a0 j oM;exact⟨y,by rw[List.getElem?_append_left oM];exact R,T⟩
noncomputable def Lv(P:Prb)(j:Nat):ByteArray:=eB ((P.a j+P.l j:Int):Rat)
def M4(w:World)(P:Prb)(F:Frm)(g:Int)(e:Ending):Prop:=
 (qE P F≠0 /\ e= .returned (.tuple #[.slice none 0 0, .int .i64 (qE P F:Nat)])) \/
 (qE P F=0 /\ ∃X cX,e= .returned (.tuple #[.slice X P.n cX, .int .i64 0]) /\ TS w (.slice X P.n cX) P.n (fun j=>eB (L6 P F g j)))
def Lh(w:World)(base:Nat)(B:Option Addr)(n:Nat)(z:Prop)(s:Nat -> ByteArray):Prop:=(n=0 /\ z) \/ ∃g,B=some ⟨g,0,none⟩ /\ base <= g /\ SK w g n s
theorem Lh.tsC{w:World}{base:Nat}{B:Option Addr}{n c:Nat}{z:Prop}{s:Nat -> ByteArray}(h:Lh w base B n z s)(r:n <= c)(t:c <= maxLen):TS w (.slice B n c) n s:=by
 rcases h with ⟨h0,_⟩ | ⟨g,rfl,_,h⟩
 ·exact⟨_,_,rfl,r,t, .inl h0⟩
 ·exact h.ts r t
set_option maxRecDepth 100000 in
set_option maxHeartbeats 12800000 in
theorem Lx(P:Prb)(F:Frm)(A C T:Option Addr)(cA cC cT:Nat)(gr:Bool)(w:World)(hp:PIn w (.slice A P.n cA) (.slice C P.m cC) P)(hF:TT w (.slice T F.N cT) F.N F.d F.f)(ht:Tab w)(hg:fF w):
  Calls prog 29 #[.agg #[.slice A P.n cA, .slice C P.m cC], .agg #[.string F.c, .slice T F.N cT], .bool gr] w fun e w'=>M4 w' P F (sgB gr) e /\ Below w.heap.size w w':=by
 have al:=lH hp;have aD:=lH hF;have aH:=lH ht;have aE:=lH hg;clear hp hF ht hg;obtain⟨W,hW,G,M,t⟩:=eN2 w [.slice A P.n cA, .slice C P.m cC] 58 [.string F.c, .slice T F.N cT] 25;go_enter func29,ntmps29
 go_upto_region 1 with (fail)
 rw[<- hW];clear hW;obtain⟨ad,b7⟩:=aT2 G.o;have ag:=G.o.lt;obtain⟨b3,ax⟩:=aT2 M.o;have aB:=M.o.lt;go_wp2_with fail
 clear ad b7 ag b3 ax aB;refine(Ii P F A C T cA cC cT _ (al.o.below t.o) (aD.o.below t.o) (aE.o.below t.o)).mono ?_;rintro e w1 ⟨rfl,r⟩;replace G:=rW G r;replace M:=rW M r;replace t:=bT t r;clear r;obtain⟨E,hE⟩:=eX (qE P F);rw[<- hE];have HE:=lH hE;clear hE;by_cases h0:E=0
 ·subst h0;have am:Hid (qE P F=0):=lH HE.o.symm;clear HE;have ab:Hid (POk P):=lH (Ig am.o).1;have a6:Hid (TOk (P.n:Nat) F):=lH (Ig am.o).2.ok;have ak:Hid (P.n <= 64):=lH ab.o.n64;have ad:=aI 0 G;have ag:=G.o.lt;go_wp2_with fail
  clear ad ag
  go_loopw [9,26] (fun ov iv wr=>∃ (k:Nat) (B:Option Addr) (b:Nat),k <= P.n /\ ov= .slice B k b /\ iv= .int .i64 k /\ Hid (fI wr (.slice B k b) 22 k (fun j u=>u= .string (Lv P j))) /\ Hid (∀g,(Value.slice B k b).ownBlock=some g -> w.heap.size <= g) /\ Hid (Row wr w.heap.size 58 [.slice A P.n cA, .slice C P.m cC]) /\ Hid (Row wr (w.heap.size+1) 25 [.string F.c, .slice T F.N cT]) /\ Hid (Below w.heap.size w wr)) (fun _ iv _=>P.n-(intOf iv).toNat)
  case atStart=>exact⟨0,none,0,Nat.zero_le _,rfl,rfl,lH (fI.nil _ _ _),lH (fun g hg=>by simp[Value.ownBlock] at hg),G,M,t⟩
  case round=>
   clear G M t;obtain⟨k,B,b,hk,rfl,rfl,X,LB,G,M,t⟩:=hrel;by_cases bg:((k:Nat):Int)<(P.n:Nat)
   ·have a7:k<P.n:=oM
    have a9:=lH a7;obtain⟨gA,oA,rfl,Y⟩:=al.o.1.at_ oM;have a2:=cell_below t.o (Y k a7).1;have ae:=cell_below t.o (Y k a7).2.1;have az:=cell_below t.o (Y k a7).2.2.1;have aA:=cell_below t.o (Y k a7).2.2.2;have af:=eF a2;clear Y;have a3:=lH (ab.o.dim k a7);obtain⟨W3,a1⟩:=eX (wr.alloc (.cells #[.string (P.s k), .int .i64 (P.a k), .int .i64 (P.l k), .int .i64 (P.u k)] 76));obtain⟨gT,a4⟩:=eX (wr.heap.size);have O:Below wr.heap.size wr W3:=by rw[a1];exact eD _ _
    have R:Hid (Row W3 gT 76 [.string (P.s k), .int .i64 (P.a k), .int .i64 (P.l k), .int .i64 (P.u k)]):=lH (by rw[a1,a4];exact eO _ _);replace G:=rW G O;replace M:=rW M O;replace X:=lH (X.o.below O);replace t:=bT t O;clear O
    go_upto_region 8 with (fail)
    clear a2 ae az aA af;rw[<- a1, <- a4];clear a1 a4;have ay:=aI 1 R;have b9:=aI 2 R;have ah:=R.o.lt;have au: -9223372036854775808 <= P.a k+P.l k /\ P.a k+P.l k <= 9223372036854775807:=by have:=a3.o;omega
    have aY:IntKind.i64.wrap (P.a k+P.l k)=P.a k+P.l k:=by rw[IntKind.wrap_i64];omega
    go_wp2_with fail
    clear ay b9 ah;refine(nL (P.a k+P.l k) au.1 au.2 _).mono ?_;rintro e w4 ⟨vf,rfl,hf,r⟩;obtain⟨sf,Af,lf,cf,tf,Bf,mf,df,rfl⟩:=hf.shape;have VF:=lH hf;clear hf au aY;replace G:=rW G r;replace M:=rW M r;replace X:=lH (X.o.below r);replace t:=bT t r;clear r;go_wp2_with fail
    refine(jE _ ((P.a k+P.l k:Int):Rat) 20 _ VF.o ((rM (k:=11) (by have:=a3.o;omega) dC).mono dC) dC (aH.o.below t.o)).mono ?_;rintro e w5 ⟨rfl,r⟩;clear VF R;replace G:=rW G r;replace M:=rW M r;replace X:=lH (X.o.below r);replace t:=bT t r;clear r;obtain⟨tn,a5⟩:∃y:ByteArray,y=eB ((P.a k+P.l k:Int):Rat):=⟨_,rfl⟩
    rw[<- a5];have an:=lH a5;clear a5;obtain⟨iN,aW,aZ,b0,b1⟩:=info_parts M0;obtain⟨w6,a1⟩:=eX (w5.alloc (.cells #[.string tn] 22));obtain⟨gt,a4⟩:=eX (w5.heap.size);have O:Below w5.heap.size w5 w6:=by rw[a1];exact eD _ _
    have RX:Hid (Row w6 gt 22 [.string tn]):=lH (by rw[a1,a4];exact eO _ _);replace G:=rW G O;replace M:=rW M O;replace X:=lH (X.o.below O);replace t:=bT t O;clear O
    go_wp2_with (at_builtin;(rw[<- a1, <- a4];refine wpList_plain rfl fun K hK=>M3 _ (.tmp 30) (.tmp 38) 26 rfl 22 iN (.string ⟨#[]⟩) 16 underlying26 aW aZ b0 b1 rfl (.slice B k b) k (fun j u=>u= .string (Lv P j)) rfl X.o (.string tn) rfl (by rw[an.o];rfl) gt RX.o rfl ⟨by have:=ak.o;have:=a9.o;unfold maxLen;omega,by have:=ak.o;have:=a9.o;omega⟩ ?_))
    intro va w7 ho ht;rw[<- a1] at ht;clear a1 a4;obtain⟨B2,b2,rfl,_,_⟩:=fI.shape ho;have aS:=lH (G.o.turned ht (fun e=>by obtain⟨_,hx⟩:=X.o.row e;have h0:=G.o.ty hx;revert h0;decide));have aR:=lH (M.o.turned ht (fun e=>by obtain⟨_,hx⟩:=X.o.row e;have h0:=M.o.ty hx;revert h0;decide));have aP:=lH (ht.base t.o.size LB.o);have aM:=lH (t.o.trans (ht.below (B:=w.heap.size) t.o.size LB.o));have aQ:=lH ho;clear ho ht;have bf:k<64:=by have:=ak.o;have:=a9.o;omega
    go_wp2_with fail
    go_roundw
    case rel=>exact⟨k+1,B2,b2,a9.o,rfl,by simp,aQ,aP,aS,aR,aM⟩
    case measure=>first | (simp[intOf];done) | (simp[intOf];have:=a9.o;omega)
   ·have aa:Hid (k=P.n):=lH oM;have aC:Hid (P.n <= b /\ b <= maxLen):=lH (by obtain⟨A2,c2,hv,h1,h2⟩:=X.o.shape;cases hv;rw[<- aa.o];exact⟨h1,h2⟩)
    have CL:Hid (Lh wr w.heap.size B P.n (F.N=0) (fun j=>eB ((Lb P F (sgB gr) 0 j:Int):Rat))):=lH (by
     rcases Nat.eq_zero_or_pos P.n with h0 | h0
     ·exact .inl ⟨h0,by have h:=a6.o.lt (k:=0);rcases Nat.eq_zero_or_pos F.N with e | e;exact e;have:=h e;omega⟩
     ·obtain⟨g,e,hs⟩:=fI.skC X.o (by rw[aa.o];exact h0);rw[aa.o] at hs
      exact .inr ⟨g,e,LB.o g (by rw[e];rfl),hs.congr (fun j _=>rfl)⟩)
    have ax:=aI 1 M;have aB:=M.o.lt
    skip
    clear X LB;obtain⟨wo,rfl⟩:=eX (wr);go_wp2_with fail
    clear ax aB
    go_loopw [44] (fun iv wr=>∃ (k:Nat),k <= F.N /\ iv= .int .i64 k /\ Hid (Lh wr w.heap.size B P.n (F.N=0) (fun j=>eB ((Lb P F (sgB gr) k j:Int):Rat))) /\ Hid (Row wr w.heap.size 58 [.slice A P.n cA, .slice C P.m cC]) /\ Hid (Row wr (w.heap.size+1) 25 [.string F.c, .slice T F.N cT]) /\ Hid (Below w.heap.size w wr)) (fun iv _=>F.N-(intOf iv).toNat)
    case atStart=>exact⟨0,Nat.zero_le _,rfl,CL,G,M,t⟩
    case round=>
     clear CL G M t;obtain⟨q,hq,rfl,CL,G,M,t⟩:=hrel;by_cases bh:((q:Nat):Int)<(F.N:Nat)
     ·have ai:q<F.N:=oM
      have ac:=lH ai;obtain⟨z,hz⟩:∃z:Nat,F.d q=(z:Int):=⟨(F.d q).toNat,by have:=a6.o.lt ai;omega⟩
      have a8:z<P.n:=by have:=a6.o.lt ai;omega
      have bj:((z:Nat):Int)<((P.n:Nat):Int):=oM
      have HZ:Hid ((F.d q).toNat=z):=lH oM;have ao:=lH a8
      rcases CL.o with ⟨_,h0⟩ | ⟨gO,rfl,aK,hs⟩
      ·exact absurd h0 oM
      have SB:=lH hs;have aj:=lH aK;clear CL aK hs;obtain⟨gA,oA,rfl,Y⟩:=(aD.o.below t.o).at_ oM;obtain⟨a2,ae⟩:=Y q ai;rw[hz] at a2;have af:=eF a2;clear hz Y;obtain⟨w3,Z⟩:=eX (wr.alloc (.cells #[.int .i64 (z:Nat), .string (F.f q)] 126));obtain⟨gT,a0⟩:=eX (wr.heap.size);have O:Below wr.heap.size wr w3:=by rw[Z];exact eD _ _
      have R:Hid (Row w3 gT 126 [.int .i64 (z:Nat), .string (F.f q)]):=lH (by rw[Z,a0];exact eO _ _);replace G:=rW G O;replace M:=rW M O;replace SB:=lH (SB.o.below O);replace t:=bT t O;clear O
      go_upto_region 13 with (fail)
      clear a2 ae af;rw[<- Z, <- a0];clear Z a0;obtain⟨gD,oD,rfl,Y⟩:=al.o.1.at_ oM;have a2:=cell_below t.o (Y z a8).1;have ae:=cell_below t.o (Y z a8).2.1;have az:=cell_below t.o (Y z a8).2.2.1;have aA:=cell_below t.o (Y z a8).2.2.2;have af:=eF a2;clear Y;have ad:=aI 0 G;have ag:=G.o.lt;have b5:=aI 0 R;have ah:=R.o.lt;have a3:=lH (ab.o.dim z a8);obtain⟨w4,Z⟩:=eX (w3.alloc (.cells #[.string (P.s z), .int .i64 (P.a z), .int .i64 (P.l z), .int .i64 (P.u z)] 76));obtain⟨gE,a0⟩:=eX (w3.heap.size);have O:Below w3.heap.size w3 w4:=by rw[Z];exact eD _ _
      have U:Hid (Row w4 gE 76 [.string (P.s z), .int .i64 (P.a z), .int .i64 (P.l z), .int .i64 (P.u z)]):=lH (by rw[Z,a0];exact eO _ _);replace G:=rW G O;replace M:=rW M O;replace R:=rW R O;replace SB:=lH (SB.o.below O);replace t:=bT t O;clear O
      go_upto_region 14 with (fail)
      clear a2 ae az aA af ad ag b5 ah;rw[<- Z, <- a0];clear Z a0;have ay:=aI 1 R;have ah:=R.o.lt;go_wp2_with fail
      clear ay ah;refine(nQ (F.f q) _ (Nat.le_trans (a6.o.size q ac.o) dC) (aE.o.below t.o)).mono ?_;rintro e w5 ⟨vf,rfl,hf,r⟩;obtain⟨sf,Af,lf,cf,tf,Bf,mf,df,rfl⟩:=hf.shape;have VF:=lH hf;clear hf;replace G:=rW G r;replace M:=rW M r;replace R:=rW R r;replace U:=rW U r;replace SB:=lH (SB.o.below r);replace t:=bT t r;clear r;obtain⟨w6,Z⟩:=eX (w5.alloc (.cells #[.bool sf, .slice Af lf cf, .bool tf, .slice Bf mf df] 40));obtain⟨gK,a0⟩:=eX (w5.heap.size);have O:Below w5.heap.size w5 w6:=by rw[Z];exact eD _ _
      have RK:Hid (Row w6 gK 40 [.bool sf, .slice Af lf cf, .bool tf, .slice Bf mf df]):=lH (by rw[Z,a0];exact eO _ _);replace G:=rW G O;replace M:=rW M O;replace R:=rW R O;replace U:=rW U O;replace SB:=lH (SB.o.below O);replace VF:=lH (VF.o.below O);replace t:=bT t O;clear O
      go_upto_region 15 with (fail)
      rw[<- Z, <- a0];clear Z a0;obtain⟨b4,b6,b8,ba⟩:=aT4 RK.o;have bb:=RK.o.lt;go_wp2_with fail
      clear b4 b6 b8 ba bb;refine(fQ _ (qof (F.f q)) _ VF.o).mono ?_;rintro e w7 ⟨rfl,r⟩;clear VF RK;replace G:=rW G r;replace M:=rW M r;replace R:=rW R r;replace U:=rW U r;replace SB:=lH (SB.o.below r);replace t:=bT t r;clear r;go_wp2_with fail
      refine(zQ gr _).mono ?_;rintro e w8 ⟨rfl,r⟩;replace G:=rW G r;replace M:=rW M r;replace R:=rW R r;replace U:=rW U r;replace SB:=lH (SB.o.below r);replace t:=bT t r;clear r;obtain⟨sz,av⟩:=eX (sgI (qof (F.f q)).num);obtain⟨gz,ar⟩:=eX (sgB gr);rw[<- av, <- ar];have aG:=lH av;have aF:=lH ar;clear av ar;by_cases he:sz=gz
      ·have bc:=lH he;subst he;have aJ:(sz==sz)=true:=by simp
       go_upto_region 16 with (fail)
       clear aJ;have bi:z<k:=by have:=aa.o;have:=ao.o;omega
       refine iC (fun w'=> w'.cell? ⟨gT,0,none⟩=some (.int .i64 (z:Nat)) /\ w'.cell? ⟨gE,1,none⟩=some (.int .i64 (P.a z)) /\ w'.cell? ⟨gE,3,none⟩=some (.int .i64 (P.u z))) (fun i=>decide (11 <= i)) kR ?_;obtain⟨y1,aw⟩:=eX (w8.drew);rw[<- aw];have r:Below w8.heap.size w8 y1:=by rw[aw];exact(Below.refl _ _).drew
       clear aw;replace G:=rW G r;replace M:=rW M r;replace R:=rW R r;replace U:=rW U r;replace SB:=lH (SB.o.below r);replace t:=bT t r;have bd:=lH r;clear r;have V:=And.intro (R.o.at_ 0 rfl) (And.intro (U.o.at_ 1 rfl) (U.o.at_ 3 rfl));refine tKs 0 65 V ?_;refine tKs 1 66 V ?_;refine tKs 2 67 V ?_;refine tKs 3 68 V ?_;refine tKs 4 69 V ?_;refine tKs 5 70 V ?_;refine tKs 6 71 V ?_;refine jd (i:=7) (v:= .int .i64 (P.a z+P.u z)) (some 72) rfl (by rfl) kR kR kR kR (fun _ _ _ h=>h) (Or.inl ⟨by rfl,?_⟩) V ?_
       ·(intro w' aT;clear aT;go_simp;rw[IntKind.wrap_i64];have:=a3.o;omega)
       simp only[Act.put,List.setIfInBounds_toArray,List.set_cons_zero,List.set_cons_succ];refine rD 8 (fun K hK=> ?_);go_simp;refine(nL (P.a z+P.u z) (by have:=a3.o;omega) (by have:=a3.o;omega) _).mono ?_;rintro e y2 ⟨vy,rfl,hy,r⟩;obtain⟨sy,Ay,ly,cy,ty,By,my,dy,rfl⟩:=hy.shape;have VY:=lH hy;clear hy;replace G:=rW G r;replace M:=rW M r;replace R:=rW R r;replace U:=rW U r;replace SB:=lH (SB.o.below r);replace t:=bT t r;clear r;clear V;have V:=And.intro (R.o.at_ 0 rfl) (And.intro (U.o.at_ 1 rfl) (U.o.at_ 3 rfl));refine kH hK V ?_;clear hK K;refine rD 9 (fun K hK=> ?_);go_simp;refine(jE _ ((P.a z+P.u z:Int):Rat) 20 _ VY.o ((rM (k:=11) (by have:=a3.o;omega) dC).mono dC) dC (aH.o.below t.o)).mono ?_;rintro e y3 ⟨rfl,r⟩;obtain⟨tn,a5⟩:∃y:ByteArray,y=(eB ((P.a z+P.u z:Int):Rat)):=⟨_,rfl⟩
       rw[<- a5];have an:=lH a5;clear a5;replace G:=rW G r;replace M:=rW M r;replace R:=rW R r;replace U:=rW U r;replace SB:=lH (SB.o.below r);replace t:=bT t r;clear r;clear V;have V:=And.intro (R.o.at_ 0 rfl) (And.intro (U.o.at_ 1 rfl) (U.o.at_ 3 rfl));refine kH hK V ?_;clear hK K;refine tKs 10 75 V ?_;refine rD 11 (fun K hK=> ?_);have kg:=SB.o.at_ ao.o;have fg:=SB.o.free z;have kl:=SB.o.lt;go_simp;clear kg fg kl;have aV:=aj.o;have hg:World.grownBy y3 (y3.setCell ⟨gO,z,none⟩ (.string tn)) (some gO):=grownBy_set _ _ _ _;have hS:=SB.o.set (x:=tn) ao.o;obtain⟨cx,hx⟩:=SB.o.row;have aq:=G.o.other hg (fun e=>by have h0:=hx.ty (show Row _ gO _ _ from by rw[<- e];exact G.o);revert h0;decide);have ap:=M.o.other hg (fun e=>by have h0:=hx.ty (show Row _ gO _ _ from by rw[<- e];exact M.o);revert h0;decide);have hB:=t.o.grown hg t.o.size (by first | (simp;done) | (simp;omega));obtain⟨y4,aL⟩:=eX ((y3.setCell ⟨gO,z,none⟩ (.string tn)));rw[<- aL] at hS aq ap hB ⊢;clear aL hg aV hx cx SB G M t;have SB:=lH hS;have G:=lH aq;have M:=lH ap;have t:=lH hB;clear hS aq ap hB;refine kL hK ?_;clear hK K;refine dN ?_ _;clear V;have h6:=ab.o.n64;have h7:=a6.o.few;have aX:=ac.o;go_wp2_with fail
       go_roundw
       case rel=>exact⟨q+1,ac.o,by simp,lH (.inr ⟨gO,rfl,aj.o,SB.o.congr (fun j _=>by rw[Lb,if_pos (by rw[<- aG.o];exact aF.o),HZ.o];by_cases e:j=z;rw[e,Lp.upd_same,Lp.upd_same];exact an.o;rw[Lp.eQ _ _ e,Lp.eQ _ _ e])⟩),G,M,t⟩
       case measure=>exact mZ
      ·have aN:=lH he;have aJ:(sz==gz)=false:=by simpa using he
       have h6:=ab.o.n64;have h7:=a6.o.few;have aX:=ac.o;go_wp2_with fail
       go_roundw
       case rel=>exact⟨q+1,ac.o,by simp,lH (.inr ⟨gO,rfl,aj.o,SB.o.congr (fun j _=>by rw[Lb,if_neg (by rw[<- aG.o, <- aF.o];exact aN.o)])⟩),G,M,t⟩
       case measure=>exact mZ
     ·have aO:Hid (q=F.N):=lH oM;go_wp2_with fail
      go_returns;exact⟨.inr ⟨am.o,B,b,by rw[aa.o];rfl,by rw[aO.o] at CL;exact CL.o.tsC aC.o.1 aC.o.2⟩,t.o⟩
 ·have H1:=lH h0;clear h0;have aU:¬((E:Nat):Int)=0:=by have:=H1.o;omega
  have be:(((E:Nat):Int) !=0)=true:=by simpa using aU
  go_wp2_with fail
  go_returns;exact⟨.inl ⟨by rw[<- HE.o];exact H1.o,by rw[<- HE.o];rfl⟩,t.o⟩
end
section
open Go.RowKit
open Lp (RL upd eH jf)
theorem Li{n k:Nat}(h:k<n)(g:Rat)(x:Nat -> Rat):eH n (fun j=>upd (fun _=>0) k 1 j*g) x=x k*g:=by
 rw[lX (a':=upd (fun _=>0) k g) (x':=x) (fun j _=>by by_cases e:j=k;rw[e,Lp.upd_same,Lp.upd_same];grind;rw[Lp.eQ _ _ e,Lp.eQ _ _ e];grind) (fun _ _=>rfl),zu h,show eH n (fun _=>0) x=0 from Lp.iF fun k _=>by grind];grind
theorem M5{P:Prb}{F:Frm}{L:Nat}{o:Wst}{x:Nat -> Rat}(r:TOk (P.n:Nat) F)(h:mU P F 1 L o)(E:jf (pM P) P.n (pA P) (pB P) x):fw F x F.N <= o.q:=by
 have h1:=h.opt.le E;have t:((1:Int):Rat)=1:=rfl;rw[h.val,Ic r (.inl rfl) x,Ic r (.inl rfl) o.x,t];grind
theorem M6{P:Prb}{F:Frm}{L:Nat}{o:Wst}{x:Nat -> Rat}(r:TOk (P.n:Nat) F)(h:mU P F (-1) L o)(E:jf (pM P) P.n (pA P) (pB P) x):o.q <= fw F x F.N:=by
 have h1:=h.opt.le E;have t:((-1:Int):Rat)= -1:=rfl;rw[h.val,Ic r (.inr rfl) x,Ic r (.inr rfl) o.x,t];grind
theorem LH{d b c:Nat}(h:b <= c):Lp.wb d b <= Lp.wb d c:=by
 induction d generalizing b c with
 | zero=>exact h
 | succ d r=>exact r oM
theorem M7{b p:Nat}:∀ {d:Nat},d <= p -> Lp.wb d b <= Lp.wb p b:=by
 have h1:∀ (d b:Nat),Lp.wb d b <= Lp.wb (d+1) b:=fun d b=>LH oM
 intro d h;obtain⟨k,rfl⟩:∃k,p=d+k:=⟨p-d,by omega⟩
 clear h
 induction k with
 | zero=>exact Nat.le_refl _
 | succ k r=>exact Nat.le_trans r (h1 _ _)
theorem ChP.Lj{nL:Nat}{P:Prb}(h:ChP nL P){F:Frm}(hF:IX P.n F)(t:J2 F):oF P F 20 16000:=by
 have O:=h.n5;have M:=h.m;refine⟨fun i r=>(h.frm i r).1.size,fun i r=>(h.frm i r).2.size,hF.size,t.size,?_,by decide⟩;have e:2* (20+10)+5=65:=rfl;rw[e];unfold Lp.wide;have h1:Lp.wb (min (pM P) P.n) (65* (P.n+2)) <= Lp.wb 5 (65* (5+2)):=Nat.le_trans (LH (Nat.mul_le_mul_left 65 oM)) (M7 oM);have E:65* (P.n+1) <= 65* (5+1):=Nat.mul_le_mul_left 65 oM;have G:Lp.wb 5 (65* (5+2))+65* (5+1) <= 15999:=dC
 omega
theorem LJ:sgI (0:Rat).num=0:=by decide+kernel
theorem M8{n:Nat}{P:Prb}{F:Frm}{g:Int}(h:TOk (n:Nat) F)(E:g=1 \/ g= -1):∀k,k <= F.N -> ∀j,Lb P F g k j=if sgI (iw F k j).num=g then P.a j+P.u j else P.a j+P.l j:=by
 intro k
 induction k with
 | zero=>intro _ j;show P.a j+P.l j=if sgI (0:Rat).num=g then _ else _;rw[LJ,if_neg oM]
 | succ k r=>
  intro G j;rw[Lb,iw];by_cases e:j=(F.d k).toNat
  ·subst e;rw[Lp.upd_same];by_cases h1:sgI (qof (F.f k)).num=g
   ·rw[if_pos h1,if_pos h1,Lp.upd_same]
   ·rw[if_neg h1,if_neg h1,r oM,GJ k (fun i t=>by have:=h.inc k oM i t;have:=h.lt (k:=i) oM;omega),LJ,if_neg oM]
  ·rw[Lp.eQ _ _ e, <- r oM];by_cases h1:sgI (qof (F.f k)).num=g
   ·rw[if_pos h1,Lp.eQ _ _ e]
   ·rw[if_neg h1]
def Lf(P:Prb)(x:Nat -> Rat):Prop:=∀k,k<P.n -> ((P.a k+P.l k:Int):Rat) <= x k /\ x k <= ((P.a k+P.u k:Int):Rat)
theorem M9{a b:Int}(h:a <= b):(a:Rat) <= (b:Rat):=Rat.intCast_le_intCast.2 h
theorem Lc{n:Nat}{P:Prb}{F:Frm}{g:Int}(h:TOk (n:Nat) F)(r:g=1 \/ g= -1)(j:Nat):L6 P F g j=if sgI (iw F F.N j).num=g then((P.a j+P.u j:Int):Rat) else((P.a j+P.l j:Int):Rat):=by
 unfold L6;rw[M8 h r F.N (Nat.le_refl _) j];split <;> rfl
theorem Ld{n:Nat}{P:Prb}{F:Frm}{g:Int}(h:TOk (n:Nat) F)(E:g=1 \/ g= -1)(t:∀k,k<P.n -> P.l k <= P.u k):Lf P (L6 P F g):=by
 intro k G;have h1:=t k G;have r:((P.a k+P.l k:Int):Rat) <= ((P.a k+P.u k:Int):Rat):=M9 oM;rw[Lc h E];split
 ·exact⟨r,by grind⟩
 ·exact⟨by grind,r⟩
theorem Lg(q:Rat):(0<q /\ sgI q.num=1) \/ (q=0 /\ sgI q.num=0) \/ (q<0 /\ sgI q.num= -1):=by
 have h1:=yK (a:=q.num);have h:=yJ (a:=q.num);have r:sgI q.num=1 \/ sgI q.num=0 \/ sgI q.num= -1:=by unfold sgI;split <;> (try split) <;> omega
 rcases r with e | e | e
 ·exact .inl ⟨uu.1 (h1.1 oM),e⟩
 ·refine .inr (.inl ⟨?_,e⟩);have t:q.num=0:=oM
  exact Rat.num_eq_zero.1 t
 ·exact .inr (.inr ⟨yL.1 (h.1 oM),e⟩)
theorem Ma{P:Prb}{F:Frm}(h:TOk (P.n:Nat) F){x:Nat -> Rat}(E:Lf P x):eH P.n (iw F F.N) x <= eH P.n (iw F F.N) (L6 P F 1):=by
 refine Lp.sumTo_le fun k t=> ?_
 have r:=E k t;rw[Lc h (.inl rfl)]
 rcases Lg (iw F F.N k) with ⟨h1,e⟩ | ⟨h1,e⟩ | ⟨h1,e⟩
 ·rw[e,if_pos rfl];exact Rat.mul_le_mul_of_nonneg_left r.2 (Rat.le_of_lt h1)
 ·rw[e,h1,if_neg dC];grind
 ·rw[e,if_neg dC];have:=Rat.mul_le_mul_of_nonneg_left r.1 (show 0 <= -iw F F.N k by grind);grind
theorem Mc{P:Prb}{F:Frm}(h:TOk (P.n:Nat) F){x:Nat -> Rat}(E:Lf P x):eH P.n (iw F F.N) (L6 P F (-1)) <= eH P.n (iw F F.N) x:=by
 refine Lp.sumTo_le fun k t=> ?_
 have r:=E k t;rw[Lc h (.inr rfl)]
 rcases Lg (iw F F.N k) with ⟨h1,e⟩ | ⟨h1,e⟩ | ⟨h1,e⟩
 ·rw[e,if_neg dC];exact Rat.mul_le_mul_of_nonneg_left r.1 (Rat.le_of_lt h1)
 ·rw[e,h1,if_neg dC];grind
 ·rw[e,if_pos rfl];have:=Rat.mul_le_mul_of_nonneg_left r.2 (show 0 <= -iw F F.N k by grind);grind
def L8(P:Prb):Prb:= {P with m:=0}
theorem ChP.free{nL:Nat}{P:Prb}(h:ChP nL P):ChP nL (L8 P):=⟨h.n,Nat.zero_le _,h.s,h.t,h.dim,fun i r=>absurd r (Nat.not_lt_zero i)⟩
theorem Ll{w:World}{vd:Value}{C:Option Addr}{cC:Nat}{P:Prb}(h:PIn w vd (.slice C P.m cC) P):PIn w vd (.slice none 0 0) (L8 P):=⟨h.1,⟨none,0,rfl,Nat.le_refl _,Nat.zero_le _, .inl rfl⟩⟩
theorem LM{P:Prb}{x:Nat -> Rat}(h:jf (pM (L8 P)) P.n (pA (L8 P)) (pB (L8 P)) x):Lf P x:=by
 intro k E;have r:k<(L8 P).n:=E;have h1:=h (2*k) (by unfold pM;show 2*k<2*P.n+0;omega);have t:=h (2*k+1) (by unfold pM;show 2*k+1<2*P.n+0;omega);rw[show pA (L8 P) (2*k)=fun j=>upd (fun _=>0) k 1 j* ((1:Int):Rat) from funext (zH _ r),Li E,H8 _ r] at h1;rw[show pA (L8 P) (2*k+1)=fun j=>upd (fun _=>0) k 1 j* ((-1:Int):Rat) from funext (zI _ r),Li E,H9 _ r] at t;have G:((1:Int):Rat)=1:=rfl;have M:((-1:Int):Rat)= -1:=rfl;rw[G] at h1;rw[M] at t;have O:((-(L8 P).a k-(L8 P).l k:Int):Rat)= -((P.a k+P.l k:Int):Rat):=by rw[<- Rat.intCast_neg];congr 1;show -P.a k-P.l k=_;omega
 rw[O] at t;have R:(((L8 P).a k+ (L8 P).u k:Int):Rat)=((P.a k+P.u k:Int):Rat):=rfl;rw[R] at h1;exact⟨by grind,by grind⟩
theorem Le{P:Prb}{x:Nat -> Rat}(h:Lf P x):jf (pM (L8 P)) P.n (pA (L8 P)) (pB (L8 P)) x:=by
 intro i G;have M:((1:Int):Rat)=1:=rfl;have O:((-1:Int):Rat)= -1:=rfl;have h1:i<2*P.n:=by unfold pM at G;have:i<2*P.n+0:=G;omega
 have r:i / 2<P.n:=oM
 have t:i / 2<(L8 P).n:=r;have E:=h (i / 2) r;by_cases T:i%2=0
 ·have e:i=2* (i / 2):=oM
  rw[e,show pA (L8 P) (2* (i / 2))=fun j=>upd (fun _=>0) (i / 2) 1 j* ((1:Int):Rat) from funext (zH _ t),Li r,H8 _ t,M,show(((L8 P).a (i / 2)+ (L8 P).u (i / 2):Int):Rat)=((P.a (i / 2)+P.u (i / 2):Int):Rat) from rfl];have:=E.2;grind
 ·have e:i=2* (i / 2)+1:=oM
  rw[e,show pA (L8 P) (2* (i / 2)+1)=fun j=>upd (fun _=>0) (i / 2) 1 j* ((-1:Int):Rat) from funext (zI _ t),Li r,H9 _ t,O];have U:=E.1;have R:((-(L8 P).a (i / 2)-(L8 P).l (i / 2):Int):Rat)= -((P.a (i / 2)+P.l (i / 2):Int):Rat):=by rw[<- Rat.intCast_neg];congr 1;show -P.a (i / 2)-P.l (i / 2)=_;omega
  rw[R];grind
theorem LU{P:Prb}{F:Frm}{L:Nat}{o:Wst}(E:∀k,k<P.n -> P.l k <= P.u k)(r:TOk (P.n:Nat) F)(h:mU (L8 P) F 1 L o):o.q=fw F (L6 P F 1) F.N:=by
 have h1:=M5 (P:=L8 P) r h (Le (Ld r (.inl rfl) E));have G:=Ma r (LM h.opt.holds);have t:=h.val;rw[GK r _ _ (Nat.le_refl _)] at h1 t ⊢;grind
theorem LV{P:Prb}{F:Frm}{L:Nat}{o:Wst}(E:∀k,k<P.n -> P.l k <= P.u k)(r:TOk (P.n:Nat) F)(h:mU (L8 P) F (-1) L o):o.q=fw F (L6 P F (-1)) F.N:=by
 have h1:=M6 (P:=L8 P) r h (Le (Ld r (.inr rfl) E));have G:=Mc r (LM h.opt.holds);have t:=h.val;rw[GK r _ _ (Nat.le_refl _)] at h1 t ⊢;grind
noncomputable def L9(P:Prb)(F:Frm):Nat -> Rat
 | 0=>0
 | k+1=>L9 P F k+ (if iw F F.N k<0 then -iw F F.N k else iw F F.N k)* ((P.u k-P.l k:Int):Rat)
theorem Md{P:Prb}{F:Frm}(h:TOk (P.n:Nat) F):∀k,k <= P.n -> eH k (iw F F.N) (L6 P F 1)-eH k (iw F F.N) (L6 P F (-1))=L9 P F k:=by
 intro k
 induction k with
 | zero=>intro _;rw[L9];show(0:Rat)-0=0;grind
 | succ k r=>
  intro t;rw[og,og,L9, <- r oM,Lc h (.inl rfl),Lc h (.inr rfl),Rat.intCast_add,Rat.intCast_add,Rat.intCast_sub]
  rcases Lg (iw F F.N k) with ⟨h1,e⟩ | ⟨h1,e⟩ | ⟨h1,e⟩
  ·rw[e,if_pos rfl,if_neg dC,if_neg (by grind)];grind
  ·rw[e,h1,if_neg dC,if_neg dC,if_neg dC];grind
  ·rw[e,if_neg dC,if_pos rfl,if_pos h1];grind
theorem Me{P:Prb}{F:Frm}(h:TOk (P.n:Nat) F):fw F (L6 P F 1) F.N-fw F (L6 P F (-1)) F.N=L9 P F P.n:=by
 rw[GK h _ _ (Nat.le_refl _),GK h _ _ (Nat.le_refl _), <- Md h P.n (Nat.le_refl _)];grind
end
section
open Go.RowKit
open Lp (RL upd eH)
set_option maxRecDepth 100000 in
set_option maxHeartbeats 12800000 in
theorem Mf(F:Frm)(T:Option Addr)(cT n:Nat)(U:Int)(K:Nat)(w:World)(hT:TT w (.slice T F.N cT) F.N F.d F.f)(hd:∀k,k<F.N -> 0 <= F.d k /\ F.d k<(n:Nat))(V:∀k,k<F.N -> (F.f k).size <= K)(G:0<K /\ K <= 65536)(a2:U=1 \/ U= -1)(hn:n <= 64)(hN:F.N <= 1000000)(X:fF w):
  Calls prog 30 #[.int .i64 (n:Nat), .agg #[.string F.c, .slice T F.N cT], .int .i64 U] w fun e w'=>∃g,e= .returned (.slice (some ⟨g,0,none⟩) n n) /\ w.heap.size <= g /\ RB w' g n (fun j=>(U:Rat)*iw F F.N j) /\ Below w.heap.size w w':=by
 have ag:Hid (RL 1 (U:Rat)):=lH (by rcases a2 with rfl | rfl <;> (unfold RL;decide));have a7:=lH a2;have HD:=lH hd;have a5:=lH V;have a1:=lH G;have am:=lH hn;have af:=lH hN;have ae:=lH X;have HT:=lH hT;clear a2 hd V G hN X hT;obtain⟨W,hW,t,E⟩:=eN1 w [.string F.c, .slice T F.N cT] 25;go_enter func30,ntmps30
 go_upto_region 1 with (fail)
 rw[<- hW];clear hW;obtain⟨M,Z⟩:=eX (W.heap.size)
 go_wp2_with (at_make;refine oh _ rfl (.tmp 9) (.tmp 9) rfl _ _ n rfl rfl rfl rfl oM ?_)
 rw[<- Z];intro w1 ab h ai;rw[Z] at h;have SB:Hid (RB w1 M n (fun j=>(U:Rat)*iw F 0 j)):=lH (ab.congr (fun j _=>by show(0:Rat)=(U:Rat)*0;rw[Rat.mul_zero]));have a6:Hid (w.heap.size<M):=lH (by rw[Z];exact t.o.lt);replace t:=rW t h;replace E:=bT E h;clear h;clear ab ai Z hn;go_wp2_with fail
 go_loopw [8] (fun iv wr=>∃ (k:Nat),k <= F.N /\ iv= .int .i64 k /\ Hid (RB wr M n (fun j=>(U:Rat)*iw F k j)) /\ Hid (Row wr w.heap.size 25 [.string F.c, .slice T F.N cT]) /\ Hid (Below w.heap.size w wr)) (fun iv _=>F.N-(intOf iv).toNat)
 case atStart=>exact⟨0,Nat.zero_le _,rfl,SB,t,E⟩
 case round=>
  clear SB t E;obtain⟨k,hk,rfl,SB,t,E⟩:=hrel;have ak:=aI 1 t;have al:=t.o.lt;by_cases aq:((k:Nat):Int)<(F.N:Nat)
  ·have a0:k<F.N:=oM
   have Y:=lH a0;obtain⟨z,hz⟩:∃z:Nat,F.d k=(z:Int):=⟨(F.d k).toNat,by have:=HD.o k a0;omega⟩
   have aj:z<n:=by have:=HD.o k a0;omega
   have ar:((z:Nat):Int)<((n:Nat):Int):=oM
   have a8:=lH aj;have HZ:Hid ((F.d k).toNat=z):=lH oM;obtain⟨gA,oA,rfl,a9⟩:=(HT.o.below E.o).at_ oM;obtain⟨a4,ad⟩:=a9 k a0;rw[hz] at a4;have O:=lH a4;have R:=lH ad;clear hz a9 a4 ad
   go_upto_region 5 with (fail)
   clear ak al;refine iC (fun w'=> w'.cell? ⟨w.heap.size,1,none⟩=some (.slice (some ⟨gA,oA,none⟩) F.N cT) /\ w'.cell? ⟨gA,oA+k*2,none⟩=some (.int .i64 (z:Nat)) /\ w'.cell? ⟨gA,oA+k*2+1,none⟩=some (.string (F.f k))) (fun i=>decide (18 <= i)) kR ?_;obtain⟨y1,a3⟩:=eX (wr.drew);rw[<- a3];have h:Below wr.heap.size wr y1:=by rw[a3];exact(Below.refl _ _).drew
   clear a3;replace t:=rW t h;replace SB:=lH (SB.o.below h);replace O:=lH (cell_below h O.o);replace R:=lH (cell_below h R.o);replace E:=bT E h;have an:=lH h;clear h;have r:=And.intro (t.o.at_ 1 rfl) (And.intro (O.o) (R.o));refine tKs 0 18 r ?_;refine tKs 1 19 r ?_;refine tKs 2 20 r ?_;refine tKs 3 21 r ?_;refine tKs 4 22 r ?_;refine tKs 5 23 r ?_;refine tKs 6 24 r ?_;refine tKs 7 25 r ?_;refine tKs 9 27 r ?_;refine tKs 10 28 r ?_;refine tKs 11 29 r ?_;refine tKs 12 30 r ?_;refine tKs 13 31 r ?_;refine tKs 14 32 r ?_;refine rD 8 (fun K G=> ?_);go_simp;refine(nL U (by have:=a7.o;omega) (by have:=a7.o;omega) _).mono ?_;rintro e y2 ⟨vs,rfl,hs,h⟩;obtain⟨ss,As,ls,cs,ts,Bs,ms,ds,rfl⟩:=hs.shape;have VS:=lH hs;clear hs;replace t:=rW t h;replace SB:=lH (SB.o.below h);replace O:=lH (cell_below h O.o);replace R:=lH (cell_below h R.o);replace E:=bT E h;clear h;clear r;have r:=And.intro (t.o.at_ 1 rfl) (And.intro (O.o) (R.o));refine kH G r ?_;clear G K;refine rD 15 (fun K G=> ?_);go_simp;refine(AA (F.f k) _ (Nat.le_trans (a5.o k Y.o) a1.o.2) (ae.o.below E.o)).mono ?_;rintro e y3 ⟨vf,rfl,V,h⟩;obtain⟨sf,Af,lf,cf,tf,Bf,mf,df,rfl⟩:=V.shape;have VF:=lH V;clear V;replace t:=rW t h;replace SB:=lH (SB.o.below h);replace O:=lH (cell_below h O.o);replace R:=lH (cell_below h R.o);replace VS:=lH (VS.o.below h);replace E:=bT E h;clear h;clear r;have r:=And.intro (t.o.at_ 1 rfl) (And.intro (O.o) (R.o));refine kH G r ?_;clear G K;refine rD 16 (fun K G=> ?_);go_simp;refine(mO _ _ (U:Rat) (qof (F.f k)) _ VS.o VF.o (ag.o.mono dC) ((ig (a5.o k Y.o) a1.o.1).mono (by have:=a1.o.2;omega))).mono ?_;rintro e y4 ⟨vp,rfl,hp,h⟩;obtain⟨sp,Ap,lp,cp,tp,Bp,mp,dp,rfl⟩:=hp.shape;have VP:=lH hp;clear hp;replace t:=rW t h;replace SB:=lH (SB.o.below h);replace O:=lH (cell_below h O.o);replace R:=lH (cell_below h R.o);replace E:=bT E h;clear h;clear r;have r:=And.intro (t.o.at_ 1 rfl) (And.intro (O.o) (R.o));refine kH G r ?_;clear G K;refine tKs 17 35 r ?_;refine rD 18 (fun K G=> ?_);obtain⟨_,_,_,_,_,_,_,_,hQ,_⟩:=SB.o.fK a8.o;obtain⟨q0,q1,q2,q3⟩:=hQ;have f0:=SB.o.free (z*4);have f1:=SB.o.free (z*4+1);have f2:=SB.o.free (z*4+2);have f3:=SB.o.free (z*4+3);have ql:=SB.o.lt;go_simp;clear ql q0 q1 q2 q3 f0 f1 f2 f3;have ah:=a6.o;have X:World.grownBy y4 ((((y4.setCell ⟨M,z*4,none⟩ (.bool sp)).setCell ⟨M,z*4+1,none⟩ (.slice Ap lp cp)).setCell ⟨M,z*4+2,none⟩ (.bool tp)).setCell ⟨M,z*4+3,none⟩ (.slice Bp mp dp)) (some M):=gJ _ _ _ _ _ _ _ _ _ _;have hS:=SB.o.set a8.o VP.o;have hR:=t.o.other X oM;have hB:=E.o.grown X E.o.size (by first | (simp;done) | (simp;omega));obtain⟨y5,ac⟩:=eX (((((y4.setCell ⟨M,z*4,none⟩ (.bool sp)).setCell ⟨M,z*4+1,none⟩ (.slice Ap lp cp)).setCell ⟨M,z*4+2,none⟩ (.bool tp)).setCell ⟨M,z*4+3,none⟩ (.slice Bp mp dp)));rw[<- ac] at hS hR hB ⊢;clear ac X ah SB t E;have SB:=lH hS;have t:=lH hR;have E:=lH hB;clear hS hR hB;refine kL G ?_;clear G K;refine dN ?_ _;clear r;have ap:=Y.o;have ao:=af.o;go_wp2_with fail
   go_roundw
   case rel=>exact⟨k+1,Y.o,by simp,lH (SB.o.congr (fun j _=>by rw[iw,HZ.o];by_cases e:j=z;rw[e,Lp.upd_same,Lp.upd_same];rw[Lp.eQ _ _ e,Lp.eQ _ _ e])),t,E⟩
   case measure=>exact mZ
  ·have aa:k=F.N:=oM
   rw[aa] at SB;clear aa;go_wp2_with fail
   go_returns;exact⟨M,rfl,Nat.le_of_lt a6.o,SB.o,E.o⟩
end
section
open Go.RowKit
open Lp (RL)
theorem Mg(M:Value)(a:Int)(w:World)(U:eT w M a):
  Calls prog 79 #[M] w fun e w'=>∃v,e= .returned v /\ eT w' v (a.natAbs:Nat) /\ Below w.heap.size w w':=by
 obtain⟨A,h,rfl,t,E,G⟩:=U;have T:=lH G;have O:=lH t;have R:=lH E;clear G t E
 have V:∀s:Bool,Calls prog 79 #[.agg #[.bool s, .slice A (ek a.natAbs).length h]] w fun e w'=>e= .returned (.agg #[.bool false, .slice A (ek a.natAbs).length h]) /\ Below w.heap.size w w':=by
  intro s;generalize (ek a.natAbs).length=n;go_enter func79,ntmps79;go_wp2_with fail
  go_returns;exact⟨by simp,by go_grown⟩
 refine(V _).mono ?_;rintro e w' ⟨rfl,r⟩;refine⟨_,rfl,⟨A,h,?_,by simpa using O.o,R.o,by simpa using U32.below T.o r⟩,r⟩;rw[Int.natAbs_natCast,decide_eq_false oM]
def La(a:Rat):Rat:=if a<0 then -a else a
theorem Mh(a:Rat):((a.num.natAbs:Nat):Int)=(La a).num:=by
 unfold La;by_cases h:a<0
 ·rw[if_pos h,Rat.neg_num];have:=yL.2 h;omega
 ·rw[if_neg h];have r:¬a.num<0:=fun e=>h (yL.1 e);omega
theorem Mi(a:Rat):(La a).den=a.den:=by
 unfold La;split
 ·exact Rat.neg_den a
 ·rfl
theorem Ls{k:Nat}{a:Rat}(h:RL k a):RL k (La a):=by
 unfold La;split
 ·exact h.neg
 ·exact h
set_option maxHeartbeats 1600000 in
theorem Mj(va:Value)(a:Rat)(w:World)(Z:eP w va a):
  Calls prog 35 #[va] w fun e w'=>∃v,e= .returned v /\ eP w' v (La a) /\ Below w.heap.size w w':=by
 obtain⟨sa,Aa,la,ca,ta,M,ma,T,rfl⟩:=Z.shape;obtain⟨a3,y,a2,hy⟩:=Z.parts;have HY:=lH hy;clear hy;obtain⟨W,hW,RA,t,E⟩:=eN2 w [.bool sa, .slice Aa la ca, .bool ta, .slice M ma T] 40 [.bool false, .slice none 0 0, .bool false, .slice none 0 0] 40;have R:=lH ((a3).below E.o);have O:=lH ((a2).below E.o);clear Z a3 a2;go_enter func35,ntmps35;go_wp2_with fail
 rw[<- hW];clear hW;go_wp2_with fail
 have h:=rG W;have a0:Hid (Below W.heap.size W W.drew):=lH (Below.refl _ _).drew;have a5:=RA.o.lt;obtain⟨U,V,X,Y⟩:=aT4 RA.o;have G:=lH (kC U (kC V (kC X (kN Y))));have aa:=t.o.lt;have KT:=lH (k4C (w.heap.size+1) U (k4C (w.heap.size+1) V (k4C (w.heap.size+1) X (k4N (w.heap.size+1) Y))));clear aa;have a4:True:=trivial
 go_region_held3 (fun w'=> w'.cell? ⟨w.heap.size,0,none⟩=some (.bool sa) /\ w'.cell? ⟨w.heap.size,1,none⟩=some (.slice Aa la ca) /\ w'.cell? ⟨w.heap.size,2,none⟩=some (.bool ta) /\ w'.cell? ⟨w.heap.size,3,none⟩=some (.slice M ma T))
  (first | (with_reducible exact G.o _ a0.o) | (with_reducible exact G.o _ h.o) | (with_reducible exact KT.o _ _ _ _ _ h.o) | (exact G.o _ (h.o.trans ((eD _ _).mono h.o.size))) | (exact G.o _ (h.o.trans (((eD _ _).drew).mono h.o.size))) | go_keep)
  (first
   | (go_at_call 79
      have _t:=a4;refine(Mg _ a.num _ (by exact R.o)).mono ?_;rintro e w1 ⟨vn,rfl,hn,r⟩;have r:Below W.heap.size W w1:=bD r;obtain⟨sn,An,ln,cn,rfl⟩:=hn.shape;have Vn:=lH hn;replace R:=lH (R.o.below r);replace O:=lH (O.o.below r);replace t:=rW t r;replace E:=bT E r;replace h:=bT h r;have hr:=ic t.o dC oM E.o (eP.mk (q:=La a) Vn.o O.o (Mh a) (by rw[Mi];exact HY.o));have a1:=lH hr;clear hr;obtain⟨a6,ab,a7,ac,a8,ad,a9,ae⟩:=aF4 t.o;have af:=t.o.lt
      clear r a4 _t hn))
 clear a5 U V X Y G h a0 KT;go_wp2_with fail
 refine bodyPost_ret (v:= .agg #[.bool sn, .slice An ln cn, .bool ta, .slice M ma T]) (by simp[results,results35,go_sem,a6,a7,a8,a9]) rfl ?_;exact⟨_,rfl,a1.o.1,a1.o.2⟩
end
section
open Go.RowKit
open Lp (RL upd eH)
section
variable {q:Nat} {F:Nat -> Frm}
theorem Mk{u:Nat -> Value}{G:Frm}{x:Value}(i:Nat)(h:i<q)(j:Nat)(_:j<2):cF (fun i=>(F i).c) u i j=cF (fun i=>(upd F q G i).c) (upd u q x) i j:=by
 unfold cF;dsimp only;rw[Lp.eQ _ _ oM,Lp.eQ _ _ oM]
theorem Ml{u:Nat -> Value}{G:Frm}{x:Value}(j:Nat)(h:j<2):([.string G.c,x]:List Value)[j]? =some (cF (fun i=>(upd F q G i).c) (upd u q x) q j):=by
 unfold cF;dsimp only;rw[Lp.upd_same,Lp.upd_same];have:j=0 \/ j=1:=oM
 rcases this with rfl | rfl <;> rfl
end
def Mm(w:World)(c:Chn)(e:Ending):Prop:=∃ (q:Nat) (A:Option Addr) (b:Nat) (F:Nat -> Frm),e= .returned (.slice A q b) /\ q=min c.nG 3 /\ JL w (.slice A q b) q F /\ LFs (min c.nL 5) q F
set_option maxRecDepth 100000 in
set_option maxHeartbeats 12800000 in
theorem Lt(c:Chn)(AL AG AB AT:Option Addr)(qL qG qB qT:Nat)(w:World)(hc:CIn w (.slice AL c.nL qL) (.slice AG c.nG qG) (.slice AB c.nB qB) (.slice AT c.nT qT) c)(X:Tab w):
  Calls prog 28 #[.agg #[.slice AL c.nL qL, .slice AG c.nG qG, .slice AB c.nB qB, .slice AT c.nT qT]] w fun e w'=>Mm w' c e /\ Below w.heap.size w w':=by
 have HC:=lH hc;have ai:=lH X;clear hc X;obtain⟨W,hW,t,M⟩:=eN1 w [.slice AL c.nL qL, .slice AG c.nG qG, .slice AB c.nB qB, .slice AT c.nT qT] 49;go_enter func28,ntmps28
 go_upto_region 2 with (fail)
 rw[<- hW];clear hW;have a8:Hid (min ((c.nL:Nat):Int) 5=((min c.nL 5:Nat):Int)):=lH oM;have ar:=aI 0 t;have a0:=t.o.lt
 go_upto_region 3 with (fail)
 clear ar a0;rw[a8.o];obtain⟨n,hn⟩:=eX (min c.nL 5);rw[<- hn];have a9:=lH hn;have ad:n <= 5:=oM
 have ah:=lH ad;clear hn ad a8;go_wp2_with fail
 go_loopw [3,5] (fun ov iv wr=>∃ (k:Nat) (B:Option Addr) (b:Nat) (u:Nat -> Value) (F:Nat -> Frm),(k <= c.nG /\ k <= 3) /\ ov= .slice B k b /\ iv= .int .i64 k /\ Hid (IW wr (.slice B k b) 25 2 k (cF (fun i=>(F i).c) u)) /\ Hid (FTs wr k u F) /\ Hid (LFs n k F) /\ Hid (∀g,(Value.slice B k b).ownBlock=some g -> w.heap.size <= g) /\ Hid (Row wr w.heap.size 49 [.slice AL c.nL qL, .slice AG c.nG qG, .slice AB c.nB qB, .slice AT c.nT qT]) /\ Hid (Below w.heap.size w wr)) (fun _ iv _=>3-(intOf iv).toNat)
 case atStart=>exact⟨0,none,0,fun _=> .bool false,fun _=>⟨⟨#[]⟩,0,fun _=>0,fun _=>⟨#[]⟩⟩,⟨Nat.zero_le _,Nat.zero_le _⟩,rfl,rfl,lH (IW.nil _ _ _ _),lH (fun i U=>absurd U oM),lH (fun i U=>absurd U oM),lH (fun g hg=>by simp[Value.ownBlock] at hg),t,M⟩
 case round=>
  clear t M;obtain⟨k,B,b,u,F,hk,rfl,rfl,O,FT,LF,LC,t,M⟩:=hrel;have a7:=lH hk;clear hk;by_cases g1:k<c.nG
  ·by_cases g2:k<3
   ·have V:=lH (And.intro g1 g2);obtain⟨gG,oG,rfl,ac⟩:=HC.o.g.at_ oM;have ag:=lH ac;clear ac;have Y:((k:Nat):Int)<(c.nG:Nat):=oM
    have a4:decide (((k:Nat):Int)<(c.nG:Nat))=true:=decide_eq_true Y;have a1:((k:Nat):Int)<3:=oM
    have ab:decide (((k:Nat):Int)<3)=true:=decide_eq_true a1;have a6:=aI 1 t;have a0:=t.o.lt
    go_upto_region 6 with (fail)
    clear Y a4 a1 ab a6 a0;have aa:Hid (Half 1000000 (((10* ((k:Nat):Int):Int)):Rat)):=lH ((Half.int (B:=30) _ (by have:=V.o;omega)).mono dC);refine iC (fun w'=> w'.cell? ⟨w.heap.size,1,none⟩=some (.slice (some ⟨gG,oG,none⟩) c.nG qG)) (fun i=>decide (12 <= i)) kR ?_;obtain⟨y1,a5⟩:=eX (wr.drew);rw[<- a5];have r:Below wr.heap.size wr y1:=by rw[a5];exact(Below.refl _ _).drew
    clear a5;replace t:=rW t r;replace O:=lH (O.o.below r);replace FT:=lH (FT.o.below r);replace M:=bT M r;have Z:=lH r;clear r;have E:=aI 1 t;refine tKs 0 21 E ?_;refine tKs 1 22 E ?_;refine tB 2 [2,3,5,6,10,11] (some 23) E ?_;refine tB 3 [3,5,6,10,11] (some 24) E ?_;refine tB 4 [4,5,6,10,11] (some 25) E ?_;refine tB 5 [5,6,10,11] (some 26) E ?_;refine tKs 6 27 E ?_;refine tB 7 [7,8,9,10,11] (some 28) E ?_;refine qF (i:=8) (v:= .int .i64 (10* ((k:Nat):Int))) [8,9,10,11] (some 29) rfl (by rfl) kR kR kR kR (fun _ _ _ h=>h) (Or.inl ⟨by rfl,?_⟩) E ?_
    ·(intro w' am;clear am;go_simp;rw[IntKind.wrap_i64];have:=V.o;omega)
    simp only[Act.put,List.setIfInBounds_toArray,List.set_cons_zero,List.set_cons_succ];refine rD 9 (fun K R=> ?_);go_simp;refine(nL (10* ((k:Nat):Int)) (by have:=V.o;omega) (by have:=V.o;omega) _).mono ?_;rintro e y2 ⟨vq,rfl,hq,r⟩;obtain⟨sq,Aq,lq,cq,tq,Bq,mq,dq,rfl⟩:=hq.shape;have VQ:=lH hq;clear hq;replace t:=rW t r;replace O:=lH (O.o.below r);replace FT:=lH (FT.o.below r);replace M:=bT M r;replace Z:=bT Z r;clear r;clear E;have E:=aI 1 t;refine kH R E ?_;clear R K;refine rD 10 (fun K R=> ?_);go_simp;refine(Jk n (some ⟨gG,oG+k*5,none⟩) 5 5 (c.G k) _ (((10* ((k:Nat):Int):Int)):Rat) _ ⟨_,_,rfl,by decide,by unfold maxLen;decide, .inr ⟨gG,oG+k*5,rfl,fun i U=>cell_below M.o (ag.o k V.o.1 i U)⟩⟩ (fun i U=>HC.o.rg k V.o.1 i U) VQ.o aa.o ah.o (ai.o.below M.o)).mono ?_;rintro e y3 ⟨G,T,cG,rfl,hT,hL,hc,r⟩;have TG:=lH hT;have LG:=lH hL;have CG:=lH hc;clear hT hL hc;replace t:=rW t r;replace O:=lH (O.o.below r);replace FT:=lH (FT.o.below r);replace M:=bT M r;replace Z:=bT Z r;clear r;clear E;have E:=aI 1 t;refine kH R E ?_;clear R K;refine rD 11 (fun K R=> ?_);go_simp;obtain⟨gt,a2⟩:=eX (y3.heap.size);obtain⟨y4,a3⟩:=eX (y3.alloc (.cells #[.string G.c, .slice T G.N cG] 25));have r:Below y3.heap.size y3 y4:=by rw[a3];exact eD _ _
    have RT:Hid (Row y4 gt 25 [.string G.c, .slice T G.N cG]):=lH (by rw[a3,a2];exact eO _ _);have au:Hid (wr.heap.size <= gt):=lH (by rw[a2];exact Z.o.size);rw[<- a3, <- a2];clear a3 a2;replace t:=rW t r;replace O:=lH (O.o.below r);replace FT:=lH (FT.o.below r);replace TG:=lH (TG.o.below r);replace M:=bT M r;clear r;clear E;have E:=aI 1 t;refine kH R E ?_;clear R K;refine rD 12 (fun K R=> ?_);rw[if_pos (by rfl)];obtain⟨iT,an,ao,ap,aq⟩:=info_parts JK;refine J7 _ (.tmp 21) (.tmp 32) 70 rfl 25 iT _ 2 40 underlying70 an ao ap aq rfl dC (.slice B k b) k (cF (fun i=>(F i).c) u) (cF (fun i=>(upd F k G i).c) (upd u k (.slice T G.N cG))) rfl O.o [.string G.c, .slice T G.N cG] rfl (fun k hk i U=>Mk k hk i U) (fun i U=>Ml (G:=G) i U) (fun y hy=>by simp only[List.mem_cons,List.not_mem_nil,or_false] at hy;rcases hy with rfl | rfl <;> rfl) gt RT.o rfl (by have:=V.o;unfold maxLen;omega) ?_;intro va y5 ho X;obtain⟨D2,d2,rfl,_,_⟩:=ho.shape;have al:=lH (t.o.turned X (O.o.ne t.o dC));have ae:=lH (FTs.add (G:=G) (FT.o.turned X O.o dC) (TG.o.turned X O.o dC));have aj:=lH (X.base M.o.size LC.o);have af:=lH (M.o.trans (X.below (B:=w.heap.size) M.o.size LC.o));have ak:=lH ho;clear ho X;refine kL R ?_;clear R K;refine tWs 13 3 ?_;refine dN ?_ _;clear E;have av:k<3:=V.o.2;go_wp2_with fail
    go_roundw
    case rel=>exact⟨k+1,D2,d2,_,_,V.o,rfl,by simp,ak,ae,lH (LF.o.add LG.o ⟨_,CG.o,aa.o⟩),aj,al,af⟩
    case measure=>exact mZ
   ·have Y:((k:Nat):Int)<(c.nG:Nat):=oM
    have a4:decide (((k:Nat):Int)<(c.nG:Nat))=true:=decide_eq_true Y;have a1:¬((k:Nat):Int)<3:=oM
    have ab:decide (((k:Nat):Int)<3)=false:=decide_eq_false a1;have a6:=aI 1 t;have a0:=t.o.lt;go_wp2_with fail
    go_returns;exact⟨⟨k,B,b,F,rfl,by have:=a7.o;omega,O.o.JP FT.o,by rw[<- a9.o];exact LF.o⟩,M.o⟩
  ·have Y:¬((k:Nat):Int)<(c.nG:Nat):=oM
   have a4:decide (((k:Nat):Int)<(c.nG:Nat))=false:=decide_eq_false Y;have a6:=aI 1 t;have a0:=t.o.lt;go_wp2_with fail
   go_returns;exact⟨⟨k,B,b,F,rfl,by have:=a7.o;omega,O.o.JP FT.o,by rw[<- a9.o];exact LF.o⟩,M.o⟩
end
section
open Go.RowKit
def cdL:Code -> Code
 | .seq a _=>a
 | c=>c
def cdR:Code -> Code
 | .seq _ b=>b
 | c=>c
def cdB:Code -> Code
 | .block _ b=>b
 | .loop b=>b
 | c=>c
def Lm(R:Act -> World -> Prop):Exit -> Act -> World -> Prop
 | .normal,a,w=>R a w
 | _,_,_=>False
theorem Lu{P:Program}{c:Code}{Q:Exit -> Act -> World -> Prop}{a:Act}{w:World}(h:Code.wp P c (Lm (Q .normal)) a w):Code.wp P c Q a w:=
 wp_mono h fun e a w h=>by cases e <;> first | exact h | exact h.elim
end
end Go.Proofs.YtokagbahdkfagaaGreatDoor
