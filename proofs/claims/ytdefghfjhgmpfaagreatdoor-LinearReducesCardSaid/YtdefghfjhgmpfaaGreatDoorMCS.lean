/- Parts of this proof: LReduces. -/
import Derived.Test.YtdefghfjhgmpfaaGreatDoorMBJ
import Derived.Test.YtdefghfjhgmpfaaGreatDoorMCR
import Derived.Test.YtdefghfjhgmpfaaGreatDoorMCO
import Derived.Test.YtdefghfjhgmpfaaGreatDoorMCP
import Derived.Test.YtdefghfjhgmpfaaGreatDoorMBV
import Derived.Test.YtdefghfjhgmpfaaGreatDoorMBS
import Derived.Test.YtdefghfjhgmpfaaGreatDoorMAZ
import Derived.Test.YtdefghfjhgmpfaaGreatDoorMBY
namespace Go.Proofs.YtdefghfjhgmpfaaGreatDoor
open Go.Proofs.Tryz
open Go.RowKit
open Lp (RL upd eu)
theorem MB(w:World){o:Oper}{a:Act}{K:Act -> World -> Prop}{Q:Exit -> Act -> World -> Prop}(s x:Operand)
  (V:o.op= .call {callee:= .builtin .append,args:= #[s,x],argTypes:= #[23,23]})
  (v:Value) (q:Nat) (xs:List Value) (Z:a.eval s=v) (W:w.ownsRow 0 53 2 v q xs)
  (t C:Value) (h0:t.oneCell'=true) (h1:C.oneCell'=true) (hx:a.eval x= .slice (some ⟨w.heap.size,0,none⟩) 1 1)
  (a4:q <= 1000000000000)
  (h:∀v' w',w'.ownsRow 0 53 2 v' (q+1) (xs++ [t,C]) -> Turned w w' v v' -> K (a.put o.dst v') w'):Oper.wp prog o a (w.alloc (.cells #[t,C] 53)) K Q:=by
 obtain⟨i,R,a1,a2,a3⟩:=info_parts C8;have r:=eD w (.cells #[t,C] 53);have Y:Row (w.alloc (.cells #[t,C] 53)) w.heap.size 53 [t,C]:=eP _ _;have a0:=lI W (below_grown r) (by simp);refine lW _ s x _ V _ i _ 2 40 underlying23 R a1 a2 a3 rfl dC v q xs Z a0 ⟨w.heap.size,0,none⟩ 1 1 [t,C] hx rfl ?_ ?_ (by unfold maxLen;omega) oM ?_
 ·intro j y T;rw[add0];exact Y.at_ j T
 ·intro y M;simp only[List.mem_cons,List.not_mem_nil,or_false] at M;rcases M with rfl | rfl
  ·exact h0
  ·exact h1
 ·intro v' w' X E;refine h v' w' X ⟨⟨E.grown.os.trans r.os,E.grown.tape.trans r.tape,E.grown.output.trans r.output,Nat.le_trans r.size E.grown.size,fun k G U=>(E.grown.block k (Nat.lt_of_lt_of_le G r.size) U).trans (r.block k G)⟩,?_⟩
  rcases E.own with F | ⟨g,F,O⟩
  ·exact .inl F
  ·exact .inr ⟨g,F,Nat.le_trans r.size O⟩
theorem fZ.fn{w:World}{g o m c:Nat}{k:Nat -> Nat}{s:Nat -> Nat -> ByteArray}{b:Nat -> ByteArray}(h:fZ w (.slice (some ⟨g,o,none⟩) m c) m k s b)(h0:0<m):
  ∃u:Nat -> Value,∀i,i<m -> w.cell? ⟨g,o+i*2,none⟩=some (u i) /\ w.cell? ⟨g,o+i*2+1,none⟩=some (.string (b i)) /\ TS w (u i) (k i) (s i):=by
 obtain⟨g',C,e,t⟩:=h.at_ h0;simp only[Option.some.injEq,Addr.mk.injEq,and_true] at e;obtain⟨rfl,rfl⟩:=e
 exact⟨fun i=>if r:i<m then(t i r).choose else undef,fun i r=>by
  have:=(t i r).choose_spec;simp only[dif_pos r]
  exact this⟩
theorem MC{w w':World}{v:Value}{r:Nat}{k:Nat -> Nat}{s:Nat -> Nat -> ByteArray}{b:Nat -> ByteArray}{u:Nat -> Value}(C:w'.ownsRow 0 53 2 v r (Lh u b r))(h1:∀i,i<r -> TS w (u i) (k i) (s i))(O:Below w.heap.size w w'):fZ w' v r k s b:=by
 obtain⟨A,c,rfl,R,T⟩:=sP C;refine⟨A,c,rfl,R,T,?_⟩
 rcases Nat.eq_zero_or_pos r with h0 | h0
 ·exact .inl h0
 ·obtain⟨g,cap,cs,F,E,h⟩:=C9 C h0;simp only[Value.slice.injEq,true_and] at F;refine .inr ⟨g,0,F.1,fun i t=> ?_⟩;obtain⟨G,M⟩:=Ls (u:=u) (b:=b) t;exact⟨u i,by rw[Nat.zero_add];exact E.at_ _ (h _ _ G),by rw[Nat.zero_add];exact E.at_ _ (h _ _ M),(h1 i t).below O⟩
theorem ME{r n:Nat}{A A':Nat -> Nat -> Rat}{b b' a t:Nat -> Rat}{β:Rat}{z:Bool}(C:∀i,i<r -> ∀j,j<n -> A i j=A' i j)(F:∀i,i<r -> b i=b' i)(E:∀j,j<n -> a j=t j)(h:Ll r n A b a β z):Ll r n A' b' t β z:=by
 obtain⟨kk,q,x,y,d,G,M,e⟩:=h;exact⟨kk,q,x,y,d,G,Mj C F E M,e⟩
theorem MF{n m r i:Nat}{k:Nat -> Nat}{o:Nat -> ByteArray}{t:Nat -> Nat -> ByteArray}{b:Nat -> ByteArray}(h:fD n m k o t b=0)(U:i<m)(V:r <= m)(f:Nat -> Nat)(O:∀j,j<r -> f j<m):fD n r (fun j=>k (f j)) (t i) (fun j=>t (f j)) (fun j=>b (f j))=0:=by
 unfold fD at h ⊢;by_cases h1:96<n \/ 256<m
 ·rw[if_pos h1] at h;cases h
 ·rw[if_neg h1] at h;rw[if_neg oM];by_cases C:¬(∀i,i<m -> k i=n)
  ·rw[if_pos C] at h;cases h
  ·rw[if_neg C] at h;have R:=Decidable.not_not.1 C;rw[if_neg (fun x=>x (fun j G=>R _ (O j G)))];by_cases E:fo n (fun j=>sE (o j))≠0
   ·rw[if_pos E] at h;exact absurd h E
   ·rw[if_neg E] at h;have M:=kF.1 h
    have T:fo n (fun j=>sE (t i j))=0:=by
     have:=M i U;unfold iw at this;by_cases F:fo n (fun j=>sE (t i j))≠0
     ·rw[if_pos F] at this;exact absurd this F
     ·exact Decidable.not_not.1 F
    rw[T,if_neg (by simp)];exact kF.2 fun j G=>M _ (O j G)
def Mh(pv:Value)(w:World):Nat:=match pv with
 | .pointer (some a)=>(intOf ((w.cell? a).getD undef)+1).toNat
 | _=>0
theorem Mi{w:World}{r:Nat}{z:Int}(h: w.cell? ⟨r,0,none⟩=some (.int .i64 z)):Mh (.pointer (some ⟨r,0,none⟩)) w=(z+1).toNat:=by
 show(intOf ((w.cell? ⟨r,0,none⟩).getD undef)+1).toNat=_;rw[h];rfl
def Mf(w6 w:World)(A:Option Addr)(c gi m:Nat)(l:List Nat):Prop:=Li w (.slice A l.length c) l /\ (0<m -> ∃g,A=some ⟨g,0,none⟩ /\ w6.heap.size <= g /\ gi≠g /\ IB w g l.length (fun j=>l.getD j 0)) /\ l.length <= c /\ c <= maxLen
set_option maxRecDepth 100000 in
set_option maxHeartbeats 12800000 in
theorem MG(v:Int)(vr:Value)(m:Nat)(k:Nat -> Nat)(t:Nat -> Nat -> ByteArray)(b:Nat -> ByteArray)(w:World)(hr:TRA w vr m k t b)(hg:iG w)(ht:Tab w):
  Calls prog 11 #[.int .i64 v,vr] w fun e w'=>e= .returned (.bool true) /\ Below w.heap.size w w':=by
 obtain⟨AR,cR,rfl,bA,bz⟩:=hr.kG.shape;obtain⟨iI,bF,bJ,bK,bL⟩:=info_parts zn;have HR:=lH hr;have ai:=lH hg;have aC:=lH ht;clear hr hg ht bA bz;go_enter func11,ntmps11;go_wp2_with fail
 refine(pW _ ai.o aC.o).mono ?_;rintro e w1 ⟨rfl,C⟩;have F:=lH C;clear C;go_wp2_with fail
 refine(Cz 6 _ m k t b _ (HR.o.kG.below F.o)).mono ?_;rintro e w2 ⟨aw,C⟩;replace F:=bT F C;clear C
 rcases aw with ⟨aw,rfl⟩ | ⟨_,rfl⟩
 ·have a2:=lH aw.1;have a3:Hid (∀i,i<m -> rz (k i) (t i) (b i)):=lH (fun i R=>aw.2 i R);clear aw;have HF:Hid (RowsFit m k t b):=lH ⟨by have:=a2.o;omega,fun i R j Y=>by have:=(a3.o i R).2.1 j Y;omega,fun i R=>by have:=(a3.o i R).2.2;omega⟩;by_cases h6:v <= 6
  ·have hd:decide (6<v)=false:=decide_eq_false oM;have HV:Hid (jF v m k t b=0 -> v.toNat <= 6):=lH (fun _=>by omega);clear h6;go_wp2_with fail
   clear hd;refine(CF v AR m cR k t b _ (HR.o.kG.below F.o) HF.o).mono ?_;rintro e w3 ⟨hr,C⟩;replace F:=bT F C;clear C;obtain⟨AO,nO,cO,A4,m4,c4,rfl,hz⟩:=hr.cases;have aR:Hid (jF v m k t b=0 -> 0 <= v /\ fD v.toNat m k (fun _=>⟨#[48]⟩) t b=0):=lH (fun e=>⟨(hz e).2.2.2.2.2.1.1,(hz e).2.2.2.2.2.2⟩);clear hr hz;obtain⟨E,hE⟩:=eX (jF v m k t b);rw[<- hE];have HE:=lH hE;clear hE;obtain⟨w4,a9⟩:=eX (w3.alloc (.cells #[.slice AO nO cO, .slice A4 m4 c4] 25));obtain⟨gP,W⟩:=eX (w3.heap.size);have ao:Below w3.heap.size w3 w4:=by rw[a9];exact eD _ _
   have PB:Hid (Row w4 gP 25 [.slice AO nO cO, .slice A4 m4 c4]):=lH (by rw[a9,W];exact eP _ _);replace F:=bT F ao;clear ao PB
   go_upto_region 4 with (fail)
   rw[<- a9];clear a9 W;go_wp2_with fail
   refine(vX none AR 0 m 0 cR k (fun _=>⟨#[]⟩) t b _ ⟨⟨_,_,rfl,Nat.le_refl _,Nat.zero_le _, .inl rfl⟩, .inl ⟨rfl,rfl⟩⟩ (HR.o.below F.o) dC (by have:=a2.o;omega) (fun i R=>by have:=(a3.o i R).1;omega)).mono ?_;rintro e w5 ⟨vc,uc,rfl,au,af,C⟩;obtain⟨Av,cv,rfl,_,_⟩:=eY.shape au;clear au;replace F:=bT F C;clear C;obtain⟨aa,ad,rfl,_,_⟩:=af.shape;have an:=lH af.kG;clear af;have aW:∀w:World,(Instr.field 25 (.agg #[.slice Av 0 cv, .slice aa m ad]) 1).run prog w= .ok (.slice aa m ad) w:=fun _=>by kernel_rfl
   go_wp2_with fail
   clear aW;refine(Mo v aa m ad k t b 12 _ an.o HF.o dC dC (fun e r hr=>by have:=CO (show r <= 8 by have:=a2.o;omega) (HV.o e);omega) (fun i R=>(a3.o i R).2.1) (fun i R=>(a3.o i R).2.2) (ai.o.below F.o)).mono ?_;rintro e T ⟨⟨AL,nl,cL,yy,rfl,av⟩,C⟩;replace F:=bT F C;clear C;clear an;rw[<- HE.o] at av
   rcases av with ⟨h1,rfl,rfl,rfl,rfl⟩ | ⟨h1,rfl,A,bq,c,aZ,aY⟩
   ·have al:=lH h1;clear h1;have aV:((E:Nat):Int)≠0:=by have:=al.o;omega
    have bw:(((E:Nat):Int) !=0)=true:=by simpa using aV
    have bB:(E !=0)=true:=by have:=al.o;simpa using this
    have bx:(((E:Nat):Int)== ((E:Nat):Int))=true:=by simp
    go_wp2_with fail
    go_returns;exact⟨rfl,F.o⟩
   ·subst h1;have aA:=lH aZ;have bp:=lH aY;have b7:=lH (aR.o HE.o.symm).2;have bv:=lH (HV.o HE.o.symm);have b4:=lH (mo b7.o);clear aZ aY aR HE HV;have bO:((m:Nat):Int) <= 6:=by have:=a2.o;omega
    have G:Hid (Below T.heap.size T T):=lH (Below.refl _ _);go_wp2_with fail
    go_loopw [9,60] (fun kv iv wr=>∃ (q:Nat) (B:Option Addr) (d:Nat),q <= m /\ kv= .slice B q d /\ iv= .int .i64 q /\ Hid (eY wr (.slice B q d) 3 q (pQ fun j=>j)) /\ Hid (∀g,(Value.slice B q d).ownBlock=some g -> T.heap.size <= g) /\ Hid (Below T.heap.size T wr)) (fun _ iv _=>m-(intOf iv).toNat)
    case atStart=>exact⟨0,none,0,Nat.zero_le _,rfl,rfl,lH (eY.nil _ _ _),lH (fun g hg=>by simp[Value.ownBlock] at hg),G⟩
    case round=>
     clear G;obtain⟨q,B,d,hq,rfl,rfl,HO,a5,G⟩:=hrel;by_cases bR:((q:Nat):Int)<((m:Nat):Int)
     ·have bS:q<m:=oM
      go_wp2_with (at_builtin;(refine wpList_plain rfl fun K hK=>qO _ (.tmp 63) (.tmp 65) 76 rfl 3 iI (.int .i64 0) 8 underlying76 bF bJ bK bL rfl (.slice B q d) q _ rfl HO.o (.int .i64 (q:Nat)) rfl rfl rfl ⟨by unfold maxLen;omega,by omega⟩ ?_))
      intro va w7 ho ht;obtain⟨B2,d2,rfl,_,_⟩:=eY.shape ho;have ap:=ht.below (B:=T.heap.size) G.o.size a5.o;have ar:=ht.base G.o.size a5.o;have aQ:=lH ho;replace G:=lH (G.o.trans ap);have aP:=lH ar;clear ap ar ho ht HO a5;refine hK _ _ ?_;go_wp2_with fail
      go_roundw
      case rel=>exact⟨q+1,B2,d2,by omega,rfl,by go_num,aQ,aP,G⟩
      case measure=>exact mZ
     ·obtain rfl:m=q:=oM
      have b5:Hid (∀ (wz:World) (gz:Nat),Below wr.heap.size wr wz -> gz=wr.heap.size -> Mf T wz B d gz m (List.range m)):=lH (fun wz gz bb bE=>by
       obtain⟨xs,bI,bQ⟩:=HO.o;have hl:(List.range m).length=m:=List.length_range;obtain⟨_,_,e1,h1,h2⟩:=sP bI;simp only[Value.slice.injEq] at e1;obtain⟨rfl,_,rfl⟩:=e1
       have R:Li wr (.slice B m d) (List.range m):=by
        have h3:eY wr (.slice B m d) 3 (List.range m).length (pQ fun j=>(List.range m).getD j 0):=by
         rw[hl];exact eY.congr HO.o (fun j Y u hu=>by show u=Value.int .i64 (((List.range m).getD j 0:Nat):Int);rw[List.getD_eq_getElem?_getD,List.getElem?_range Y];exact hu)
        exact h3.ints
       refine⟨by rw[hl];exact R.below bb,fun h0=> ?_,by rw[hl];exact h1,h2⟩;obtain⟨g,rfl,a4⟩:=R.at_ (by rw[hl];exact h0)
       exact⟨g,rfl,a5.o g rfl,by rw[bE];exact(Nat.ne_of_lt a4.lt).symm,a4.below bb⟩)
      clear HO a5;obtain⟨w7,aH⟩:=eX (wr.alloc (.cells #[.int .i64 ((m:Int)-1)] 3));obtain⟨gi,aq⟩:=eX (wr.heap.size);have C:Below wr.heap.size wr w7:=by rw[aH];exact eD _ _
      have M:Hid (Row w7 gi 3 [.int .i64 ((m:Int)-1)]):=lH (by rw[aH,aq];exact eP _ _);have aL:Hid (T.heap.size <= gi):=lH (by rw[aq];exact G.o.size);have a0:=lH (b5.o w7 gi C aq);replace G:=lH (G.o.trans (C.mono G.o.size));clear C b5;go_wp2_with fail
      rw[<- aH, <- aq];clear aH aq
      go_loopw [9,11] (fun kv pv ws=>∃ (q:Nat) (l:List Nat) (A1:Option Addr) (c1 gi:Nat),q <= m /\ kv= .slice A1 l.length c1 /\ pv= .pointer (some ⟨gi,0,none⟩) /\ Hid (Row ws gi 3 [.int .i64 ((q:Int)-1)]) /\ Hid (T.heap.size <= gi) /\ Hid (Mf T ws A1 c1 gi m l) /\ Hid (∀x,x ∈ l -> x<m) /\ Hid (l.length <= m) /\ Hid (Me v.toNat A bq q l=Me v.toNat A bq m (List.range m)) /\ Hid (Below T.heap.size T ws)) (fun _ pv ws=>Mh pv ws)
      case atStart=>exact⟨m,List.range m,B,d,gi,Nat.le_refl _,by rw[List.length_range],rfl,M,aL,a0,lH (fun x hx=>List.mem_range.1 hx),lH (by rw[List.length_range];exact Nat.le_refl _),lH rfl,G⟩
      case round=>
       clear M aL a0 G;obtain⟨q,l,A1,c1,gi,hq,rfl,rfl,M,aL,a0,HX,ac,aS,G⟩:=hrel;by_cases bH:(0:Int) <= (q:Int)-1
       ·obtain⟨p,rfl⟩:∃p,q=p+1:=⟨q-1,by omega⟩
        have V:Hid (p<m):=lH oM;replace M:Hid (Row wr gi 3 [.int .i64 (p:Nat)]):=lH (by have h:=M.o;rw[show((p+1:Nat):Int)-1=(p:Int) by omega] at h;exact h);clear bH hq;have bP:((p:Nat):Int) <= 6:=by have:=V.o;have:=a2.o;omega
        have b8:=lH (HR.o.kG.below (F.o.trans (G.o.mono F.o.size)));obtain⟨gR,oR,rfl,_⟩:=b8.o.at_ (by have:=V.o;omega);obtain⟨uf,bi⟩:=b8.o.fn (by have:=V.o;omega);have aD:=lH bi;clear bi;have a6:=aI 0 M;have a7:=M.o.lt;go_wp2_with fail
        clear a6 a7;obtain⟨wO,rfl⟩:=eX (wr);have b6:Hid (Mh (.pointer (some ⟨gi,0,none⟩)) wO=p+1):=lH (by rw[Mi (M.o.at_ 0 rfl)];omega)
        go_loopw [12,77] (fun ov iv ws=>∃ (s r:Nat) (B:Option Addr) (d:Nat),s <= l.length /\ ov= .slice B r d /\ iv= .int .i64 s /\ Hid (r=(wo (l.take s) p).length) /\ Hid (ws.ownsRow 0 53 2 (.slice B r d) r (Lh (fun j=>uf ((wo l p).getD j 0)) (fun j=>b ((wo l p).getD j 0)) r)) /\ Hid (∀g,(Value.slice B r d).ownBlock=some g -> wO.heap.size <= g) /\ Hid (Below wO.heap.size wO ws)) (fun _ iv _=>l.length-(intOf iv).toNat)
        case atStart=>exact⟨0,0,none,0,Nat.zero_le _,rfl,rfl,lH rfl,lH (World.ownsRow_nil _ _ _ _),lH (fun g hg=>by simp[Value.ownBlock] at hg),lH (Below.refl _ _)⟩
        case round=>
         obtain⟨s,r,B,d,hs,rfl,rfl,aj,HO,a5,O⟩:=hrel;by_cases bX:((s:Nat):Int)<((l.length:Nat):Int)
         ·have bg:s<l.length:=oM
          obtain⟨y,hy⟩:∃y,l[s]? =some y:=⟨_,List.getElem?_eq_getElem bg⟩
          have HY:=lH hy;have bk:y<m:=HX.o y (List.mem_of_getElem? hy);have bW:((s:Nat):Int) <= 6:=by have:=ac.o;have:=a2.o;omega
          obtain⟨gK,bC,a4⟩:=a0.o.1.at_ oM;subst bC;have kc:=(a4.below O.o).at_ bg;rw[List.getD_eq_getElem?_getD,hy] at kc;have b0:=kc;have bm:=eG kc;have gk:=cell_below O.o (M.o.at_ 0 rfl);have gl:=eG gk;obtain⟨ak,ax,_⟩:=aD.o y bk;have u1:=cell_below O.o ak;have u2:=cell_below O.o ax;have ul:=eG u1;have bU:r <= 1000000000:=by have:=aj.o;have:=Lu (l.take s) p;have:=List.length_take_le s l;have:=ac.o;have:=a2.o;omega
          have bl:((y:Nat):Int)<((m:Nat):Int):=oM
          clear a4 kc hy ak ax;simp only[Option.getD_some] at b0;by_cases ah:y=p
          ·have aE:=lH ah;have hd:(y !=p)=false:=by simpa using ah
           have ae:((y:Int) != (p:Int))=false:=by simp[ah]
           clear ah;go_wp2_with fail
           clear b0 bm gk gl u1 u2 ul hd ae bl;go_roundw
           case rel=>exact⟨s+1,r,B,d,by omega,rfl,by go_num,lH (by rw[aj.o,Lt HY.o,if_pos aE.o,List.append_nil]),HO,a5,O⟩
           case measure=>exact mZ
          ·have aE:=lH ah;have hd:(y !=p)=true:=by simpa using ah
           have ae:((y:Int) != (p:Int))=true:=by simp;omega
           clear ah;have bn:Hid ((wo l p).getD r 0=y):=lH (by rw[aj.o];exact LF HY.o aE.o);have br:Hid ((uf y).oneCell'=true):=lH (by obtain⟨_,_,ag⟩:=aD.o y bk;obtain⟨Z,z,e,_⟩:=ag.shape;rw[e];rfl)
           go_wp2_with (at_builtin;(refine wpList_plain rfl fun K hK=>MB _ (.tmp 84) (.tmp 89) rfl (.slice B r d) r _ rfl HO.o (uf y) (.string (b y)) br.o rfl rfl oM ?_))
           intro va w9 ho ht;obtain⟨B2,d2,rfl,_,_⟩:=sP ho;have ap:=ht.below (B:=wO.heap.size) O.o.size a5.o;have ar:=ht.base O.o.size a5.o;have aQ:Hid (w9.ownsRow 0 53 2 (.slice B2 (r+1) d2) (r+1) (Lh (fun j=>uf ((wo l p).getD j 0)) (fun j=>b ((wo l p).getD j 0)) (r+1))):=lH (by rw[Lh,bn.o];exact ho);replace O:=lH (O.o.trans ap);have aP:=lH ar;clear ap ar ho ht HO a5 b0 bm gk gl u1 u2 ul hd ae bl;refine hK _ _ ?_;go_wp2_with fail
           go_roundw
           case rel=>exact⟨s+1,r+1,B2,d2,by omega,rfl,by go_num,lH (by rw[Lt HY.o,if_neg aE.o,List.length_append, <- aj.o];rfl),aQ,aP,O⟩
           case measure=>exact mZ
         ·have bh:s=l.length:=oM
          have aB:Hid (r=(wo l p).length):=lH (by rw[aj.o,bh,List.take_length]);clear bh hs aj;have gk:=cell_below O.o (M.o.at_ 0 rfl);have gl:=eG gk;obtain⟨ak,ax,ag⟩:=aD.o p V.o;rw[show k p=v.toNat from b4.o.2.2.1 p V.o] at ag;obtain⟨X,xc,bj,_,_⟩:=ag.shape;rw[bj] at ag ak;have b9:=lH (ag.below O.o);have u1:=cell_below O.o ak;have u2:=cell_below O.o ax;have ul:=eG u1;have bG:((p:Nat):Int)<((m:Nat):Int):=by have:=V.o;omega
          clear ak ax ag bj;go_wp2_with fail
          clear gk gl u1 u2 ul bG;have ab:Hid (∀j,j<r -> (wo l p).getD j 0<m):=lH (fun j Y=>HX.o _ (LG (by rw[List.getD_eq_getElem?_getD,List.getElem?_eq_getElem (by rw[<- aB.o];exact Y)];exact List.getElem_mem _)).1);have aT:Hid (r <= m):=lH (by rw[aB.o];exact Nat.le_trans (Lu l p) ac.o);have aU:Hid (fZ wr (.slice B r d) r (fun j=>k ((wo l p).getD j 0)) (fun j=>t ((wo l p).getD j 0)) (fun j=>b ((wo l p).getD j 0))):=lH (MC HO.o (fun j Y=>(aD.o _ (ab.o j Y)).2.2) O.o);have bo:Hid (b p=eF (bq p)):=lH (jE (aA.o.bounds p V.o));have aK:Hid (Below w.heap.size w wr):=lH (F.o.trans ((G.o.trans (O.o.mono G.o.size)).mono F.o.size));obtain⟨B3,d3,e3,_,_⟩:=aU.o.shape;simp only[Value.slice.injEq,true_and] at e3
          skip
          refine(M0 X B v.toNat xc r d (t p) (b p) (fun j=>k ((wo l p).getD j 0)) (fun j=>t ((wo l p).getD j 0)) (fun j=>b ((wo l p).getD j 0)) (bq p) _ b9.o aU.o (MF b7.o V.o aT.o (fun j=>(wo l p).getD j 0) ab.o) bo.o (a3.o p V.o).2.2 bv.o (by have:=aT.o;have:=a2.o;omega) (fun j Y=>(a3.o p V.o).2.1 j (by rw[b4.o.2.2.1 p V.o];exact Y)) (fun i R j Y=>(a3.o _ (ab.o i R)).2.1 j Y) (fun i R=>(a3.o _ (ab.o i R)).2.2) (ai.o.below aK.o) (aC.o.below aK.o)).mono ?_;rintro e ay ⟨z,rfl,⟨A2,bM,c2,aG,bc⟩,C⟩;replace O:=lH (O.o.trans (C.mono O.o.size));clear C b9 aU aK;have b1:Hid (Mg v.toNat A bq p (wo l p)↔z=true):=lH (Mk (by rw[<- aB.o];exact ME (fun j Y cc hc=>lq (aG.rows j Y cc hc) (aA.o.rows _ (ab.o j Y) cc hc)) (fun j Y=>lq (aG.bounds j Y) (aA.o.bounds _ (ab.o j Y))) (fun cc hc=>lq (aG.obj cc hc) (aA.o.rows p V.o cc hc)) bc));clear aG bc;replace a0:Hid (Mf T ay A1 c1 gi m l):=lH (by obtain⟨h1,h2,h3,h4⟩:=a0.o;exact⟨h1.below O.o,fun h0=>by obtain⟨g,e1,e2,e3,e4⟩:=h2 h0;exact⟨g,e1,e2,e3,e4.below O.o⟩,h3,h4⟩);replace M:=lH (M.o.below O.o M.o.lt);replace G:=lH (G.o.trans (O.o.mono G.o.size));clear O HO a5 aB ab aT;cases z
          ·have a6:=aI 0 M;have a7:=M.o.lt
           go_upto_region 28 with (fail)
           clear a6 a7;have a6:=aI 0 M;have a7:=M.o.lt;obtain⟨a1,a8⟩:=eX (ay.alloc (.cells #[.int .i64 (p:Nat)] 3));obtain⟨U,W⟩:=eX (ay.heap.size);have C:Below ay.heap.size ay a1:=by rw[a8];exact eD _ _
           have G2:Hid (Row a1 U 3 [.int .i64 (p:Nat)]):=lH (by rw[a8,W];exact eP _ _);have am:Hid (T.heap.size <= U):=lH (by rw[W];exact G.o.size);have aN:Hid (Mf T a1 A1 c1 U m l):=lH (by obtain⟨h1,h2,h3,h4⟩:=a0.o;exact⟨h1.below C,fun h0=>by obtain⟨g,e1,e2,e3,e4⟩:=h2 h0;exact⟨g,e1,e2,by rw[W];exact(Nat.ne_of_lt e4.lt).symm,e4.below C⟩,h3,h4⟩);replace G:=lH (G.o.trans (C.mono G.o.size));clear C a0
           go_upto_region 15 with (fail)
           rw[<- a8, <- W];clear a8 W a6 a7;have k0:=aI 0 G2;have f0:=G2.o.free 0;have l0:=G2.o.lt;go_wp2_with fail
           clear k0 f0 l0;have hg:World.grownBy a1 (a1.setCell ⟨U,0,none⟩ (.int .i64 ((p:Int)-1))) (some U):=grownBy_set _ _ _ _;have GN:Row (a1.setCell ⟨U,0,none⟩ (.int .i64 ((p:Int)-1))) U 3 [.int .i64 ((p:Int)-1)]:=G2.o.set 0 (.int .i64 ((p:Int)-1))
           have aO:Mf T (a1.setCell ⟨U,0,none⟩ (.int .i64 ((p:Int)-1))) A1 c1 U m l:=by
            obtain⟨h1,h2,h3,h4⟩:=aN.o;obtain⟨g,e1,e2,e3,e4⟩:=h2 (by have:=V.o;omega);have e5:=e4.other hg (fun e=>e3 e.symm);subst e1;refine⟨⟨_,_,rfl,h3,h4, .inr ⟨g,rfl,e5⟩⟩,fun h0=>⟨g,rfl,e2,e3,e5⟩,h3,h4⟩
           have aJ:=G.o.grown hg G.o.size (by have:=am.o;first | (simp;done) | (simp;omega));go_roundw
           case rel=>exact⟨p,l,A1,c1,U,by have:=V.o;omega,rfl,rfl,lH GN,am,lH aO,HX,ac,lH (by rw[<- Mm (fun h=>by have:=b1.o.1 h;cases this)];exact aS.o),lH aJ⟩
           case measure=>
            first | (rw[Mi (z:=(p:Int)-1) (GN.at_ 0 rfl),b6.o];omega) | trace_state
          ·obtain⟨g,hA1,bd,be,a4⟩:=a0.o.2.1 (by have:=V.o;omega);subst hA1;have b3:=lH a4;have b2:=lH bd;have aM:=lH be;clear a4 bd be;have a6:=aI 0 M;have a7:=M.o.lt;go_wp2_with fail
           clear a6 a7;refine(Mw g c1 gi p l _ b3.o a0.o.2.2.1 (by have:=ac.o;have:=a2.o;omega) (M.o.at_ 0 rfl) aM.o).mono ?_;rintro e az ⟨rfl,a4,aX⟩;replace M:=lH (M.o.other aX aM.o);replace G:=lH (G.o.grown aX G.o.size (by have:=b2.o;first | (simp;done) | (simp;omega)));have ba:Hid ((wo l p).length <= l.length):=lH (Lu l p);replace a0:Hid (Mf T az (some ⟨g,0,none⟩) c1 gi m (wo l p)):=lH (by obtain⟨_,_,h3,h4⟩:=a0.o;have h5:=ba.o;exact⟨⟨_,_,rfl,by omega,h4, .inr ⟨g,rfl,a4⟩⟩,fun _=>⟨g,rfl,b2.o,aM.o,a4⟩,by omega,h4⟩);clear a4 aX b3
           go_upto_region 28 with (fail)
           have a6:=aI 0 M;have a7:=M.o.lt;obtain⟨a1,a8⟩:=eX (az.alloc (.cells #[.int .i64 (p:Nat)] 3));obtain⟨U,W⟩:=eX (az.heap.size);have C:Below az.heap.size az a1:=by rw[a8];exact eD _ _
           have G2:Hid (Row a1 U 3 [.int .i64 (p:Nat)]):=lH (by rw[a8,W];exact eP _ _);have am:Hid (T.heap.size <= U):=lH (by rw[W];exact G.o.size);have aN:Hid (Mf T a1 (some ⟨g,0,none⟩) c1 U m (wo l p)):=lH (by obtain⟨h1,h2,h3,h4⟩:=a0.o;exact⟨h1.below C,fun h0=>by obtain⟨g,e1,e2,e3,e4⟩:=h2 h0;exact⟨g,e1,e2,by rw[W];exact(Nat.ne_of_lt e4.lt).symm,e4.below C⟩,h3,h4⟩);replace G:=lH (G.o.trans (C.mono G.o.size));clear C a0
           go_upto_region 15 with (fail)
           rw[<- a8, <- W];clear a8 W a6 a7;have k0:=aI 0 G2;have f0:=G2.o.free 0;have l0:=G2.o.lt;go_wp2_with fail
           clear k0 f0 l0;have hg:World.grownBy a1 (a1.setCell ⟨U,0,none⟩ (.int .i64 ((p:Int)-1))) (some U):=grownBy_set _ _ _ _;have GN:Row (a1.setCell ⟨U,0,none⟩ (.int .i64 ((p:Int)-1))) U 3 [.int .i64 ((p:Int)-1)]:=G2.o.set 0 (.int .i64 ((p:Int)-1))
           have aO:Mf T (a1.setCell ⟨U,0,none⟩ (.int .i64 ((p:Int)-1))) (some ⟨g,0,none⟩) c1 U m (wo l p):=by
            obtain⟨h1,h2,h3,h4⟩:=aN.o;obtain⟨g_,e1,e2,e3,e4⟩:=h2 (by have:=V.o;omega);have e5:=e4.other hg (fun e=>e3 e.symm);have eg:g_=g:=by simpa using e1.symm
            rw[eg] at e2 e3 e5;refine⟨⟨_,_,rfl,h3,h4, .inr ⟨g,rfl,e5⟩⟩,fun h0=>⟨g,rfl,e2,e3,e5⟩,h3,h4⟩
           have aJ:=G.o.grown hg G.o.size (by have:=am.o;first | (simp;done) | (simp;omega));go_roundw
           case rel=>exact⟨p,wo l p,some ⟨g,0,none⟩,c1,U,by have:=V.o;omega,rfl,rfl,lH GN,am,lH aO,lH (fun x hx=>HX.o x (LG hx).1),lH (Nat.le_trans ba.o ac.o),lH (by rw[<- Ml (b1.o.2 (by first | rfl | trivial))];exact aS.o),lH aJ⟩
           case measure=>
            first | (rw[Mi (z:=(p:Int)-1) (GN.at_ 0 rfl),b6.o];omega) | trace_state
       ·have bf:q=0:=oM
        have bs:Hid (l=Me v.toNat A bq m (List.range m)):=lH (by rw[<- aS.o,bf];rfl);clear bf;have a6:=aI 0 M;have a7:=M.o.lt;go_wp2_with fail
        clear a6 a7;refine(Mx _ _ l _ (by have h:=bp.o.below G.o;rw[<- bs.o] at h;exact h) a0.o.1 (by have:=ac.o;have:=a2.o;omega)).mono ?_;rintro e bY ⟨rfl,C⟩;replace G:=lH (G.o.trans (C.mono G.o.size));clear C;go_wp2_with fail
        go_returns;exact⟨rfl,F.o.trans (G.o.mono F.o.size)⟩
  ·by_cases aF:v <= 96
   ·have hd:decide (6<v)=true:=decide_eq_true oM;have ae:decide (v <= 96)=true:=decide_eq_true aF;clear h6 aF;go_wp2_with fail
    clear hd ae;refine(pW _ (ai.o.below F.o) (aC.o.below F.o)).mono ?_;rintro e wk ⟨rfl,C⟩;replace F:=bT F C;clear C;go_wp2_with fail
    go_returns;exact⟨rfl,F.o⟩
   ·have hd:decide (6<v)=true:=decide_eq_true oM;have ae:decide (v <= 96)=false:=decide_eq_false aF;have HV:Hid (jF v m k t b=0 -> v.toNat <= 6):=lH (fun e=>by unfold jF at e;rw[if_pos oM] at e;cases e);have bu:Hid (96<v):=lH oM;clear h6 aF;go_wp2_with fail
    clear hd ae;refine(CF v AR m cR k t b _ (HR.o.kG.below F.o) HF.o).mono ?_;rintro e w3 ⟨hr,C⟩;replace F:=bT F C;clear C;obtain⟨AO,nO,cO,A4,m4,c4,rfl,hz⟩:=hr.cases;have aR:Hid (jF v m k t b=0 -> 0 <= v /\ fD v.toNat m k (fun _=>⟨#[48]⟩) t b=0):=lH (fun e=>⟨(hz e).2.2.2.2.2.1.1,(hz e).2.2.2.2.2.2⟩);clear hr hz;obtain⟨E,hE⟩:=eX (jF v m k t b);rw[<- hE];have HE:=lH hE;clear hE;obtain⟨w4,a9⟩:=eX (w3.alloc (.cells #[.slice AO nO cO, .slice A4 m4 c4] 25));obtain⟨gP,W⟩:=eX (w3.heap.size);have ao:Below w3.heap.size w3 w4:=by rw[a9];exact eD _ _
    have PB:Hid (Row w4 gP 25 [.slice AO nO cO, .slice A4 m4 c4]):=lH (by rw[a9,W];exact eP _ _);replace F:=bT F ao;clear ao PB
    go_upto_region 4 with (fail)
    rw[<- a9];clear a9 W;go_wp2_with fail
    refine(vX none AR 0 m 0 cR k (fun _=>⟨#[]⟩) t b _ ⟨⟨_,_,rfl,Nat.le_refl _,Nat.zero_le _, .inl rfl⟩, .inl ⟨rfl,rfl⟩⟩ (HR.o.below F.o) dC (by have:=a2.o;omega) (fun i R=>by have:=(a3.o i R).1;omega)).mono ?_;rintro e w5 ⟨vc,uc,rfl,au,af,C⟩;obtain⟨Av,cv,rfl,_,_⟩:=eY.shape au;clear au;replace F:=bT F C;clear C;obtain⟨aa,ad,rfl,_,_⟩:=af.shape;have an:=lH af.kG;clear af;have aW:∀w:World,(Instr.field 25 (.agg #[.slice Av 0 cv, .slice aa m ad]) 1).run prog w= .ok (.slice aa m ad) w:=fun _=>by kernel_rfl
    go_wp2_with fail
    clear aW;refine(Mo v aa m ad k t b 12 _ an.o HF.o dC dC (fun e r hr=>by have:=CO (show r <= 8 by have:=a2.o;omega) (HV.o e);omega) (fun i R=>(a3.o i R).2.1) (fun i R=>(a3.o i R).2.2) (ai.o.below F.o)).mono ?_;rintro e T ⟨⟨AL,nl,cL,yy,rfl,av⟩,C⟩;replace F:=bT F C;clear C;clear an;rw[<- HE.o] at av
    rcases av with ⟨h1,rfl,rfl,rfl,rfl⟩ | ⟨h1,rfl,A,bq,c,aZ,aY⟩
    ·have al:=lH h1;clear h1;have aV:((E:Nat):Int)≠0:=by have:=al.o;omega
     have bw:(((E:Nat):Int) !=0)=true:=by simpa using aV
     have bB:(E !=0)=true:=by have:=al.o;simpa using this
     have bx:(((E:Nat):Int)== ((E:Nat):Int))=true:=by simp
     go_wp2_with fail
     go_returns;exact⟨rfl,F.o⟩
    ·exact absurd (HE.o.symm.trans h1) (by unfold jF;rw[if_pos (by have:=bu.o;omega)];decide)
 ·go_wp2_with fail
  refine(pW _ (ai.o.below F.o) (aC.o.below F.o)).mono ?_;rintro e wk ⟨rfl,C⟩;replace F:=bT F C;clear C;go_wp2_with fail
  go_returns;exact⟨rfl,F.o⟩
end Go.Proofs.YtdefghfjhgmpfaaGreatDoor
