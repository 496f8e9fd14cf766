/- Parts of this proof: Exam Copied FrameR BegM. -/
import Derived.Test.YtdefghfjhgmpfaaGreatDoorQBI
import Derived.Test.YtdefghfjhgmpfaaGreatDoorQAU
import Derived.Test.YtdefghfjhgmpfaaGreatDoorQAE
import Derived.Test.YtdefghfjhgmpfaaGreatDoorQAY
import Derived.Test.YtdefghfjhgmpfaaGreatDoorQBJ
import Derived.Test.YtdefghfjhgmpfaaGreatDoorQAZ
import Derived.Deep.SlicePairs
import Derived.Test.YtdefghfjhgmpfaaGreatDoorQAS
namespace Go.Proofs.YtdefghfjhgmpfaaGreatDoor
section
open Go.RowKit
open Lp (RL upd Dict)
def exO:List ByteArray:=[⟨#[49]⟩,⟨#[49]⟩]
def exR:RowL:=[([⟨#[49]⟩,⟨#[48]⟩],⟨#[50]⟩),([⟨#[48]⟩,⟨#[49]⟩],⟨#[51]⟩),([⟨#[49]⟩,⟨#[49]⟩],⟨#[52]⟩)]
set_option maxRecDepth 100000 in
set_option maxHeartbeats 1600000 in
theorem row_walk(b:ByteArray)(A:Option Addr)(n c:Nat)(w:World):
  Calls Tryz.prog 42 #[.string b, .slice A n c] w fun e w'=>e= .returned (.agg #[.slice A n c, .string b]) /\ Below w.heap.size w w':=by
 obtain⟨W,hW,RO,HB⟩:=eN1 w [.slice none 0 0, .string ⟨#[]⟩] 53;go_enter Tryz.func42,Tryz.ntmps42;obtain⟨r0,f0,r1,f1⟩:=aF2 RO.out;have rl:=RO.out.lt;rw[hW] at r0 r1 f0 f1 rl;go_wp2_with fail
 clear hW r0 r1 f0 f1 rl;have RE:Row (w.alloc (.cells #[.slice A n c, .string b] 53)) w.heap.size 53 [.slice A n c, .string b]:=heap_new _ _;have hbe:=below_new w (.cells #[.slice A n c, .string b] 53);obtain⟨wE,hwE⟩:=eX (w.alloc (.cells #[.slice A n c, .string b] 53));rw[<- hwE] at RE hbe ⊢;have k0:=RE.at_ 0 rfl;have k1:=RE.at_ 1 rfl;refine bodyPost_ret (v:= .agg #[.slice A n c, .string b]) (by simp[results,Tryz.results42,go_sem,k0,k1]) rfl ?_;exact⟨rfl,hbe⟩
set_option maxRecDepth 100000 in
set_option maxHeartbeats 6400000 in
theorem example_walk(w:World):
  Calls Tryz.prog 57 #[] w fun e w'=>∃go gr,e= .returned (.agg #[.slice (some ⟨go,0,none⟩) 2 2, .slice (some ⟨gr,0,none⟩) 3 3]) /\ TS w' (.slice (some ⟨go,0,none⟩) 2 2) 2 (lst exO) /\ TRows w' (.slice (some ⟨gr,0,none⟩) 3 3) 3 (rwK exR) (rwT exR) (rwB exR) /\ w.heap.size <= gr /\ Below w.heap.size w w':=by
 obtain⟨W,hW,RO,HB⟩:=eN1 w [.slice none 0 0, .slice none 0 0] 25;go_enter Tryz.func57,Tryz.ntmps57;go_wp2_with fail
 obtain⟨w2,hw2⟩:=eX (((w.alloc (.cells #[.slice none 0 0, .slice none 0 0] 25)).alloc (.cells #[.string ⟨#[49]⟩, .string ⟨#[49]⟩] 30)).alloc (.cells #[.string ⟨#[49]⟩, .string ⟨#[48]⟩] 30));obtain⟨q0,q1,q2,qs,qb⟩:=boxes3 w (.cells #[.slice none 0 0, .slice none 0 0] 25) (.cells #[.string ⟨#[49]⟩, .string ⟨#[49]⟩] 30) (.cells #[.string ⟨#[49]⟩, .string ⟨#[48]⟩] 30);rw[<- hw2] at q0 q1 q2 qs qb ⊢;clear hw2 hW RO HB;obtain⟨b2,hb2⟩:=eX (w.heap.size+1+1);obtain⟨b1,hb1⟩:=eX (w.heap.size+1);rw[show w.heap.size+2=b2 from hb2.symm] at q2;rw[<- hb1] at q1;rw[<- hb2, <- hb1];have h1:w.heap.size<b1:=by omega
 have h2:w.heap.size<b2:=by omega
 clear hb1 hb2 qs;have RO:Row w2 w.heap.size 25 [.slice none 0 0, .slice none 0 0]:=q0;have Q1:Row w2 b1 30 [.string ⟨#[49]⟩, .string ⟨#[49]⟩]:=q1;have Q2:Row w2 b2 30 [.string ⟨#[49]⟩, .string ⟨#[48]⟩]:=q2;have HB:=lH qb;clear q0 q1 q2 qb;replace RO:=lH RO;replace Q1:=lH Q1;replace Q2:=lH Q2;have h1:=lH h1;have h2:=lH h2;refine(row_walk _ _ 2 2 _).mono ?_;rintro e w3 ⟨rfl,hb⟩;replace RO:=RO.out;replace Q1:=Q1.out;replace Q2:=Q2.out;replace RO:=RO.below hb RO.lt;replace Q1:=Q1.below hb Q1.lt;replace Q2:=Q2.below hb Q2.lt;replace HB:=bT HB hb;clear hb;replace RO:=lH RO;replace Q1:=lH Q1;replace Q2:=lH Q2;go_wp2_with fail
 obtain⟨w4,hw⟩:=eX (w3.alloc (.cells #[.string ⟨#[48]⟩, .string ⟨#[49]⟩] 30));obtain⟨b3,hbk⟩:=eX (w3.heap.size);have hb:Below w3.heap.size w3 w4:=by rw[hw];exact below_new _ _
 have Q3:Row w4 b3 30 [.string ⟨#[48]⟩, .string ⟨#[49]⟩]:=by rw[hw,hbk];exact heap_new _ _
 have h3:Hid (w.heap.size<b3):=lH (by rw[hbk];exact RO.out.lt);rw[<- hw, <- hbk];clear hw hbk;replace RO:=RO.out;replace Q1:=Q1.out;replace Q2:=Q2.out;replace RO:=RO.below hb RO.lt;replace Q1:=Q1.below hb Q1.lt;replace Q2:=Q2.below hb Q2.lt;replace HB:=bT HB hb;clear hb;replace RO:=lH RO;replace Q1:=lH Q1;replace Q2:=lH Q2;replace Q3:=lH Q3;refine(row_walk _ _ 2 2 _).mono ?_;rintro e w5 ⟨rfl,hb⟩;replace RO:=RO.out;replace Q1:=Q1.out;replace Q2:=Q2.out;replace Q3:=Q3.out;replace RO:=RO.below hb RO.lt;replace Q1:=Q1.below hb Q1.lt;replace Q2:=Q2.below hb Q2.lt;replace Q3:=Q3.below hb Q3.lt;replace HB:=bT HB hb;clear hb;replace RO:=lH RO;replace Q1:=lH Q1;replace Q2:=lH Q2;replace Q3:=lH Q3;go_wp2_with fail
 obtain⟨w6,hw⟩:=eX (w5.alloc (.cells #[.string ⟨#[49]⟩, .string ⟨#[49]⟩] 30));obtain⟨b4,hbk⟩:=eX (w5.heap.size);have hb:Below w5.heap.size w5 w6:=by rw[hw];exact below_new _ _
 have Q4:Row w6 b4 30 [.string ⟨#[49]⟩, .string ⟨#[49]⟩]:=by rw[hw,hbk];exact heap_new _ _
 have h4:Hid (w.heap.size<b4):=lH (by rw[hbk];exact RO.out.lt);rw[<- hw, <- hbk];clear hw hbk;replace RO:=RO.out;replace Q1:=Q1.out;replace Q2:=Q2.out;replace Q3:=Q3.out;replace RO:=RO.below hb RO.lt;replace Q1:=Q1.below hb Q1.lt;replace Q2:=Q2.below hb Q2.lt;replace Q3:=Q3.below hb Q3.lt;replace HB:=bT HB hb;clear hb;replace RO:=lH RO;replace Q1:=lH Q1;replace Q2:=lH Q2;replace Q3:=lH Q3;replace Q4:=lH Q4;refine(row_walk _ _ 2 2 _).mono ?_;rintro e w7 ⟨rfl,hb⟩;replace RO:=RO.out;replace Q1:=Q1.out;replace Q2:=Q2.out;replace Q3:=Q3.out;replace Q4:=Q4.out;replace RO:=RO.below hb RO.lt;replace Q1:=Q1.below hb Q1.lt;replace Q2:=Q2.below hb Q2.lt;replace Q3:=Q3.below hb Q3.lt;replace Q4:=Q4.below hb Q4.lt;replace HB:=bT HB hb;clear hb;replace RO:=lH RO;replace Q1:=lH Q1;replace Q2:=lH Q2;replace Q3:=lH Q3;replace Q4:=lH Q4;obtain⟨wA,hw⟩:=eX (w7.alloc (.cells #[.slice (some ⟨b2,0,none⟩) 2 2, .string ⟨#[50]⟩, .slice (some ⟨b3,0,none⟩) 2 2, .string ⟨#[51]⟩, .slice (some ⟨b4,0,none⟩) 2 2, .string ⟨#[52]⟩] 53));obtain⟨b5,hbk⟩:=eX (w7.heap.size);have hb:Below w7.heap.size w7 wA:=by rw[hw];exact below_new _ _
 have Q5:Row wA b5 53 [.slice (some ⟨b2,0,none⟩) 2 2, .string ⟨#[50]⟩, .slice (some ⟨b3,0,none⟩) 2 2, .string ⟨#[51]⟩, .slice (some ⟨b4,0,none⟩) 2 2, .string ⟨#[52]⟩]:=by rw[hw,hbk];exact heap_new _ _
 have h5:Hid (w.heap.size<b5):=lH (by rw[hbk];exact RO.out.lt);replace RO:=RO.out;replace Q1:=Q1.out;replace Q2:=Q2.out;replace Q3:=Q3.out;replace Q4:=Q4.out;replace RO:=RO.below hb RO.lt;replace Q1:=Q1.below hb Q1.lt;replace Q2:=Q2.below hb Q2.lt;replace Q3:=Q3.below hb Q3.lt;replace Q4:=Q4.below hb Q4.lt;replace HB:=bT HB hb;clear hb;replace RO:=lH RO;replace Q1:=lH Q1;replace Q2:=lH Q2;replace Q3:=lH Q3;replace Q4:=lH Q4;replace Q5:=lH Q5;obtain⟨r0,f0,r1,f1⟩:=aF2 RO.out;have rl:=RO.out.lt;rw[hw] at r0 r1 f0 f1 rl;go_wp2_with fail
 rw[<- hw, <- hbk];clear hw hbk r0 r1 f0 f1 rl;have hg:World.grownBy wA ((wA.setCell ⟨w.heap.size,0,none⟩ (.slice (some ⟨b1,0,none⟩) 2 2)).setCell ⟨w.heap.size,1,none⟩ (.slice (some ⟨b5,0,none⟩) 3 3)) (some w.heap.size):=grownBy_set2 _ _ _ _ _ _;have RE:Row ((wA.setCell ⟨w.heap.size,0,none⟩ (.slice (some ⟨b1,0,none⟩) 2 2)).setCell ⟨w.heap.size,1,none⟩ (.slice (some ⟨b5,0,none⟩) 3 3)) w.heap.size 25 [.slice (some ⟨b1,0,none⟩) 2 2, .slice (some ⟨b5,0,none⟩) 3 3]:=(RO.out.set 0 (.slice (some ⟨b1,0,none⟩) 2 2)).set 1 (.slice (some ⟨b5,0,none⟩) 3 3);have hbe:=HB.out.grown hg HB.out.size (by first | (simp;done) | (simp;omega));have E1:=Q1.out.other hg (by have:=h1.out;omega);have E2:=Q2.out.other hg (by have:=h2.out;omega);have E3:=Q3.out.other hg (by have:=h3.out;omega);have E4:=Q4.out.other hg (by have:=h4.out;omega);have E5:=Q5.out.other hg (by have:=h5.out;omega);obtain⟨wE,hwE⟩:=eX (((wA.setCell ⟨w.heap.size,0,none⟩ (.slice (some ⟨b1,0,none⟩) 2 2)).setCell ⟨w.heap.size,1,none⟩ (.slice (some ⟨b5,0,none⟩) 3 3)));rw[<- hwE] at RE hbe E1 E2 E3 E4 E5 ⊢;have k0:=RE.at_ 0 rfl;have k1:=RE.at_ 1 rfl;refine bodyPost_ret (v:= .agg #[.slice (some ⟨b1,0,none⟩) 2 2, .slice (some ⟨b5,0,none⟩) 3 3]) (by simp[results,Tryz.results57,go_sem,k0,k1]) rfl ?_;refine⟨_,_,rfl,ts_row exO E1 (by unfold maxLen;decide),trows_row E5 (by decide) (by unfold maxLen;decide) ?_,Nat.le_of_lt h5.out,hbe⟩;intro i hi
 rcases i with _ | _ | _ | i
 ·exact⟨_,rfl,rfl,ts_row [⟨#[49]⟩,⟨#[48]⟩] E2 (by unfold maxLen;decide)⟩
 ·exact⟨_,rfl,rfl,ts_row [⟨#[48]⟩,⟨#[49]⟩] E3 (by unfold maxLen;decide)⟩
 ·exact⟨_,rfl,rfl,ts_row [⟨#[49]⟩,⟨#[49]⟩] E4 (by unfold maxLen;decide)⟩
 ·omega
end
section
open Go.RowKit
open Lp (RL upd Dict)
def TRA(w:World)(v:Value)(m:Nat)(k:Nat -> Nat)(s:Nat -> Nat -> ByteArray)(b:Nat -> ByteArray):Prop:=
 ∃A c,v= .slice A m c /\ m <= c /\ c <= maxLen /\ (m=0 \/ ∃g o,A=some ⟨g,o,none⟩ /\ ∀i,i<m -> ∃u,w.cell? ⟨g,o+i*2,none⟩=some u /\ w.cell? ⟨g,o+i*2+1,none⟩=some (.string (b i)) /\ TSA w u (k i) (s i))
def OwnR(w:World)(v:Value)(q:Nat)(k:Nat -> Nat)(s:Nat -> Nat -> ByteArray)(b:Nat -> ByteArray):Prop:=
 ∃xs,w.ownsRow 0 53 2 v q xs /\ ∀i,i<q -> ∃u,xs[i*2]? =some u /\ xs[i*2+1]? =some (.string (b i)) /\ OwnS w u (k i) (s i)
section
variable {w w':World} {v v' u u':Value} {m q:Nat} {k:Nat -> Nat} {s:Nat -> Nat -> ByteArray} {b:Nat -> ByteArray}
theorem TRA.trows(h:TRA w v m k s b):TRows w v m k s b:=by
 obtain⟨A,c,hv,h1,h2,h3⟩:=h;refine⟨A,c,hv,h1,h2,h3.imp id fun⟨g,o,hA,hc⟩=>⟨g,o,hA,fun i hi=> ?_⟩⟩;obtain⟨u,a1,a2,a3⟩:=hc i hi;exact⟨u,a1,a2,a3.1⟩
theorem TRA.at_{A:Option Addr}{c:Nat}(h:TRA w (.slice A m c) m k s b)(hm:0<m):
  ∃g o,A=some ⟨g,o,none⟩ /\ ∀i,i<m -> ∃u,w.cell? ⟨g,o+i*2,none⟩=some u /\ w.cell? ⟨g,o+i*2+1,none⟩=some (.string (b i)) /\ TSA w u (k i) (s i):=by
 obtain⟨A',c',hv,_,_,h3⟩:=h;simp only[Value.slice.injEq,true_and] at hv;obtain⟨rfl,rfl⟩:=hv
 rcases h3 with h3 | h3
 ·omega
 ·exact h3
theorem TRA.below(h:TRA w v m k s b)(hb:Below w.heap.size w w'):TRA w' v m k s b:=by
 obtain⟨A,c,hv,h1,h2,h3⟩:=h;refine⟨A,c,hv,h1,h2,h3.imp id fun⟨g,o,hA,hc⟩=>⟨g,o,hA,fun i hi=> ?_⟩⟩;obtain⟨u,a1,a2,a3⟩:=hc i hi;exact⟨u,cell_below hb a1,cell_below hb a2,a3.below hb⟩
theorem OwnR.nil(w:World)(k:Nat -> Nat)(s:Nat -> Nat -> ByteArray)(b:Nat -> ByteArray):OwnR w (.slice none 0 0) 0 k s b:=⟨[],World.ownsRow_nil _ _ _ _,fun j hj=>absurd hj (by omega)⟩
theorem OwnR.shape(h:OwnR w v q k s b):∃A c,v= .slice A q c /\ q <= c /\ c <= maxLen:=by obtain⟨xs,ho,_⟩:=h;exact own_shape ho
theorem OwnR.lt(h:OwnR w v q k s b){g:Nat}(hg:v.ownBlock=some g):g<w.heap.size:=by obtain⟨xs,ho,_⟩:=h;exact(ho.lt g hg).2
theorem OwnR.row(h:OwnR w v q k s b){g:Nat}(hg:v.ownBlock=some g):∃cs,Row w g 53 cs:=by obtain⟨xs,ho,_⟩:=h;exact own_row ho hg
theorem OwnR.below(h:OwnR w v q k s b)(hb:Below w.heap.size w w'):OwnR w' v q k s b:=by
 obtain⟨xs,ho,hp⟩:=h;refine⟨xs,own_grown ho (below_grown hb) (by simp),fun i hi=> ?_⟩;obtain⟨u,h1,h2,h3⟩:=hp i hi;exact⟨u,h1,h2,OwnL.below h3 hb⟩
theorem OwnR.other{g:Nat}{e:TypeId}{cs:List Value}(h:OwnR w v q k s b)(hg:w.grownBy w' (some g))(hr:Row w g e cs)(he:e≠53)(hn:e≠30):OwnR w' v q k s b:=by
 have ha:v.ownBlock≠some g:=fun e1=>by obtain⟨_,hx⟩:=h.row e1;exact he (hr.ty hx)
 obtain⟨xs,ho,hp⟩:=h;refine⟨xs,own_grown ho hg (fun g' hb e1=>ha (by rw[hb];exact e1.symm)),fun i hi=> ?_⟩;obtain⟨u,h1,h2,h3⟩:=hp i hi;exact⟨u,h1,h2,OwnL.other h3 hg (fun e1=>by obtain⟨_,hx⟩:=OwnL.row h3 e1;exact hn (hr.ty hx))⟩
theorem ownS_other{n g:Nat}{t:Nat -> ByteArray}{e:TypeId}{cs:List Value}(h:OwnS w v n t)(hg:w.grownBy w' (some g))(hr:Row w g e cs)(hn:e≠30):OwnS w' v n t:=
 OwnL.other h hg (fun e1=>by obtain⟨_,hx⟩:=OwnL.row h e1;exact hn (hr.ty hx))
theorem ownS_turned{n:Nat}{t:Nat -> ByteArray}(h:OwnS w v n t)(hr:OwnR w u q k s b)(ht:Turned w w' u u'):OwnS w' v n t:=
 OwnL.turned h ht (own_apart (fun _ hg=>OwnL.row h hg) (fun _ hg=>hr.row hg) (by decide))
theorem OwnR.trows(h:OwnR w v q k s b):TRows w v q k s b:=by
 obtain⟨A,c,rfl,h1,h2⟩:=h.shape;refine⟨A,c,rfl,h1,h2,?_⟩
 rcases Nat.eq_zero_or_pos q with h0 | h0
 ·exact .inl h0
 ·obtain⟨xs,ho,hp⟩:=h;obtain⟨g,cap,cs,hv,hr,hcs⟩:=own_cells ho h0;simp only[Value.slice.injEq,true_and] at hv;refine .inr ⟨g,0,hv.1,fun i hi=> ?_⟩;obtain⟨u,a1,a2,a3⟩:=hp i hi;refine⟨u,?_,?_,a3.ts⟩
  ·rw[Nat.zero_add];exact hr.at_ _ (hcs _ _ a1)
  ·rw[Nat.zero_add];exact hr.at_ _ (hcs _ _ a2)
end
theorem wp_appRow(w:World){o:Oper}{a:Act}{K:Act -> World -> Prop}{Q:Exit -> Act -> World -> Prop}(s x:Operand)
  (ho:o.op= .call {callee:= .builtin .append,args:= #[s,x],argTypes:= #[23,23]})
  (v:Value) (q:Nat) (k:Nat -> Nat) (t:Nat -> Nat -> ByteArray) (b:Nat -> ByteArray) (hs:a.eval s=v) (hown:OwnR w v q k t b)
  (A:Option Addr) (l c:Nat) (hu:OwnS w (.slice A l c) (k q) (t q)) (hx:a.eval x= .slice (some ⟨w.heap.size,0,none⟩) 1 1)
  (hlen:q <= 1000000000000)
  (h:∀v' w',OwnR w' v' (q+1) k t b -> Turned w w' v v' -> K (a.put o.dst v') w'):Oper.wp Tryz.prog o a (w.alloc (.cells #[.slice A l c, .string (b q)] 53)) K Q:=by
 obtain⟨i,hi,hz0,hz1,hz2⟩:=info_parts infoRow;obtain⟨xs,hxs,hpp⟩:=hown;have hb:=below_new w (.cells #[.slice A l c, .string (b q)] 53);have hr:Row (w.alloc (.cells #[.slice A l c, .string (b q)] 53)) w.heap.size 53 [.slice A l c, .string (b q)]:=heap_new _ _;have hl:xs.length=q*2:=hxs.1;have hxs2:=own_grown hxs (below_grown hb) (by simp);refine wp_app _ s x _ ho _ i _ 2 40 Tryz.underlying23 hi hz0 hz1 hz2 rfl (by decide) v q xs hs hxs2 ⟨w.heap.size,0,none⟩ 1 1 [.slice A l c, .string (b q)] hx rfl ?_ ?_ (by unfold maxLen;omega) (by omega) ?_
 ·intro j y hj;rw[add0];exact hr.at_ j hj
 ·intro y hy;simp only[List.mem_cons,List.not_mem_nil,or_false] at hy;rcases hy with rfl | rfl <;> rfl
 ·intro v' w' hown' htn
  have ap:∀ {z:Value} {n:Nat} {f:Nat -> ByteArray},OwnS w z n f -> OwnS w' z n f:=fun hz=>by
   have hz2:=OwnL.below hz hb;exact OwnL.turned hz2 htn (own_apart (fun _ hg=>OwnL.row hz2 hg) (fun _ hg=>own_row hxs2 hg) (by decide))
  refine h v' w' ⟨_,hown',fun j hj=> ?_⟩ ⟨⟨htn.grown.os.trans hb.os,htn.grown.tape.trans hb.tape,htn.grown.output.trans hb.output,Nat.le_trans hb.size htn.grown.size,fun k hk hne=>(htn.grown.block k (Nat.lt_of_lt_of_le hk hb.size) hne).trans (hb.block k hk)⟩,?_⟩
  ·by_cases e:j=q
   ·subst e;refine⟨.slice A l c,?_,?_,ap hu⟩
    ·rw[List.getElem?_append_right (by omega),show j*2-xs.length=0 by omega];rfl
    ·rw[List.getElem?_append_right (by omega),show j*2+1-xs.length=1 by omega];rfl
   ·obtain⟨u,h1,h2,h3⟩:=hpp j (by omega);exact⟨u,by rw[List.getElem?_append_left (by omega)];exact h1,by rw[List.getElem?_append_left (by omega)];exact h2,ap h3⟩
  ·rcases htn.own with h2 | ⟨g,h2,h3⟩
   ·exact .inl h2
   ·exact .inr ⟨g,h2,Nat.le_trans hb.size h3⟩
set_option maxRecDepth 100000 in
set_option maxHeartbeats 6400000 in
theorem copied_walk(AO AR:Option Addr)(n m cO cR:Nat)(k:Nat -> Nat)(o:Nat -> ByteArray)(t:Nat -> Nat -> ByteArray)(b:Nat -> ByteArray)(w:World)(ho:TSA w (.slice AO n cO) n o)(hr:TRA w (.slice AR m cR) m k t b)(hn:n <= 1000000000)(hm:m <= 1000000000)(hk:∀i,i<m -> k i <= 1000000000):
  Calls Tryz.prog 25 #[.agg #[.slice AO n cO, .slice AR m cR]] w fun e w'=>∃v u,e= .returned (.agg #[v,u]) /\ OwnS w' v n o /\ OwnR w' u m k t b /\ Below w.heap.size w w':=by
 have HO:=lH ho;have HR:=lH hr;have HNM:=lH (And.intro hn (And.intro hm hk));clear ho hr;obtain⟨W,hW,PB,RO,HB⟩:=eN2 w [.slice AO n cO, .slice AR m cR] 25 [.slice none 0 0, .slice none 0 0] 25;go_enter Tryz.func25,Tryz.ntmps25;obtain⟨p0,p1⟩:=aT2 PB.out;have pl:=PB.out.lt;rw[hW] at p0 p1 pl;go_wp2_with fail
 rw[<- hW];clear hW p0 p1 pl;refine(clone_walk _ n o _ (HO.out.below HB.out) HNM.out.1).mono ?_;rintro e w2 ⟨v,rfl,hv,_,_,hb2⟩;obtain⟨vA,vc,rfl,_,_⟩:=OwnL.shape hv;have VO:=lH hv;replace PB:=rW PB hb2;replace RO:=rW RO hb2;replace HB:=bT HB hb2;clear hb2 hv;obtain⟨w3,hw3⟩:=eX (w2.alloc (.cells #[.slice vA n vc, .slice none 0 0] 25));obtain⟨g3,hg3⟩:=eX (w2.heap.size);have hb3:Below w2.heap.size w2 w3:=by rw[hw3];exact below_new _ _
 have QB:Hid (Row w3 g3 25 [.slice vA n vc, .slice none 0 0]):=lH (by rw[hw3,hg3];exact heap_new _ _);have HG3:Hid (w.heap.size+1<g3):=lH (by rw[hg3];exact RO.out.lt);replace PB:=rW PB hb3;replace RO:=rW RO hb3;replace VO:Hid (OwnS w3 (.slice vA n vc) n o):=lH (OwnL.below VO.out hb3);replace HB:=bT HB hb3;obtain⟨p0,p1⟩:=aT2 PB.out;have pl:=PB.out.lt;rw[hw3] at p0 p1 pl;go_wp2_with fail
 rw[<- hw3, <- hg3];clear hw3 hg3 hb3 p0 p1 pl;have QB0:=QB;have VO0:=VO;have RO0:=RO;have HB0:=HB;clear QB VO RO HB PB
 go_loopw [13] (fun iv wr=>∃ (q:Nat) (B:Option Addr) (d:Nat),q <= m /\ iv= .int .i64 q /\ Row wr g3 25 [.slice vA n vc, .slice B q d] /\ OwnS wr (.slice vA n vc) n o /\ OwnR wr (.slice B q d) q k t b /\ Hid (∀g,(Value.slice B q d).ownBlock=some g -> w.heap.size <= g) /\ Row wr (w.heap.size+1) 25 [.slice none 0 0, .slice none 0 0] /\ Below w.heap.size w wr)
  (fun iv _=>m-(intOf iv).toNat)
 case atStart=>exact⟨0,none,0,Nat.zero_le _,rfl,QB0.out,VO0.out,OwnR.nil _ _ _ _,lH (fun g hg=>by simp[Value.ownBlock] at hg),RO0.out,HB0.out⟩
 case round=>
  clear QB0 VO0 RO0 HB0;obtain⟨q,B,d,hq,rfl,hqb,hvo,hor,hlo,hro,hbw⟩:=hrel;have QB:=lH hqb;have VO:=lH hvo;have OR:=lH hor;have LO:=lH hlo.out;have RO:=lH hro;have HB:=lH hbw;clear hqb hvo hor hlo hro hbw;by_cases hqm:((q:Nat):Int)<((m:Nat):Int)
  ·have hqm1:q<m:=by omega
   obtain⟨gR,oR,rfl,hcs⟩:=HR.out.at_ (by omega);obtain⟨u,hc1,hc2,hts⟩:=hcs q hqm1;obtain⟨X,x,rfl,_,_⟩:=hts.1.shape;have HTS:=lH (hts.below HB.out);have c1:=cell_below HB.out hc1;have c2:=cell_below HB.out hc2;have cl:=cell_lt c1;clear hcs hc1 hc2 hts;obtain⟨w4,hw4⟩:=eX (wr.alloc (.cells #[.slice X (k q) x, .string (b q)] 53));obtain⟨g5,hg5⟩:=eX (wr.heap.size);have hb4:Below wr.heap.size wr w4:=by rw[hw4];exact below_new _ _
   have XB:Hid (Row w4 g5 53 [.slice X (k q) x, .string (b q)]):=lH (by rw[hw4,hg5];exact heap_new _ _);have HNE:Hid (g3≠g5):=lH (by rw[hg5];exact Nat.ne_of_lt QB.out.lt);have HNB:Hid (∀g,(Value.slice B q d).ownBlock=some g -> g≠g5):=lH (fun g hg=>by rw[hg5];exact Nat.ne_of_lt (OR.out.lt hg));replace QB:=rW QB hb4;replace RO:=rW RO hb4;replace VO:Hid (OwnS w4 (.slice vA n vc) n o):=lH (OwnL.below VO.out hb4);replace OR:=lH (OR.out.below hb4);replace HTS:=lH (HTS.out.below hb4);replace HB:=bT HB hb4
   go_upto_region 5 with (fail)
   rw[<- hw4, <- hg5];clear hw4 hg5 hb4 c1 c2 cl;go_wp2_with fail
   have HRG:=rG w4;have glQB:=QB.out.lt;obtain⟨g0QB,g1QB⟩:=aT2 QB.out;have glXB:=XB.out.lt;obtain⟨g0XB,g1XB⟩:=aT2 XB.out;have KS:=lH (kC g0QB (kC g1QB (kC g0XB (kN g1XB))));clear glQB g0QB g1QB glXB g0XB g1XB;refine rL KS.out (fun i=>decide (11 <= i)) ?_;have hh:=KS.out _ HRG.out;refine tKs 0 17 hh ?_;refine tKs 1 18 hh ?_;refine tKs 2 19 hh ?_;refine tKs 3 20 hh ?_;refine tKs 4 21 hh ?_;refine tKs 5 22 hh ?_;refine rD 6 (fun K hK=> ?_);go_simp;refine(clone_walk _ (k q) (t q) _ (by exact HTS.out) (HNM.out.2.2 q hqm1)).mono ?_;rintro e w5 ⟨v5,rfl,hv5,_,_,hb5⟩;have hb5:Below w4.heap.size w4 w5:=bD hb5;replace QB:=rW QB hb5;replace XB:=rW XB hb5;replace RO:=rW RO hb5;replace OR:=lH (OR.out.below hb5);replace HTS:=lH (HTS.out.below hb5);replace HB:=bT HB hb5;replace HRG:=bT HRG hb5;obtain⟨Y,y,rfl,_,_⟩:=OwnL.shape hv5;have V5:=lH hv5;replace VO:Hid (OwnS w5 (.slice vA n vc) n o):=lH (OwnL.below VO.out hb5);clear hv5;clear hh hb5;have hh:=KS.out _ HRG.out;refine kH hK hh ?_;clear hK K;refine rD 7 (fun K hK=> ?_);go_simp;refine(row_walk (b q) Y (k q) y _).mono ?_;rintro e w6 ⟨rfl,hb6⟩;have hb6:Below w5.heap.size w5 w6:=bD hb6;replace QB:=rW QB hb6;replace XB:=rW XB hb6;replace RO:=rW RO hb6;replace OR:=lH (OR.out.below hb6);replace HTS:=lH (HTS.out.below hb6);replace HB:=bT HB hb6;replace HRG:=bT HRG hb6;replace VO:Hid (OwnS w6 (.slice vA n vc) n o):=lH (OwnL.below VO.out hb6);replace V5:Hid (OwnS w6 (.slice Y (k q) y) (k q) (t q)):=lH (OwnL.below V5.out hb6);clear hh hb6;have hh:=KS.out _ HRG.out;refine kH hK hh ?_;clear hK K;refine rD 8 (fun K hK=> ?_);go_simp;refine hK.out _ _ (fun _=>KS.out _ (HRG.out.trans ((below_new _ _).mono HRG.out.size))) ?_;clear hK K hh;refine rD 9 (fun K hK=> ?_);rw[if_pos (by rfl)];refine wp_appRow w6 (.tmp 18) (.tmp 25) rfl (.slice B q d) q k t b rfl OR.out Y (k q) y V5.out rfl (by have:=HNM.out.2.1;omega) ?_;intro va w8 ho htn;show K (Act.put _ (some 26) va) w8;obtain⟨B2,d2,rfl,_,_⟩:=ho.shape;have hq3:(Value.slice B q d).ownBlock≠some g3:=fun e=>by obtain⟨_,hx⟩:=OR.out.row e;exact absurd (QB.out.ty hx) (by decide)
   have hqr:(Value.slice B q d).ownBlock≠some (w.heap.size+1):=fun e=>by obtain⟨_,hx⟩:=OR.out.row e;exact absurd (RO.out.ty hx) (by decide)
   replace QB:=lH (QB.out.turned htn hq3);replace RO:=lH (RO.out.turned htn hqr);replace XB:=lH (XB.out.turned htn (fun e=>HNB.out _ e rfl));replace VO:Hid (OwnS w8 (.slice vA n vc) n o):=lH (ownS_turned VO.out OR.out htn);have hbt:=htn.below (B:=w.heap.size) HB.out.size LO.out;have LO2:=lH (htn.base HB.out.size LO.out);replace HB:=lH (HB.out.trans hbt);have OR2:=lH ho;clear hbt htn ho hq3 hqr V5 HTS OR LO hb5 hb6;have hh:=And.intro (QB.out.at_ 0 rfl) (And.intro (QB.out.at_ 1 rfl) (And.intro (XB.out.at_ 0 rfl) (XB.out.at_ 1 rfl)));refine kH hK hh ?_;clear hK K;refine tKs 10 27 hh ?_;have k1:=aI 1 QB;have f1:=QB.out.free 1;have kl:=QB.out.lt;refine rD 11 (fun K hK=> ?_);go_simp;refine kL hK ?_;clear hK K;refine dN ?_ _;clear hh KS HRG;clear k1 f1 kl;have hg:World.grownBy w8 (w8.setCell ⟨g3,1,none⟩ (.slice B2 (q+1) d2)) (some g3):=grownBy_set _ _ _ _;have QN:Row (w8.setCell ⟨g3,1,none⟩ (.slice B2 (q+1) d2)) g3 25 [.slice vA n vc, .slice B2 (q+1) d2]:=QB.out.set 1 (.slice B2 (q+1) d2);have VN:OwnS (w8.setCell ⟨g3,1,none⟩ (.slice B2 (q+1) d2)) (.slice vA n vc) n o:=ownS_other VO.out hg QB.out (by decide);have ON:=OR2.out.other hg QB.out (by decide) (by decide);have RN:=RO.out.other hg (by have:=HG3.out;omega);have HN:=HB.out.grown hg HB.out.size (by have:=HG3.out;first | (simp;done) | (simp;omega));go_wp2_with fail
   go_roundw
   case rel=>exact⟨q+1,B2,d2,by omega,by go_num,QN,VN,ON,LO2,RN,HN⟩
   case measure=>exact mZ
  ·have hqm0:m=q:=by omega
   subst hqm0;obtain⟨q0,q1⟩:=aT2 QB.out;have ql:=QB.out.lt;obtain⟨r0,r1⟩:=aT2 RO.out;have f0:=RO.out.free 0;have f1:=RO.out.free 1;have rl:=RO.out.lt;go_wp2_with fail
   clear q0 q1 ql r0 r1 f0 f1 rl;have hg:World.grownBy wr ((wr.setCell ⟨w.heap.size+1,0,none⟩ (.slice vA n vc)).setCell ⟨w.heap.size+1,1,none⟩ (.slice B m d)) (some (w.heap.size+1)):=grownBy_trans (grownBy_set _ _ _ _) (grownBy_set _ _ _ _);have RE:Row ((wr.setCell ⟨w.heap.size+1,0,none⟩ (.slice vA n vc)).setCell ⟨w.heap.size+1,1,none⟩ (.slice B m d)) (w.heap.size+1) 25 [.slice vA n vc, .slice B m d]:=(RO.out.set 0 (.slice vA n vc)).set 1 (.slice B m d);have VN:OwnS ((wr.setCell ⟨w.heap.size+1,0,none⟩ (.slice vA n vc)).setCell ⟨w.heap.size+1,1,none⟩ (.slice B m d)) (.slice vA n vc) n o:=ownS_other VO.out hg RO.out (by decide);have ON:=OR.out.other hg RO.out (by decide) (by decide);have HN:=HB.out.grown hg HB.out.size (by first | (simp;done) | (simp;omega));obtain⟨wE,hwE⟩:=eX (((wr.setCell ⟨w.heap.size+1,0,none⟩ (.slice vA n vc)).setCell ⟨w.heap.size+1,1,none⟩ (.slice B m d)));rw[<- hwE] at RE VN ON HN ⊢;have k0:=RE.at_ 0 rfl;have k1:=RE.at_ 1 rfl;refine bodyPost_ret (v:= .agg #[.slice vA n vc, .slice B m d]) (by simp[results,Tryz.results25,go_sem,k0,k1]) rfl ?_;exact⟨_,_,rfl,VN,ON,HN⟩
end
section
open Go.ChangeShapes Go.WideShapes Go.ChangeAt Go.RowKit
theorem cell_texts{W:World}{H:Type}{enc:TypeId × Value -> H}{fuel:Nat}{v:Value}{x:DataW H × List MemPlace}(hf:DataW.trod enc Tryz.prog W 0 (fun _=>true) true fuel 22 [v]=some x):∃n s,TSA W v n s:=by
 rcases Go.Deep.open_strs Tryz.underlying22 Tryz.underlying30 (by kernel_rfl) hf with ⟨h0,_⟩ | ⟨a,len,cap,m,Sx,h0,_,hl,hm,hmm,_,hc⟩
 ·simp only[List.cons.injEq,and_true] at h0;subst h0;exact⟨0,fun _=>⟨#[]⟩,⟨_,_,rfl,Nat.le_refl _,Nat.zero_le _, .inl rfl⟩, .inl ⟨rfl,rfl⟩⟩
 ·simp only[List.cons.injEq,and_true] at h0;subst h0
  rcases Nat.eq_zero_or_pos len with hz | hz
  ·subst hz;exact⟨0,Sx,⟨_,_,rfl,hl,hm, .inl rfl⟩, .inr (.inr ⟨rfl,a,cap,rfl⟩)⟩
  ·have hlm:len <= m:=by rw[hmm];split <;> omega
   have hsp:=World.cell?_spot (hc 0 (by omega)).1;obtain⟨b,o,sp⟩:=a
   have hsp2:sp=none:=by
    have h1:((⟨b,o,sp⟩:Addr).add 0)=⟨b,o,sp⟩:=by unfold Addr.add;rw[if_pos rfl]
    rw[h1] at hsp;exact hsp
   subst hsp2;refine⟨len,Sx,⟨_,_,rfl,hl,hm, .inr ⟨b,o,rfl,fun j hj=> ?_⟩⟩, .inr (.inl ⟨b,o,cap,rfl⟩)⟩;have h1:=(hc j (by omega)).1;rw[add_plain] at h1;exact h1
theorem cell_rows{W:World}{H:Type}{enc:TypeId × Value -> H}{fuel:Nat}{v:Value}{x:DataW H × List MemPlace}(hf:DataW.trod enc Tryz.prog W 0 (fun _=>true) true fuel 23 [v]=some x):∃m k t b,TRA W v m k t b:=by
 rcases Go.Deep.open_slice_pairs Tryz.underlying23 Tryz.underlying53 (by kernel_rfl) rfl rfl (by kernel_rfl) (by kernel_rfl) hf with ⟨h0,_⟩ | ⟨a,len,cap,m,n',V0,V1,D0,D1,P0,P1,h0,_,hl,hm,hmm,_,hc⟩
 ·simp only[List.cons.injEq,and_true] at h0;subst h0;exact⟨0,fun _=>0,fun _ _=>⟨#[]⟩,fun _=>⟨#[]⟩,_,_,rfl,Nat.le_refl _,Nat.zero_le _, .inl rfl⟩
 ·simp only[List.cons.injEq,and_true] at h0;subst h0;have hlm:len <= m:=by rw[hmm];split <;> omega
  rcases Nat.eq_zero_or_pos len with hz | hz
  ·subst hz;exact⟨0,fun _=>0,fun _ _=>⟨#[]⟩,fun _=>⟨#[]⟩,_,_,rfl,hl,hm, .inl rfl⟩
  ·have hsp:=World.cell?_spot (hc 0 (by omega)).1;obtain⟨g,o,sp⟩:=a
   have hsp2:sp=none:=by
    have h1:((⟨g,o,sp⟩:Addr).add (0*2))=⟨g,o,sp⟩:=by unfold Addr.add;rw[if_pos rfl]
    rw[h1] at hsp;exact hsp
   subst hsp2
   have each:∀i,i<len -> ∃q:Nat × (Nat -> ByteArray) × ByteArray,V1 i= .string q.2.2 /\ TSA W (V0 i) q.1 q.2.1:=fun i hi=>by
    obtain⟨_,_,h0,h1⟩:=hc i (by omega);obtain⟨s,e1,_,_⟩:=DataW.trod_string Tryz.underlying30 h1;obtain⟨n,t,ht⟩:=cell_texts h0;simp only[List.cons.injEq,and_true] at e1;exact⟨(n,t,s),e1,ht⟩
   obtain⟨q,hq⟩:=Go.Deep.choose_lt each;refine⟨len,fun i=>(q i).1,fun i=>(q i).2.1,fun i=>(q i).2.2,_,_,rfl,hl,hm, .inr ⟨g,o,rfl,fun i hi=> ?_⟩⟩;obtain⟨h0,h1,_,_⟩:=hc i (by omega);rw[add_plain] at h0 h1;refine⟨V0 i,h0,?_,(hq i hi).2⟩;rw[<- (hq i hi).1];exact h1
set_option maxRecDepth 100000 in
theorem open_rows{W:World}{base:Nat}{v:Value}{H:Type}{enc:TypeId × Value -> H}{d:DataW H}{ps:List MemPlace}(hval:Value.okWide Tryz.prog W .any base 23 v)(hd:DataW.Trod enc Tryz.prog W 0 (fun _=>true) true 23 v d ps):
  ∃m k t b,TRA W v m k t b:=by
 obtain⟨a,n,c,rfl⟩:=okWide_slice Tryz.underlying23 hval;obtain⟨fuel,hf⟩:=hd;exact cell_rows hf
end
section
open Go.RowKit
open Lp (RL upd Dict)
def pInt(f:Nat -> Nat)(j:Nat)(u:Value):Prop:=u= .int .i64 (f j:Nat)
def pRow(n:Nat)(gr cr:Nat -> Nat)(j:Nat)(u:Value):Prop:=∃A,u= .slice A n (cr j) /\ (0<n -> A=some ⟨gr j,0,none⟩)
theorem OwnL.congr{w:World}{v:Value}{e:TypeId}{k:Nat}{p p':Nat -> Value -> Prop}(h:OwnL w v e k p)(hp:∀j,j<k -> ∀u,p j u -> p' j u):OwnL w v e k p':=by
 obtain⟨xs,ho,hh⟩:=h;refine⟨xs,ho,fun j hj=> ?_⟩;obtain⟨u,h1,h2⟩:=hh j hj;exact⟨u,h1,hp j hj u h2⟩
structure BegS (w:World) (B n:Nat) (k:Nat -> Nat) (v:Nat -> Value) (gr cr:Nat -> Nat) (A:Nat -> Nat -> Rat) (b c:Nat -> Rat):Prop where
 o0:OwnL w (v 0) 3 (k 0) (pInt fun j=>n+j)
 o1:OwnL w (v 1) 3 (k 1) (pInt fun j=>j)
 o2:OwnQ w (v 2) (k 2) b
 o3:OwnL w (v 3) 95 (k 3) (pRow n gr cr)
 o4:OwnQ w (v 4) (k 4) (fun j=> -(c j))
 rows:0<n -> ∀j,j<k 3 -> RB w (gr j) n (A j)
 ap:∀i j,i≠j -> ∀g,(v i).ownBlock=some g -> (v j).ownBlock≠some g
 ar:0<n -> ∀i j,j<k 3 -> (v i).ownBlock≠some (gr j)
 rr:0<n -> ∀i j,i<k 3 -> j<k 3 -> gr i=gr j -> i=j
 lo:∀i g,(v i).ownBlock=some g -> B <= g /\ g<w.heap.size
 lr:0<n -> ∀j,j<k 3 -> B <= gr j
section
variable {w w':World} {B n:Nat} {k:Nat -> Nat} {v:Nat -> Value} {gr cr:Nat -> Nat} {A:Nat -> Nat -> Rat} {b c:Nat -> Rat}
theorem BegS.start(w:World)(B n:Nat)(gr cr:Nat -> Nat)(A:Nat -> Nat -> Rat)(b c:Nat -> Rat):BegS w B n (fun _=>0) (fun _=> .slice none 0 0) gr cr A b c:=
 ⟨OwnL.nil _ _ _,OwnL.nil _ _ _,OwnQ.nil _ _,OwnL.nil _ _ _,OwnQ.nil _ _,fun _ j hj=>absurd hj (by omega),fun i j _ g hg=>by simp[Value.ownBlock] at hg,fun _ i j hj=>absurd hj (by omega),fun _ i j hi=>absurd hi (by omega),fun i g hg=>by simp[Value.ownBlock] at hg,fun _ j hj=>absurd hj (by omega)⟩
theorem BegS.below(h:BegS w B n k v gr cr A b c)(hb:Below w.heap.size w w'):BegS w' B n k v gr cr A b c:=
 ⟨h.o0.below hb,h.o1.below hb,h.o2.below hb,h.o3.below hb,h.o4.below hb,fun hn j hj=>(h.rows hn j hj).below hb,h.ap,h.ar,h.rr,fun i g hg=>⟨(h.lo i g hg).1,Nat.lt_of_lt_of_le (h.lo i g hg).2 hb.size⟩,h.lr⟩
theorem BegS.other{g:Nat}{e:TypeId}{cs:List Value}(h:BegS w B n k v gr cr A b c)(hg:w.grownBy w' (some g))(hr:Row w g e cs)(he:e≠160)(hB:g<B):BegS w' B n k v gr cr A b c:=by
 have ne:∀i,(v i).ownBlock≠some g:=fun i e=>by have:=(h.lo i g e).1;omega
 exact⟨h.o0.other hg (ne 0),h.o1.other hg (ne 1),h.o2.other hg hr he (ne 2),h.o3.other hg (ne 3),h.o4.other hg hr he (ne 4),fun hn j hj=>(h.rows hn j hj).other hg hr he (by have:=h.lr hn j hj;omega),h.ap,h.ar,h.rr,fun i g hg'=>⟨(h.lo i g hg').1,Nat.lt_of_lt_of_le (h.lo i g hg').2 hg.size⟩,h.lr⟩
theorem BegS.grow{i:Nat}{v':Value}(h:BegS w B n k v gr cr A b c)(ht:Turned w w' (v i) v')(hB:B <= w.heap.size)(hl:∀g,v'.ownBlock=some g -> g<w'.heap.size)(hlt:0<n -> ∀j,j<k 3 -> gr j<w.heap.size):
  (∀a j,a≠j -> ∀g,(upd v i v' a).ownBlock=some g -> (upd v i v' j).ownBlock≠some g) /\ (0<n -> ∀a j,j<k 3 -> (upd v i v' a).ownBlock≠some (gr j)) /\ (∀a g,(upd v i v' a).ownBlock=some g -> B <= g /\ g<w'.heap.size):=by
 refine⟨fun a j hne g hg=> ?_,fun hn a j hj=> ?_,fun a g hg=> ?_⟩
 ·by_cases e:a=i
  ·subst e;rw[Lp.upd_same] at hg;rw[Lp.upd_other _ _ (fun e=>hne e.symm)];intro hj;exact ht.apart (h.lo j g hj).2 (fun e=>h.ap a j hne g e hj) hg
  ·rw[Lp.upd_other _ _ e] at hg;by_cases e2:j=i
   ·subst e2;rw[Lp.upd_same];exact ht.apart (h.lo a g hg).2 (h.ap a j hne g hg)
   ·rw[Lp.upd_other _ _ e2];exact h.ap a j hne g hg
 ·by_cases e:a=i
  ·subst e;rw[Lp.upd_same];exact ht.apart (hlt hn j hj) (h.ar hn a j hj)
  ·rw[Lp.upd_other _ _ e];exact h.ar hn a j hj
 ·by_cases e:a=i
  ·subst e;rw[Lp.upd_same] at hg;refine⟨?_,hl g hg⟩
   rcases ht.own with h1 | ⟨g',h1,h2⟩
   ·exact(h.lo a g (h1 ▸ hg)).1
   ·rw[hg] at h1;simp only[Option.some.injEq] at h1;omega
  ·rw[Lp.upd_other _ _ e] at hg;exact⟨(h.lo a g hg).1,Nat.lt_of_lt_of_le (h.lo a g hg).2 ht.grown.size⟩
theorem BegS.rowlt(h:BegS w B n k v gr cr A b c):0<n -> ∀j,j<k 3 -> gr j<w.heap.size:=fun hn j hj=>(h.rows hn j hj).lt
theorem BegS.apart'(h:BegS w B n k v gr cr A b c){i j:Nat}(hne:i≠j):∀g,(v j).ownBlock=some g -> (v i).ownBlock≠some g:=fun g hg hg'=>h.ap i j hne g hg' hg
theorem u0{α:Type}(f:Nat -> α)(i:Nat)(x:α)(j:Nat)(h:j≠i):upd f i x j=f j:=Lp.upd_other f x h
theorem BegS.app0{v':Value}(h:BegS w B n k v gr cr A b c)(ht:Turned w w' (v 0) v')(ho:OwnL w' v' 3 (k 0+1) (pInt fun j=>n+j))(hB:B <= w.heap.size):BegS w' B n (upd k 0 (k 0+1)) (upd v 0 v') gr cr A b c:=by
 obtain⟨xs,hxs,_⟩:=h.o0;have he:3≠160:=by decide
 obtain⟨g1,g2,g3⟩:=h.grow ht hB (fun g hg=>ho.lt hg) h.rowlt;exact⟨ho,h.o1.turned ht (h.apart' (by decide)),h.o2.turned ht hxs he (h.apart' (by decide)),h.o3.turned ht (h.apart' (by decide)),h.o4.turned ht hxs he (h.apart' (by decide)),fun hn j hj=>(h.rows hn j hj).turned ht hxs he (h.ar hn 0 j hj),g1,g2,h.rr,g3,h.lr⟩
theorem BegS.app1{v':Value}(h:BegS w B n k v gr cr A b c)(ht:Turned w w' (v 1) v')(ho:OwnL w' v' 3 (k 1+1) (pInt fun j=>j))(hB:B <= w.heap.size):BegS w' B n (upd k 1 (k 1+1)) (upd v 1 v') gr cr A b c:=by
 obtain⟨xs,hxs,_⟩:=h.o1;have he:3≠160:=by decide
 obtain⟨g1,g2,g3⟩:=h.grow ht hB (fun g hg=>ho.lt hg) h.rowlt;exact⟨h.o0.turned ht (h.apart' (by decide)),ho,h.o2.turned ht hxs he (h.apart' (by decide)),h.o3.turned ht (h.apart' (by decide)),h.o4.turned ht hxs he (h.apart' (by decide)),fun hn j hj=>(h.rows hn j hj).turned ht hxs he (h.ar hn 1 j hj),g1,g2,h.rr,g3,h.lr⟩
theorem BegS.app2{v':Value}(h:BegS w B n k v gr cr A b c)(ht:Turned w w' (v 2) v')(ho:OwnQ w' v' (k 2+1) b)(hB:B <= w.heap.size):BegS w' B n (upd k 2 (k 2+1)) (upd v 2 v') gr cr A b c:=by
 obtain⟨xs,hxs,_⟩:=h.o2;obtain⟨g1,g2,g3⟩:=h.grow ht hB (fun g hg=>ho.lt hg) h.rowlt;exact⟨h.o0.turned ht (h.apart' (by decide)),h.o1.turned ht (h.apart' (by decide)),ho,h.o3.turned ht (h.apart' (by decide)),h.o4.turned ht hxs ne_rat (h.apart' (by decide)),fun hn j hj=>(h.rows hn j hj).turned ht hxs ne_rat (h.ar hn 2 j hj),g1,g2,h.rr,g3,h.lr⟩
theorem BegS.app4{v':Value}(h:BegS w B n k v gr cr A b c)(ht:Turned w w' (v 4) v')(ho:OwnQ w' v' (k 4+1) (fun j=> -(c j)))(hB:B <= w.heap.size):BegS w' B n (upd k 4 (k 4+1)) (upd v 4 v') gr cr A b c:=by
 obtain⟨xs,hxs,_⟩:=h.o4;obtain⟨g1,g2,g3⟩:=h.grow ht hB (fun g hg=>ho.lt hg) h.rowlt;exact⟨h.o0.turned ht (h.apart' (by decide)),h.o1.turned ht (h.apart' (by decide)),h.o2.turned ht hxs ne_rat (h.apart' (by decide)),h.o3.turned ht (h.apart' (by decide)),ho,fun hn j hj=>(h.rows hn j hj).turned ht hxs ne_rat (h.ar hn 4 j hj),g1,g2,h.rr,g3,h.lr⟩
theorem BegS.place{g x:Nat}(h:BegS w B n k v gr cr A b c):BegS w B n k v (upd gr (k 3) g) (upd cr (k 3) x) A b c:=by
 have e:∀ {α:Type} (f:Nat -> α) (y:α) j,j<k 3 -> upd f (k 3) y j=f j:=fun f y j hj=>Lp.upd_other f y (by omega)
 refine⟨h.o0,h.o1,h.o2,h.o3.congr (fun j hj u hu=> ?_),h.o4,fun hn j hj=>by rw[e gr g j hj];exact h.rows hn j hj,h.ap,fun hn i j hj=>by rw[e gr g j hj];exact h.ar hn i j hj,fun hn i j hi hj=>by rw[e gr g j hj,e gr g i hi];exact h.rr hn i j hi hj,h.lo,fun hn j hj=>by rw[e gr g j hj];exact h.lr hn j hj⟩;unfold pRow at*;rw[e gr g j hj,e cr x j hj];exact hu
theorem BegS.app3{v':Value}(h:BegS w B n k v gr cr A b c)(ht:Turned w w' (v 3) v')(ho:OwnL w' v' 95 (k 3+1) (pRow n gr cr))(hB:B <= w.heap.size)
  (hrow:0<n -> RB w (gr (k 3)) n (A (k 3))) (hlr:0<n -> B <= gr (k 3)) (har:0<n -> ∀i,(v i).ownBlock≠some (gr (k 3))) (hrr:0<n -> ∀j,j<k 3 -> gr j≠gr (k 3)):BegS w' B n (upd k 3 (k 3+1)) (upd v 3 v') gr cr A b c:=by
 obtain⟨xs,hxs,_⟩:=h.o3;have he:95≠160:=by decide
 obtain⟨g1,g2,g3⟩:=h.grow ht hB (fun g hg=>ho.lt hg) h.rowlt;have hk:upd k 3 (k 3+1) 3=k 3+1:=rfl;have last:∀j,j<k 3+1 -> j<k 3 \/ j=k 3:=fun j hj=>by omega
 refine⟨h.o0.turned ht (h.apart' (by decide)),h.o1.turned ht (h.apart' (by decide)),h.o2.turned ht hxs he (h.apart' (by decide)),ho,h.o4.turned ht hxs he (h.apart' (by decide)),fun hn j hj=> ?_,g1,fun hn i j hj=> ?_,fun hn i j hi hj=> ?_,g3,fun hn j hj=> ?_⟩
 ·rw[hk] at hj
  rcases last j hj with hj | rfl
  ·exact(h.rows hn j hj).turned ht hxs he (h.ar hn 3 j hj)
  ·exact(hrow hn).turned ht hxs he (har hn 3)
 ·rw[hk] at hj
  rcases last j hj with hj | rfl
  ·exact g2 hn i j hj
  ·by_cases e:i=3
   ·subst e;rw[Lp.upd_same];exact ht.apart (hrow hn).lt (har hn 3)
   ·rw[Lp.upd_other _ _ e];exact har hn i
 ·rw[hk] at hi hj;intro e
  rcases last i hi with hi | rfl <;> rcases last j hj with hj | rfl
  ·exact h.rr hn i j hi hj e
  ·exact absurd e (hrr hn i hi)
  ·exact absurd e.symm (hrr hn j hj)
  ·rfl
 ·rw[hk] at hj
  rcases last j hj with hj | rfl
  ·exact h.lr hn j hj
  ·exact hlr hn
theorem BegS.tabl{m gt c0 c1 c2 c3 c4:Nat}{A0 A1 A2 A3 A4:Option Addr}(h:BegS w B n k v gr cr A b c)(hk:k 0=m /\ k 1=n /\ k 2=m /\ k 3=m /\ k 4=n)
  (hv:v 0= .slice A0 m c0 /\ v 1= .slice A1 n c1 /\ v 2= .slice A2 m c2 /\ v 3= .slice A3 m c3 /\ v 4= .slice A4 n c4) (hgt:gt<B)
  (hr:Row w gt 148 [.int .i64 (n:Nat), .slice A0 m c0, .slice A1 n c1, .slice A2 m c2, .slice A3 m c3, .slice A4 n c4, .bool false, .slice none 0 0, .bool false, .slice none 0 0]):
  ∃L:Lay,L.gt=gt /\ Tabl w L m n (Dict.init n A b c) /\ ∀k,L.blocks m k -> gt <= k:=by
 obtain⟨k0,k1,k2,k3,k4⟩:=hk;obtain⟨v0,v1,v2,v3,v4⟩:=hv;have o0:=h.o0;have o1:=h.o1;have o2:=h.o2;have o3:=h.o3;have o4:=h.o4;have hap:=h.ap;have har:=h.ar;have hlo:=h.lo;rw[k0] at o0;rw[k1] at o1;rw[k2] at o2;rw[k3] at o3;rw[k4] at o4;obtain⟨bl,hbl⟩:∃bl:Option Addr -> Nat,bl=fun A=>(A.map (·.block)).getD gt:=⟨_,rfl⟩
 have b1:∀g,bl (some ⟨g,0,none⟩)=g:=fun g=>by rw[hbl];rfl
 have bge:∀i X l x,v i= .slice X l x -> gt <= bl X:=by
  intro i X l x e;rw[hbl];cases X with
  | none=>exact Nat.le_refl _
  | some a=>
   have:=(hlo i a.block (by rw[e];rfl)).1;show gt <= a.block;omega
 obtain⟨gr',hgr'⟩:∃gr':Nat -> Nat,gr'=if 0<n then gr else fun _=>gt:=⟨_,rfl⟩
 have hgp:0<n -> gr'=gr:=fun hn=>by rw[hgr',if_pos hn]
 have own:∀i X l x g,v i= .slice X l x -> X=some ⟨g,0,none⟩ -> (v i).ownBlock=some g:=fun i X l x g e e'=>by rw[e,e'];rfl
 refine⟨⟨gt,bl A0,bl A1,bl A2,bl A3,bl A4,gr',cr,c0,c1,c2,c3,c4,A0,A1,A2,A3,A4⟩,rfl,?_,?_⟩
 ·have d0:=fun hm:0<m=>o0.done hm
  have d1:=fun hn:0<n=>o1.done hn
  have d2:=fun hm:0<m=>o2.done hm
  have d3:=fun hm:0<m=>o3.done hm
  have d4:=fun hn:0<n=>o4.done hn
  rw[v0] at d0;rw[v1] at d1;rw[v2] at d2;rw[v3] at d3;rw[v4] at d4;refine⟨⟨false,none,0,0,false,none,0,0,hr,IsRat.zero_ w⟩,fun hm=> ?_,fun hn=> ?_,fun hm=> ?_,fun hn=> ?_,fun hm=> ?_,fun hn=> ?_,fun hm=> ?_,fun hn r hrm=> ?_,fun hm hn=> ?_,fun hm hn=> ?_,fun hn r hrm=> ?_,fun hn r s hr' hs=> ?_⟩
  ·obtain⟨g,x,cs,e,_⟩:=d0 hm;obtain⟨g2,x2,e2,_⟩:=d2 hm;obtain⟨g3,x3,cs3,e3,_⟩:=d3 hm;simp only[Value.slice.injEq,true_and] at e e2 e3;simp only[];rw[e.1,e2.1,e3.1,b1,b1,b1];exact⟨rfl,rfl,rfl⟩
  ·obtain⟨g,x,cs,e,_⟩:=d1 hn;obtain⟨g2,x2,e2,_⟩:=d4 hn;simp only[Value.slice.injEq,true_and] at e e2;simp only[];rw[e.1,e2.1,b1,b1];exact⟨rfl,rfl⟩
  ·obtain⟨g,x,cs,e,hrow,hl,hc⟩:=d0 hm;simp only[Value.slice.injEq,true_and] at e;simp only[];rw[e.1,b1];refine⟨cs,hrow,hl,fun j hj=> ?_⟩;obtain⟨u,h1,h2⟩:=hc j hj;rw[h1];unfold pInt at h2;rw[h2];rfl
  ·obtain⟨g,x,cs,e,hrow,hl,hc⟩:=d1 hn;simp only[Value.slice.injEq,true_and] at e;simp only[];rw[e.1,b1];refine⟨cs,hrow,hl,fun j hj=> ?_⟩;obtain⟨u,h1,h2⟩:=hc j hj;rw[h1];unfold pInt at h2;rw[h2];rfl
  ·obtain⟨g,x,e,hrb⟩:=d2 hm;simp only[Value.slice.injEq,true_and] at e;simp only[];rw[e.1,b1];exact hrb
  ·obtain⟨g,x,e,hrb⟩:=d4 hn;simp only[Value.slice.injEq,true_and] at e;simp only[];rw[e.1,b1];exact hrb
  ·obtain⟨g,x,cs,e,hrow,hl,hc⟩:=d3 hm;simp only[Value.slice.injEq,true_and] at e;simp only[];rw[e.1,b1];refine⟨cs,hrow,hl,fun j hj=> ?_⟩;obtain⟨u,h1,X,h2,h3⟩:=hc j hj;exact⟨X,by rw[h1,h2],fun hn=>by rw[hgp hn];exact h3 hn⟩
  ·simp only[];rw[hgp hn];exact h.rows hn r (by omega)
  ·obtain⟨g,x,cs,e,_⟩:=d0 hm;obtain⟨g2,x2,cs2,e2,_⟩:=d1 hn;simp only[Value.slice.injEq,true_and] at e e2;simp only[];rw[e.1,e2.1,b1,b1];intro e9;subst e9;exact hap 0 1 (by decide) g (own 0 _ _ _ g v0 e.1) (own 1 _ _ _ g v1 e2.1)
  ·obtain⟨g,x,e,_⟩:=d2 hm;obtain⟨g2,x2,e2,_⟩:=d4 hn;simp only[Value.slice.injEq,true_and] at e e2;simp only[];rw[e.1,e2.1,b1,b1];intro e9;subst e9;exact hap 2 4 (by decide) g (own 2 _ _ _ g v2 e.1) (own 4 _ _ _ g v4 e2.1)
  ·obtain⟨g,x,e,_⟩:=d2 (by omega);obtain⟨g2,x2,e2,_⟩:=d4 hn;simp only[Value.slice.injEq,true_and] at e e2;simp only[];rw[e.1,e2.1,b1,b1,hgp hn];exact⟨fun e9=>har hn 2 r (by omega) (by rw[own 2 _ _ _ g v2 e.1,e9]),fun e9=>har hn 4 r (by omega) (by rw[own 4 _ _ _ g2 v4 e2.1,e9])⟩
  ·simp only[];rw[hgp hn];exact h.rr hn r s (by omega) (by omega)
 ·intro kk hkk;unfold Lay.blocks at hkk;simp only[] at hkk
  rcases hkk with e | e | e | e | e | e | ⟨r,hrm,e⟩
  ·omega
  ·rw[e];exact bge 0 _ _ _ v0
  ·rw[e];exact bge 1 _ _ _ v1
  ·rw[e];exact bge 2 _ _ _ v2
  ·rw[e];exact bge 3 _ _ _ v3
  ·rw[e];exact bge 4 _ _ _ v4
  ·rw[e,hgr'];split
   ·rename_i hn;have:=h.lr hn r (by omega);omega
   ·exact Nat.le_refl _
end
def vs5(a b c d e:Value):Nat -> Value
 | 0=>a
 | 1=>b
 | 2=>c
 | 3=>d
 | 4=>e
 | _=> .slice none 0 0
def ks5(a b c d e:Nat):Nat -> Nat
 | 0=>a
 | 1=>b
 | 2=>c
 | 3=>d
 | 4=>e
 | _=>0
section
variable (a b c d e x:Value) (ka kb kc kd ke kx:Nat)
theorem vs5_start:(fun _=> .slice none 0 0)=vs5 (.slice none 0 0) (.slice none 0 0) (.slice none 0 0) (.slice none 0 0) (.slice none 0 0):=by funext i;match i with | 0 | 1 | 2 | 3 | 4 | (_+5)=>rfl
theorem ks5_start:(fun _=>0)=ks5 0 0 0 0 0:=by funext i;match i with | 0 | 1 | 2 | 3 | 4 | (_+5)=>rfl
theorem vs5_0:upd (vs5 a b c d e) 0 x=vs5 x b c d e:=by funext i;match i with | 0 | 1 | 2 | 3 | 4 | (_+5)=>rfl
theorem vs5_1:upd (vs5 a b c d e) 1 x=vs5 a x c d e:=by funext i;match i with | 0 | 1 | 2 | 3 | 4 | (_+5)=>rfl
theorem vs5_2:upd (vs5 a b c d e) 2 x=vs5 a b x d e:=by funext i;match i with | 0 | 1 | 2 | 3 | 4 | (_+5)=>rfl
theorem vs5_3:upd (vs5 a b c d e) 3 x=vs5 a b c x e:=by funext i;match i with | 0 | 1 | 2 | 3 | 4 | (_+5)=>rfl
theorem vs5_4:upd (vs5 a b c d e) 4 x=vs5 a b c d x:=by funext i;match i with | 0 | 1 | 2 | 3 | 4 | (_+5)=>rfl
theorem ks5_0:upd (ks5 ka kb kc kd ke) 0 kx=ks5 kx kb kc kd ke:=by funext i;match i with | 0 | 1 | 2 | 3 | 4 | (_+5)=>rfl
theorem ks5_1:upd (ks5 ka kb kc kd ke) 1 kx=ks5 ka kx kc kd ke:=by funext i;match i with | 0 | 1 | 2 | 3 | 4 | (_+5)=>rfl
theorem ks5_2:upd (ks5 ka kb kc kd ke) 2 kx=ks5 ka kb kx kd ke:=by funext i;match i with | 0 | 1 | 2 | 3 | 4 | (_+5)=>rfl
theorem ks5_3:upd (ks5 ka kb kc kd ke) 3 kx=ks5 ka kb kc kx ke:=by funext i;match i with | 0 | 1 | 2 | 3 | 4 | (_+5)=>rfl
theorem ks5_4:upd (ks5 ka kb kc kd ke) 4 kx=ks5 ka kb kc kd kx:=by funext i;match i with | 0 | 1 | 2 | 3 | 4 | (_+5)=>rfl
end
end
end Go.Proofs.YtdefghfjhgmpfaaGreatDoor
