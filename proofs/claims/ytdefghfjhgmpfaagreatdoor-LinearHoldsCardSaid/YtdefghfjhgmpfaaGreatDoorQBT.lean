/- Parts of this proof: KnownL. -/
import Derived.Test.YtdefghfjhgmpfaaGreatDoorQBK
import Derived.Test.YtdefghfjhgmpfaaGreatDoorQBS
namespace Go.Proofs.YtdefghfjhgmpfaaGreatDoor
open Go.RowKit
open Lp (RL upd Dict)
def ex3O:List ByteArray:=[⟨#[48]⟩]
def ex3R:RowL:=[([⟨#[49]⟩],⟨#[49]⟩),([⟨#[45,49]⟩],⟨#[45,50]⟩)]
def ex4O:List ByteArray:=[⟨#[49]⟩]
def ex4R:RowL:=[([⟨#[45,49]⟩],⟨#[48]⟩)]
section
variable {w:World} {K:Nat} {A:Nat -> Nat -> Rat} {b c:Nat -> Rat} {v:Value}
theorem exS1(h:ProgIs 2 3 (lst exO) (rwT exR) (rwB exR) A b c)(ho:OutT w 3 2 K A b c v):∃P cp Y cy,v= .agg #[.int .i64 1, .string ⟨#[52]⟩, .slice P 2 cp, .slice Y 3 cy, .slice none 0 0]:=
 ex1 ⟨(byt (h.rows 0 (by omega) 0 (by omega)).symm.symm (by kernel_rfl)),byt (h.rows 0 (by omega) 1 (by omega)) (by kernel_rfl),byt (h.rows 1 (by omega) 0 (by omega)) (by kernel_rfl),byt (h.rows 1 (by omega) 1 (by omega)) (by kernel_rfl),byt (h.rows 2 (by omega) 0 (by omega)) (by kernel_rfl),byt (h.rows 2 (by omega) 1 (by omega)) (by kernel_rfl)⟩
  ⟨byt (h.bounds 0 (by omega)) (by kernel_rfl),byt (h.bounds 1 (by omega)) (by kernel_rfl),byt (h.bounds 2 (by omega)) (by kernel_rfl)⟩ ⟨byt (h.obj 0 (by omega)) (by kernel_rfl),byt (h.obj 1 (by omega)) (by kernel_rfl)⟩ ho
theorem exS2(h:ProgIs 2 2 (lst exO) (rwT exR) (rwB exR) A b c)(ho:OutT w 2 2 K A b c v):∃P cp Y cy,v= .agg #[.int .i64 1, .string ⟨#[53]⟩, .slice P 2 cp, .slice Y 2 cy, .slice none 0 0]:=
 ex2 ⟨byt (h.rows 0 (by omega) 0 (by omega)) (by kernel_rfl),byt (h.rows 0 (by omega) 1 (by omega)) (by kernel_rfl),byt (h.rows 1 (by omega) 0 (by omega)) (by kernel_rfl),byt (h.rows 1 (by omega) 1 (by omega)) (by kernel_rfl)⟩
  ⟨byt (h.bounds 0 (by omega)) (by kernel_rfl),byt (h.bounds 1 (by omega)) (by kernel_rfl)⟩ ⟨byt (h.obj 0 (by omega)) (by kernel_rfl),byt (h.obj 1 (by omega)) (by kernel_rfl)⟩ ho
theorem exS3(h:ProgIs 1 2 (lst ex3O) (rwT ex3R) (rwB ex3R) A b c)(ho:OutT w 2 1 K A b c v):∃Y cy,v= .agg #[.int .i64 2, .string ⟨#[]⟩, .slice none 0 0, .slice Y 2 cy, .slice none 0 0]:=
 ex3 ⟨byt (h.rows 0 (by omega) 0 (by omega)) (by kernel_rfl),byt (h.rows 1 (by omega) 0 (by omega)) (by kernel_rfl)⟩ ⟨byt (h.bounds 0 (by omega)) (by kernel_rfl),byt (h.bounds 1 (by omega)) (by kernel_rfl)⟩ ho
theorem exS4(h:ProgIs 1 1 (lst ex4O) (rwT ex4R) (rwB ex4R) A b c)(ho:OutT w 1 1 K A b c v):∃P cp R cr,v= .agg #[.int .i64 3, .string ⟨#[]⟩, .slice P 1 cp, .slice none 0 0, .slice R 1 cr]:=
 ex4 (byt (h.rows 0 (by omega) 0 (by omega)) (by kernel_rfl)) (byt (h.bounds 0 (by omega)) (by kernel_rfl)) (byt (h.obj 0 (by omega)) (by kernel_rfl)) ho
end
theorem TRows.take{w:World}{A:Option Addr}{m m' c c':Nat}{k:Nat -> Nat}{t:Nat -> Nat -> ByteArray}{b:Nat -> ByteArray}(h:TRows w (.slice A m c) m k t b)(hm:m' <= m)(hc:m' <= c')(hcm:c' <= maxLen):TRows w (.slice A m' c') m' k t b:=by
 rcases Nat.eq_zero_or_pos m with h0 | h0
 ·exact⟨A,c',rfl,hc,hcm, .inl (by omega)⟩
 ·obtain⟨g,o,hA,hr⟩:=h.at_ h0;exact⟨A,c',rfl,hc,hcm, .inr ⟨g,o,hA,fun i hi=>hr i (by omega)⟩⟩
theorem solve_of(O:List ByteArray)(R:RowL)(n m:Nat)(AO AR:Option Addr)(cO cR:Nat)(w:World)(ho:TS w (.slice AO n cO) n (lst O))(hr:TRows w (.slice AR m cR) m (rwK R) (rwT R) (rwB R))(hn:n <= 3)(hm:m <= 3)
  (hE:progE n m (rwK R) (lst O) (rwT R) (rwB R)=0) (hs:(∀j,j<n -> (lst O j).size <= 2) /\ (∀i,i<m -> ∀j,j<rwK R i -> (rwT R i j).size <= 2) /\ ∀i,i<m -> (rwB R i).size <= 2) (hg:Glob w) (ht:Tab w):
  Calls Tryz.prog 36 #[.agg #[.slice AO n cO, .slice AR m cR]] w fun e w'=>∃A bq c v,ProgIs n m (lst O) (rwT R) (rwB R) A bq c /\ OutT w' m n (Lp.wide m n 2+1) A bq c v /\ e= .returned (.tuple #[v, .int .i64 0]) /\ Below w.heap.size w w':=by
 have hgr:Lp.wide m n 2+1 <= 1000000:=by
  have h1:=Lp.wide_le (m:=m) (n:=n) (k:=2) (show min m n <= 3 by omega) hn (Nat.le_refl _);have h2:Lp.wb 3 (2* (3+2))+2* (3+1) <= 1000:=by decide
  omega
 refine(lsolve_walk AO AR n m cO cR (rwK R) (lst O) (rwT R) (rwB R) 2 w ho hr (by omega) (by omega) (fun j hj=>by have:=hs.1 j hj;omega) (fun i hi j hj=>by have:=hs.2.1 i hi j hj;omega) (fun i hi=>by have:=hs.2.2 i hi;omega) (by decide) hgr hs.1 hs.2.1 hs.2.2 ht hg).mono ?_;rintro e w' ⟨h | h,hb⟩
 ·exact absurd hE h.1
 ·obtain⟨_,A,bq,c,v,h1,h2,h3⟩:=h;exact⟨A,bq,c,v,h1,h2,h3,hb⟩
set_option maxRecDepth 100000 in
set_option maxHeartbeats 6400000 in
theorem known_walk(w:World)(hg:Glob w)(ht:Tab w):
  Calls Tryz.prog 16 #[] w fun e w'=>e= .returned (.bool true) /\ Below w.heap.size w w':=by
 have HGL:=lH hg;have HTB:=lH ht;clear hg ht;go_enter Tryz.func16,Tryz.ntmps16;go_wp2_with fail
 refine(example_walk _).mono ?_;rintro e w1 ⟨go,gr,rfl,hto,htr,_,hb⟩;have HB:=lH hb;have T1:=lH hto;have T2:=lH htr;clear hb hto htr;obtain⟨w2,hw_p⟩:=eX (w1.alloc (.cells #[.slice (some ⟨go,0,none⟩) 2 2, .slice (some ⟨gr,0,none⟩) 3 3] 25));obtain⟨bp,hp_p⟩:=eX (w1.heap.size);have hb:Below w1.heap.size w1 w2:=by rw[hw_p];exact below_new _ _
 have Bp:Hid (Row w2 bp 25 [.slice (some ⟨go,0,none⟩) 2 2, .slice (some ⟨gr,0,none⟩) 3 3]):=lH (by rw[hw_p,hp_p];exact heap_new _ _);replace T1:=lH (T1.out.below hb);replace T2:=lH (T2.out.below hb);replace HB:=bT HB hb;clear hb;go_wp2_with fail
 have e_p:w1.heap.size=bp:=by rw[hp_p]
 rw[<- hw_p]
 try rw[e_p]
 clear hw_p hp_p e_p;refine(solve_of exO exR 2 3 _ _ 2 3 _ T1.out T2.out (by decide) (by decide) (by decide+kernel) (by decide+kernel) (HGL.out.below HB.out) (HTB.out.below HB.out)).mono ?_;rintro e w3 ⟨Af,bf,cf,v,hP,hO,rfl,hb⟩;replace T1:=lH (T1.out.below hb);replace T2:=lH (T2.out.below hb);replace Bp:=rW Bp hb;replace HB:=bT HB hb;clear hb;obtain⟨P1,c1,Y1,d1,rfl⟩:=exS1 hP hO;clear hP hO;have BA:=Bp.out.below (below_new w3 (.cells #[.int .i64 1, .string ⟨#[52]⟩, .slice P1 2 c1, .slice Y1 3 d1, .slice none 0 0] 32)) Bp.out.lt;have BQ:=BA.below (below_new _ (.cells #[.slice (some ⟨go,0,none⟩) 2 2, .slice (some ⟨gr,0,none⟩) 3 3] 25)) BA.lt;have k0:=BA.at_ 0 rfl;have k1:=BA.at_ 1 rfl;have kl:=BA.lt;have m0:=BQ.at_ 0 rfl;have m1:=BQ.at_ 1 rfl;have ml:=BQ.lt;clear BQ BA;obtain⟨w4,hw_a⟩:=eX (w3.alloc (.cells #[.int .i64 1, .string ⟨#[52]⟩, .slice P1 2 c1, .slice Y1 3 d1, .slice none 0 0] 32));obtain⟨ba,hp_a⟩:=eX (w3.heap.size);have hb:Below w3.heap.size w3 w4:=by rw[hw_a];exact below_new _ _
 have Ba:Hid (Row w4 ba 32 [.int .i64 1, .string ⟨#[52]⟩, .slice P1 2 c1, .slice Y1 3 d1, .slice none 0 0]):=lH (by rw[hw_a,hp_a];exact heap_new _ _);replace T1:=lH (T1.out.below hb);replace T2:=lH (T2.out.below hb);replace Bp:=rW Bp hb;replace HB:=bT HB hb;clear hb;obtain⟨w5,hw_q⟩:=eX (w4.alloc (.cells #[.slice (some ⟨go,0,none⟩) 2 2, .slice (some ⟨gr,0,none⟩) 2 3] 25));obtain⟨bq,hp_q⟩:=eX (w4.heap.size);have hb:Below w4.heap.size w4 w5:=by rw[hw_q];exact below_new _ _
 have Bq:Hid (Row w5 bq 25 [.slice (some ⟨go,0,none⟩) 2 2, .slice (some ⟨gr,0,none⟩) 2 3]):=lH (by rw[hw_q,hp_q];exact heap_new _ _);replace T1:=lH (T1.out.below hb);replace T2:=lH (T2.out.below hb);replace Bp:=rW Bp hb;replace Ba:=rW Ba hb;replace HB:=bT HB hb;clear hb;go_wp2_with fail
 have e_a:w3.heap.size=ba:=by rw[hp_a]
 have e_q:w3.heap.size+1=bq:=by rw[hp_q,hw_a];simp
 rw[<- hw_a, <- hw_q]
 try rw[e_q]
 try rw[e_a]
 clear hw_a hp_a e_a hw_q hp_q e_q;clear k0 k1 kl m0 m1 ml;refine(solve_of exO exR 2 2 _ _ 2 3 _ T1.out (T2.out.take (by decide) (by decide) (by unfold maxLen;decide)) (by decide) (by decide) (by decide+kernel) (by decide+kernel) (HGL.out.below HB.out) (HTB.out.below HB.out)).mono ?_;rintro e w6 ⟨Af,bf,cf,v,hP,hO,rfl,hb⟩;replace T1:=lH (T1.out.below hb);replace T2:=lH (T2.out.below hb);replace Bp:=rW Bp hb;replace Ba:=rW Ba hb;replace Bq:=rW Bq hb;replace HB:=bT HB hb;clear hb;obtain⟨P2,c2,Y2,d2,rfl⟩:=exS2 hP hO;clear hP hO;obtain⟨w7,hw_b⟩:=eX (w6.alloc (.cells #[.int .i64 1, .string ⟨#[53]⟩, .slice P2 2 c2, .slice Y2 2 d2, .slice none 0 0] 32));obtain⟨bb,hp_b⟩:=eX (w6.heap.size);have hb:Below w6.heap.size w6 w7:=by rw[hw_b];exact below_new _ _
 have Bb:Hid (Row w7 bb 32 [.int .i64 1, .string ⟨#[53]⟩, .slice P2 2 c2, .slice Y2 2 d2, .slice none 0 0]):=lH (by rw[hw_b,hp_b];exact heap_new _ _);replace T1:=lH (T1.out.below hb);replace T2:=lH (T2.out.below hb);replace Bp:=rW Bp hb;replace Ba:=rW Ba hb;replace Bq:=rW Bq hb;replace HB:=bT HB hb;clear hb;obtain⟨w8,hw_o3⟩:=eX (w7.alloc (.cells #[.string ⟨#[48]⟩] 30));obtain⟨bo3,hp_o3⟩:=eX (w7.heap.size);have hb:Below w7.heap.size w7 w8:=by rw[hw_o3];exact below_new _ _
 have Bo3:Hid (Row w8 bo3 30 [.string ⟨#[48]⟩]):=lH (by rw[hw_o3,hp_o3];exact heap_new _ _);replace T1:=lH (T1.out.below hb);replace T2:=lH (T2.out.below hb);replace Bp:=rW Bp hb;replace Ba:=rW Ba hb;replace Bq:=rW Bq hb;replace Bb:=rW Bb hb;replace HB:=bT HB hb;clear hb;obtain⟨w9,hw_r3⟩:=eX (w8.alloc (.cells #[.string ⟨#[49]⟩] 30));obtain⟨br3,hp_r3⟩:=eX (w8.heap.size);have hb:Below w8.heap.size w8 w9:=by rw[hw_r3];exact below_new _ _
 have Br3:Hid (Row w9 br3 30 [.string ⟨#[49]⟩]):=lH (by rw[hw_r3,hp_r3];exact heap_new _ _);replace T1:=lH (T1.out.below hb);replace T2:=lH (T2.out.below hb);replace Bp:=rW Bp hb;replace Ba:=rW Ba hb;replace Bq:=rW Bq hb;replace Bb:=rW Bb hb;replace Bo3:=rW Bo3 hb;replace HB:=bT HB hb;clear hb;go_wp2_with fail
 have e_b:w6.heap.size=bb:=by rw[hp_b]
 have e_o3:w6.heap.size+1=bo3:=by rw[hp_o3,hw_b];simp
 have e_r3:w6.heap.size+1+1=br3:=by rw[hp_r3,hw_o3,hw_b];simp
 rw[<- hw_b, <- hw_o3, <- hw_r3]
 try rw[e_r3]
 try rw[e_o3]
 try rw[e_b]
 clear hw_b hp_b e_b hw_o3 hp_o3 e_o3 hw_r3 hp_r3 e_r3;refine(row_walk _ _ 1 1 _).mono ?_;rintro e w10 ⟨rfl,hb⟩;replace T1:=lH (T1.out.below hb);replace T2:=lH (T2.out.below hb);replace Bp:=rW Bp hb;replace Ba:=rW Ba hb;replace Bq:=rW Bq hb;replace Bb:=rW Bb hb;replace Bo3:=rW Bo3 hb;replace Br3:=rW Br3 hb;replace HB:=bT HB hb;clear hb;obtain⟨w11,hw_s3⟩:=eX (w10.alloc (.cells #[.string ⟨#[45,49]⟩] 30));obtain⟨bs3,hp_s3⟩:=eX (w10.heap.size);have hb:Below w10.heap.size w10 w11:=by rw[hw_s3];exact below_new _ _
 have Bs3:Hid (Row w11 bs3 30 [.string ⟨#[45,49]⟩]):=lH (by rw[hw_s3,hp_s3];exact heap_new _ _);replace T1:=lH (T1.out.below hb);replace T2:=lH (T2.out.below hb);replace Bp:=rW Bp hb;replace Ba:=rW Ba hb;replace Bq:=rW Bq hb;replace Bb:=rW Bb hb;replace Bo3:=rW Bo3 hb;replace Br3:=rW Br3 hb;replace HB:=bT HB hb;clear hb;go_wp2_with fail
 have e_s3:w10.heap.size=bs3:=by rw[hp_s3]
 rw[<- hw_s3]
 try rw[e_s3]
 clear hw_s3 hp_s3 e_s3;refine(row_walk _ _ 1 1 _).mono ?_;rintro e w12 ⟨rfl,hb⟩;replace T1:=lH (T1.out.below hb);replace T2:=lH (T2.out.below hb);replace Bp:=rW Bp hb;replace Ba:=rW Ba hb;replace Bq:=rW Bq hb;replace Bb:=rW Bb hb;replace Bo3:=rW Bo3 hb;replace Br3:=rW Br3 hb;replace Bs3:=rW Bs3 hb;replace HB:=bT HB hb;clear hb;obtain⟨w13,hw_c3⟩:=eX (w12.alloc (.cells #[.slice (some ⟨br3,0,none⟩) 1 1, .string ⟨#[49]⟩, .slice (some ⟨bs3,0,none⟩) 1 1, .string ⟨#[45,50]⟩] 53));obtain⟨bc3,hp_c3⟩:=eX (w12.heap.size);have hb:Below w12.heap.size w12 w13:=by rw[hw_c3];exact below_new _ _
 have Bc3:Hid (Row w13 bc3 53 [.slice (some ⟨br3,0,none⟩) 1 1, .string ⟨#[49]⟩, .slice (some ⟨bs3,0,none⟩) 1 1, .string ⟨#[45,50]⟩]):=lH (by rw[hw_c3,hp_c3];exact heap_new _ _);replace T1:=lH (T1.out.below hb);replace T2:=lH (T2.out.below hb);replace Bp:=rW Bp hb;replace Ba:=rW Ba hb;replace Bq:=rW Bq hb;replace Bb:=rW Bb hb;replace Bo3:=rW Bo3 hb;replace Br3:=rW Br3 hb;replace Bs3:=rW Bs3 hb;replace HB:=bT HB hb;clear hb;go_wp2_with fail
 have e_c3:w12.heap.size=bc3:=by rw[hp_c3]
 rw[<- hw_c3]
 try rw[e_c3]
 clear hw_c3 hp_c3 e_c3
 have T3:=lH (trows_row (m:=2) (c:=2) (k:=rwK ex3R) (t:=rwT ex3R) (b:=rwB ex3R) Bc3.out (by decide) (by unfold maxLen;decide) (by
  intro i hi
  rcases i with _ | _ | i
  ·exact⟨_,rfl,rfl,ts_row [⟨#[49]⟩] Br3.out (by unfold maxLen;decide)⟩
  ·exact⟨_,rfl,rfl,ts_row [⟨#[45,49]⟩] Bs3.out (by unfold maxLen;decide)⟩
  ·omega))
 refine(solve_of ex3O ex3R 1 2 _ _ 1 2 _ (ts_row ex3O Bo3.out (by unfold maxLen;decide)) T3.out (by decide) (by decide) (by decide+kernel) (by decide+kernel) (HGL.out.below HB.out) (HTB.out.below HB.out)).mono ?_;rintro e w14 ⟨Af,bf,cf,v,hP,hO,rfl,hb⟩;replace T1:=lH (T1.out.below hb);replace T2:=lH (T2.out.below hb);replace Bp:=rW Bp hb;replace Ba:=rW Ba hb;replace Bq:=rW Bq hb;replace Bb:=rW Bb hb;replace Bo3:=rW Bo3 hb;replace Br3:=rW Br3 hb;replace Bs3:=rW Bs3 hb;replace Bc3:=rW Bc3 hb;replace HB:=bT HB hb;clear hb;obtain⟨Y3,d3,rfl⟩:=exS3 hP hO;clear hP hO;obtain⟨w15,hw_c⟩:=eX (w14.alloc (.cells #[.int .i64 2, .string ⟨#[]⟩, .slice none 0 0, .slice Y3 2 d3, .slice none 0 0] 32));obtain⟨bc,hp_c⟩:=eX (w14.heap.size);have hb:Below w14.heap.size w14 w15:=by rw[hw_c];exact below_new _ _
 have Bc:Hid (Row w15 bc 32 [.int .i64 2, .string ⟨#[]⟩, .slice none 0 0, .slice Y3 2 d3, .slice none 0 0]):=lH (by rw[hw_c,hp_c];exact heap_new _ _);replace T1:=lH (T1.out.below hb);replace T2:=lH (T2.out.below hb);replace Bp:=rW Bp hb;replace Ba:=rW Ba hb;replace Bq:=rW Bq hb;replace Bb:=rW Bb hb;replace Bo3:=rW Bo3 hb;replace Br3:=rW Br3 hb;replace Bs3:=rW Bs3 hb;replace Bc3:=rW Bc3 hb;replace HB:=bT HB hb;clear hb;obtain⟨w16,hw_o4⟩:=eX (w15.alloc (.cells #[.string ⟨#[49]⟩] 30));obtain⟨bo4,hp_o4⟩:=eX (w15.heap.size);have hb:Below w15.heap.size w15 w16:=by rw[hw_o4];exact below_new _ _
 have Bo4:Hid (Row w16 bo4 30 [.string ⟨#[49]⟩]):=lH (by rw[hw_o4,hp_o4];exact heap_new _ _);replace T1:=lH (T1.out.below hb);replace T2:=lH (T2.out.below hb);replace Bp:=rW Bp hb;replace Ba:=rW Ba hb;replace Bq:=rW Bq hb;replace Bb:=rW Bb hb;replace Bo3:=rW Bo3 hb;replace Br3:=rW Br3 hb;replace Bs3:=rW Bs3 hb;replace Bc3:=rW Bc3 hb;replace Bc:=rW Bc hb;replace HB:=bT HB hb;clear hb;obtain⟨w17,hw_r4⟩:=eX (w16.alloc (.cells #[.string ⟨#[45,49]⟩] 30));obtain⟨br4,hp_r4⟩:=eX (w16.heap.size);have hb:Below w16.heap.size w16 w17:=by rw[hw_r4];exact below_new _ _
 have Br4:Hid (Row w17 br4 30 [.string ⟨#[45,49]⟩]):=lH (by rw[hw_r4,hp_r4];exact heap_new _ _);replace T1:=lH (T1.out.below hb);replace T2:=lH (T2.out.below hb);replace Bp:=rW Bp hb;replace Ba:=rW Ba hb;replace Bq:=rW Bq hb;replace Bb:=rW Bb hb;replace Bo3:=rW Bo3 hb;replace Br3:=rW Br3 hb;replace Bs3:=rW Bs3 hb;replace Bc3:=rW Bc3 hb;replace Bc:=rW Bc hb;replace Bo4:=rW Bo4 hb;replace HB:=bT HB hb;clear hb;go_wp2_with fail
 have e_c:w14.heap.size=bc:=by rw[hp_c]
 have e_o4:w14.heap.size+1=bo4:=by rw[hp_o4,hw_c];simp
 have e_r4:w14.heap.size+1+1=br4:=by rw[hp_r4,hw_o4,hw_c];simp
 rw[<- hw_c, <- hw_o4, <- hw_r4]
 try rw[e_r4]
 try rw[e_o4]
 try rw[e_c]
 clear hw_c hp_c e_c hw_o4 hp_o4 e_o4 hw_r4 hp_r4 e_r4;refine(row_walk _ _ 1 1 _).mono ?_;rintro e w18 ⟨rfl,hb⟩;replace T1:=lH (T1.out.below hb);replace T2:=lH (T2.out.below hb);replace Bp:=rW Bp hb;replace Ba:=rW Ba hb;replace Bq:=rW Bq hb;replace Bb:=rW Bb hb;replace Bo3:=rW Bo3 hb;replace Br3:=rW Br3 hb;replace Bs3:=rW Bs3 hb;replace Bc3:=rW Bc3 hb;replace Bc:=rW Bc hb;replace Bo4:=rW Bo4 hb;replace Br4:=rW Br4 hb;replace HB:=bT HB hb;clear hb;obtain⟨w19,hw_c4⟩:=eX (w18.alloc (.cells #[.slice (some ⟨br4,0,none⟩) 1 1, .string ⟨#[48]⟩] 53));obtain⟨bc4,hp_c4⟩:=eX (w18.heap.size);have hb:Below w18.heap.size w18 w19:=by rw[hw_c4];exact below_new _ _
 have Bc4:Hid (Row w19 bc4 53 [.slice (some ⟨br4,0,none⟩) 1 1, .string ⟨#[48]⟩]):=lH (by rw[hw_c4,hp_c4];exact heap_new _ _);replace T1:=lH (T1.out.below hb);replace T2:=lH (T2.out.below hb);replace Bp:=rW Bp hb;replace Ba:=rW Ba hb;replace Bq:=rW Bq hb;replace Bb:=rW Bb hb;replace Bo3:=rW Bo3 hb;replace Br3:=rW Br3 hb;replace Bs3:=rW Bs3 hb;replace Bc3:=rW Bc3 hb;replace Bc:=rW Bc hb;replace Bo4:=rW Bo4 hb;replace Br4:=rW Br4 hb;replace HB:=bT HB hb;clear hb;go_wp2_with fail
 have e_c4:w18.heap.size=bc4:=by rw[hp_c4]
 rw[<- hw_c4]
 try rw[e_c4]
 clear hw_c4 hp_c4 e_c4
 have T4:=lH (trows_row (m:=1) (c:=1) (k:=rwK ex4R) (t:=rwT ex4R) (b:=rwB ex4R) Bc4.out (by decide) (by unfold maxLen;decide) (by
  intro i hi
  rcases i with _ | i
  ·exact⟨_,rfl,rfl,ts_row [⟨#[45,49]⟩] Br4.out (by unfold maxLen;decide)⟩
  ·omega))
 refine(solve_of ex4O ex4R 1 1 _ _ 1 1 _ (ts_row ex4O Bo4.out (by unfold maxLen;decide)) T4.out (by decide) (by decide) (by decide+kernel) (by decide+kernel) (HGL.out.below HB.out) (HTB.out.below HB.out)).mono ?_;rintro e w20 ⟨Af,bf,cf,v,hP,hO,rfl,hb⟩;replace T1:=lH (T1.out.below hb);replace T2:=lH (T2.out.below hb);replace Bp:=rW Bp hb;replace Ba:=rW Ba hb;replace Bq:=rW Bq hb;replace Bb:=rW Bb hb;replace Bo3:=rW Bo3 hb;replace Br3:=rW Br3 hb;replace Bs3:=rW Bs3 hb;replace Bc3:=rW Bc3 hb;replace Bc:=rW Bc hb;replace Bo4:=rW Bo4 hb;replace Br4:=rW Br4 hb;replace Bc4:=rW Bc4 hb;replace HB:=bT HB hb;clear hb;obtain⟨P4,c4,R4,r4,rfl⟩:=exS4 hP hO;clear hP hO;obtain⟨w21,hw_d⟩:=eX (w20.alloc (.cells #[.int .i64 3, .string ⟨#[]⟩, .slice P4 1 c4, .slice none 0 0, .slice R4 1 r4] 32));obtain⟨bd,hp_d⟩:=eX (w20.heap.size);have hb:Below w20.heap.size w20 w21:=by rw[hw_d];exact below_new _ _
 have Bd:Hid (Row w21 bd 32 [.int .i64 3, .string ⟨#[]⟩, .slice P4 1 c4, .slice none 0 0, .slice R4 1 r4]):=lH (by rw[hw_d,hp_d];exact heap_new _ _);replace T1:=lH (T1.out.below hb);replace T2:=lH (T2.out.below hb);replace Bp:=rW Bp hb;replace Ba:=rW Ba hb;replace Bq:=rW Bq hb;replace Bb:=rW Bb hb;replace Bo3:=rW Bo3 hb;replace Br3:=rW Br3 hb;replace Bs3:=rW Bs3 hb;replace Bc3:=rW Bc3 hb;replace Bc:=rW Bc hb;replace Bo4:=rW Bo4 hb;replace Br4:=rW Br4 hb;replace Bc4:=rW Bc4 hb;replace HB:=bT HB hb;clear hb;obtain⟨k0a,k1a⟩:=aT2 Ba.out;have k1b:=aI 1 Bb;have k0c:=aI 0 Bc;have k0d:=aI 0 Bd;have kla:=Ba.out.lt;have klb:=Bb.out.lt;have klc:=Bc.out.lt;have kld:=Bd.out.lt;rw[hw_d] at k0a k1a k1b k0c k0d kla klb klc kld;rw[hp_d] at k0d kld;go_wp2_with fail
 rw[<- hw_d];go_returns;exact⟨rfl,HB.out⟩
end Go.Proofs.YtdefghfjhgmpfaaGreatDoor
