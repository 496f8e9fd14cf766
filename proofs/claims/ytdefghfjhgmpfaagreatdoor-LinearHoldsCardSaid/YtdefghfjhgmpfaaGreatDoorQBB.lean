/- Parts of this proof: Num Texts Nums Enter Leave. -/
import Derived.Test.YtdefghfjhgmpfaaGreatDoorQAE
import Derived.Test.YtdefghfjhgmpfaaGreatDoorQAU
import Derived.Test.YtdefghfjhgmpfaaGreatDoorQAO
import Derived.Test.YtdefghfjhgmpfaaGreatDoorQAR
namespace Go.Proofs.YtdefghfjhgmpfaaGreatDoor
section
open Go.RowKit
open Lp (RL upd Dict)
set_option maxRecDepth 100000 in
set_option maxHeartbeats 3200000 in
theorem number_walk(va:Value)(a:Rat)(Kq:Nat)(w:World)(ha:IsRat w va a)(hl:RL Kq a)(hKq:Kq <= 1000000)(ht:Tab w):
  Calls Tryz.prog 68 #[va] w fun e w'=>e= .returned (.string (qtxt a)) /\ Below w.heap.size w w':=by
 obtain⟨sa,Aa,la,ca,ta,Ba,ma,da,rfl⟩:=ha.shape;obtain⟨hna,y,hda,hy⟩:=ha.parts;have HL:=lH hl;have HY:=lH hy;obtain⟨W,hW,RA,HB⟩:=eN1 w [.bool sa, .slice Aa la ca, .bool ta, .slice Ba ma da] 105;have Va:=lH ((ha).below HB.out);have Vn:=lH ((hna).below HB.out);have Vd:=lH ((hda).below HB.out);go_enter Tryz.func68,Tryz.ntmps68;have HT:=lH (ht.below (show Below w.heap.size w W by have:=HB.out;exact this));clear ha hl hy hna hda ht;obtain⟨k0RA,k1RA,k2RA,k3RA⟩:=aT4 RA.out;have klRA:=RA.out.lt;rw[hW] at k0RA k1RA k2RA k3RA klRA;go_wp2_with fail
 rw[<- hW];clear hW k0RA k1RA k2RA k3RA klRA;refine(whole_walk _ a _ Va.out (HL.out.mono (by omega))).mono ?_;rintro e w1 ⟨rfl,hb1⟩;replace Va:=lH (Va.out.below hb1);replace Vn:=lH (Vn.out.below hb1);replace Vd:=lH (Vd.out.below hb1);replace RA:=rW RA hb1;replace HB:=bT HB hb1;replace HT:=lH (HT.out.below hb1);clear hb1;by_cases hd:a.den=1
 ·have hdt:decide (a.den=1)=true:=decide_eq_true hd;have HD1:=lH hd;clear hd;obtain⟨k0RA,k1RA,k2RA,k3RA⟩:=aT4 RA.out;have klRA:=RA.out.lt;go_wp2_with fail
  clear k0RA k1RA k2RA k3RA klRA;refine(text_below _ a.num Kq _ Vn.out HL.out.1 hKq HT.out).mono ?_;rintro e w2 ⟨rfl,hb2⟩;replace Va:=lH (Va.out.below hb2);replace Vn:=lH (Vn.out.below hb2);replace Vd:=lH (Vd.out.below hb2);replace RA:=rW RA hb2;replace HB:=bT HB hb2;replace HT:=lH (HT.out.below hb2);clear hb2;rw[<- qtxt_whole HD1.out];go_wp2_with fail
  go_returns;exact⟨rfl,HB.out⟩
 ·have hdt:decide (a.den=1)=false:=decide_eq_false hd;have HD1:=lH hd;have hyd:y=a.den:=by rcases HY.out with h | h;exact h;exact absurd h.2 HD1.out
  have VD:Hid (IsInt w1 (.agg #[.bool ta, .slice Ba ma da]) (a.den:Int)):=lH (by have h:=Vd.out;rw[hyd] at h;exact h);clear hd hyd Vd;have HLD:Hid (((a.den:Nat):Int).natAbs<10^Kq):=lH (by rw[Int.natAbs_natCast];exact HL.out.2);have HS1:Hid ((txt a.num).size <= 1000002):=lH (txt_small HL.out.1 hKq);have HS2:Hid ((txt (a.den:Int)).size <= 1000002):=lH (txt_small HLD.out hKq);go_wp2_with fail
  have HRG:=rG w1;have glRA:=RA.out.lt;obtain⟨g0RA,g1RA,g2RA,g3RA⟩:=aT4 RA.out;have KS:=lH (kC g0RA (kC g1RA (kC g2RA (kN g3RA))));clear glRA g0RA g1RA g2RA g3RA;refine rL KS.out (fun i=>false) ?_;have hh:=KS.out _ HRG.out;refine tKs 0 8 hh ?_;refine tKs 1 9 hh ?_;refine tKs 4 12 hh ?_;refine tKs 5 13 hh ?_;refine rD 2 (fun K hK=> ?_);go_simp;refine(text_below _ a.num Kq _ (by exact Vn.out) HL.out.1 hKq (by exact HT.out)).mono ?_;rintro e w2 ⟨rfl,hb2⟩;have hb2:Below w1.heap.size w1 w2:=bD hb2;replace Va:=lH (Va.out.below hb2);replace Vn:=lH (Vn.out.below hb2);replace VD:=lH (VD.out.below hb2);replace RA:=rW RA hb2;replace HB:=bT HB hb2;replace HT:=lH (HT.out.below hb2);replace HRG:=bT HRG hb2;clear hh hb2;have hh:=KS.out _ HRG.out;refine kH hK hh ?_;clear hK K;refine wpAnyE_taked (i:=3) (v:= .string (txt a.num++ ⟨#[47]⟩)) (some 11) rfl (by rfl) (by kernel_rfl) (by kernel_rfl) (by kernel_rfl) (by kernel_rfl) (fun _ _ _ h=>h) (Or.inl ⟨by rfl,?_⟩) hh ?_
  ·(intro w' hSw;clear hSw;go_simp;have:=HS1.out;omega)
  simp only[Act.put,List.setIfInBounds_toArray,List.set_cons_zero,List.set_cons_succ];refine rD 6 (fun K hK=> ?_);go_simp;refine(text_below _ (a.den:Int) Kq _ (by exact VD.out) HLD.out hKq (by exact HT.out)).mono ?_;rintro e w3 ⟨rfl,hb3⟩;have hb3:Below w2.heap.size w2 w3:=bD hb3;replace Va:=lH (Va.out.below hb3);replace Vn:=lH (Vn.out.below hb3);replace VD:=lH (VD.out.below hb3);replace RA:=rW RA hb3;replace HB:=bT HB hb3;replace HT:=lH (HT.out.below hb3);replace HRG:=bT HRG hb3;clear hh hb3;have hh:=KS.out _ HRG.out;refine kH hK hh ?_;clear hK K;refine wpAnyE_taked (i:=7) (v:= .string (txt a.num++ ⟨#[47]⟩++txt (a.den:Int))) (some 15) rfl (by rfl) (by kernel_rfl) (by kernel_rfl) (by kernel_rfl) (by kernel_rfl) (fun _ _ _ h=>h) (Or.inl ⟨by rfl,?_⟩) hh ?_
  ·(intro w' hSw;clear hSw;go_simp;have h1:=HS1.out;have h2:=HS2.out;(try simp only[ByteArray.size_append]);first | omega | (simp;omega) | (show(txt a.num).size+1+ (txt (a.den:Int)).size <= _;omega))
  simp only[Act.put,List.setIfInBounds_toArray,List.set_cons_zero,List.set_cons_succ];refine tKs 8 2 hh ?_;refine dN ?_ _;clear hh KS HRG;go_wp2_with fail
  rw[qtxt_frac HD1.out];go_returns;exact⟨rfl,HB.out⟩
end
section
open Go.RowKit
open Lp (RL upd Dict)
def SK(w:World)(g n:Nat)(s:Nat -> ByteArray):Prop:=∃cs:List Value,Row w g 30 cs /\ n <= cs.length /\ ∀j,j<n -> cs[j]? =some (.string (s j))
section
variable {w w':World} {g n:Nat} {s:Nat -> ByteArray}
theorem SK.lt(h:SK w g n s):g<w.heap.size:=by obtain⟨cs,hr,_⟩:=h;exact hr.lt
theorem SK.below(h:SK w g n s)(hb:Below w.heap.size w w'):SK w' g n s:=by obtain⟨cs,hr,h⟩:=h;exact⟨cs,hr.below hb hr.lt,h⟩
theorem SK.other{g':Nat}(h:SK w g n s)(hg:w.grownBy w' (some g'))(hne:g≠g'):SK w' g n s:=by obtain⟨cs,hr,h⟩:=h;exact⟨cs,hr.other hg hne,h⟩
theorem SK.at_(h:SK w g n s){j:Nat}(hj:j<n): w.cell? ⟨g,j,none⟩=some (.string (s j)):=by obtain⟨cs,hr,_,h⟩:=h;exact hr.at_ _ (h j hj)
theorem SK.free(h:SK w g n s)(j:Nat): w.frozen? ⟨g,j,none⟩=false:=by obtain⟨cs,hr,_⟩:=h;exact hr.free j
theorem SK.congr{s':Nat -> ByteArray}(h:SK w g n s)(hs:∀j,j<n -> s j=s' j):SK w g n s':=by
 obtain⟨cs,hr,hl,h⟩:=h;exact⟨cs,hr,hl,fun j hj=>by rw[<- hs j hj];exact h j hj⟩
theorem SK.set(h:SK w g n s){j:Nat}{x:ByteArray}(hj:j<n):SK (w.setCell ⟨g,j,none⟩ (.string x)) g n (upd s j x):=by
 obtain⟨cs,hr,hl,h⟩:=h;refine⟨_,hr.set j _,by simpa using hl,fun k hk=> ?_⟩;by_cases e:k=j
 ·subst e;rw[Lp.upd_same];simp[List.getElem?_set];omega
 ·rw[List.getElem?_set_ne (by omega),Lp.upd_other _ _ e];exact h k hk
theorem SK.row(h:SK w g n s):∃cs,Row w g 30 cs:=by obtain⟨cs,hr,_⟩:=h;exact⟨cs,hr⟩
theorem SK.ts(h:SK w g n s){c:Nat}(hc:n <= c)(hm:c <= maxLen):TS w (.slice (some ⟨g,0,none⟩) n c) n s:=⟨_,_,rfl,hc,hm, .inr ⟨g,0,rfl,fun j hj=>by rw[Nat.zero_add];exact h.at_ hj⟩⟩
theorem SK.tsa(h:SK w g n s){c:Nat}(hc:n <= c)(hm:c <= maxLen):TSA w (.slice (some ⟨g,0,none⟩) n c) n s:=⟨h.ts hc hm, .inr (.inl ⟨g,0,c,rfl⟩)⟩
end
theorem infoN:(Tryz.prog.info? 30).map (fun i=>(i.zero,i.size,i.bytes))=some (some (.string ⟨#[]⟩),1,16):=by kernel_rfl
theorem SK.made{w:World}{base g n:Nat}(h:w.ownsRow base 30 1 (.slice (some ⟨g,0,none⟩) n n) n (madeCells (Value.string ⟨#[]⟩).cells (n*1)).toList):SK w g n (fun _=>⟨#[]⟩):=by
 have hr:=Row.made (z:= .string ⟨#[]⟩) (by rw[Nat.mul_one] at h;exact h);refine⟨_,hr,by simp,fun j hj=> ?_⟩;rw[List.getElem?_replicate,if_pos hj]
theorem wpList_mkN(w:World){ops:Array Oper}{rest:List Oper}{o:Oper}{a:Act}{Q:Exit -> Act -> World -> Prop}
  (hg:o.guard=none) (l c:Operand) (hop:o.op=Op.makeSlice 22 l c) (L C:Int) (n:Nat) (hl:a.eval l= .int .i64 L) (hc:a.eval c= .int .i64 C) (hL:L=(n:Int)) (hC:C=(n:Int)) (b2:n <= 4398046511104)
  (hK:∀w',SK w' w.heap.size n (fun _=>⟨#[]⟩) -> Below w.heap.size w w' -> w.heap.size<w'.heap.size -> wpList Tryz.prog ops Q rest (a.put o.dst (.slice (some ⟨w.heap.size,0,none⟩) n n)) w'):
  wpList Tryz.prog ops Q (o::rest) a w:=by
 obtain⟨i,hi,hz0,hz1,hz2⟩:=info_parts infoN;refine wpList_make_full w hg l c _ hop w.heap.size _ i _ 1 Tryz.underlying22 hi hz0 hz1 .i64 .i64 L C n hl hc hL hC (by rw[hz2];omega) (by unfold maxLen;omega) (Nat.le_refl _) ?_;intro w' hown hgr;have hr:=SK.made hown;exact hK w' hr ((Below.refl _ _).grown hgr (Nat.le_refl _) (by simp)) hr.lt
end
section
open Go.RowKit
open Lp (RL upd Dict)
set_option maxRecDepth 100000 in
set_option maxHeartbeats 6400000 in
theorem numbers_walk(va:Value)(n Kq:Nat)(f:Nat -> Rat)(w:World)(ha:IsRats w va n f)(hn:n <= 1000000000)(hl:∀j,j<n -> RL Kq (f j))(hKq:Kq <= 1000000)(ht:Tab w):
  Calls Tryz.prog 77 #[va] w fun e w'=>∃g,e= .returned (.slice (some ⟨g,0,none⟩) n n) /\ w.heap.size <= g /\ SK w' g n (fun j=>qtxt (f j)) /\ Below w.heap.size w w':=by
 obtain⟨A,c,rfl,hca,hcm⟩:=ha.shape;have HA:=lH ha;have HL:=lH hl;have HT:=lH ht;clear ha hl ht;go_enter Tryz.func77,Tryz.ntmps77
 go_wp2_with (at_make;refine wpList_mkN _ rfl (.tmp 7) (.tmp 7) rfl _ _ n rfl rfl rfl rfl (by omega) ?_)
 intro w1 hrb hb1 hs1;have BG0:=lH hrb;have HB0:=lH hb1;clear hrb hb1 hs1;go_wp2_with fail
 go_loopw [11] (fun iv wr=>∃k:Nat,k <= n /\ iv= .int .i64 k /\ SK wr w.heap.size n (fun j=>if j<k then qtxt (f j) else⟨#[]⟩) /\ Below w.heap.size w wr)
  (fun iv _=>n-(intOf iv).toNat)
 case atStart=>exact⟨0,Nat.zero_le _,rfl,BG0.out.congr (fun j _=>by rw[if_neg (by omega)]),HB0.out⟩
 case round=>
  clear BG0 HB0;obtain⟨k,hk,rfl,hbg,hbw⟩:=hrel;have BG:=lH hbg;have HB:=lH hbw;clear hbg hbw;by_cases hkn:((k:Nat):Int)<(n:Nat)
  ·have hkn1:k<n:=by omega
   obtain⟨gA,rfl,hrb⟩:=HA.out.at_ (by omega);have hrb2:=hrb.below HB.out;have hga:=hrb.lt;obtain⟨sx,Ax,lx,cx,tx,Bx,mx,dx,hQx,hvQx⟩:=(hrb2).quad hkn1;have Qx:=lH hQx;have Vx:=lH hvQx;clear hQx hvQx;clear hrb hrb2;obtain⟨kq0,kq1,kq2,kq3⟩:=Qx.out;have kql:=Qx.out.lt;clear Qx;have XC:=hN wr [.bool sx, .slice Ax lx cx, .bool tx, .slice Bx mx dx] 105;have hb1:=below_new wr (.cells #[.bool sx, .slice Ax lx cx, .bool tx, .slice Bx mx dx] 105);obtain⟨w1,hw1⟩:=eX (wr.alloc (.cells #[.bool sx, .slice Ax lx cx, .bool tx, .slice Bx mx dx] 105));rw[<- hw1] at XC hb1;have hgl:=BG.out.lt;replace Vx:=lH (Vx.out.below hb1);replace BG:=lH (BG.out.below hb1);replace HB:=bT HB hb1;clear hb1;obtain⟨kx0,kx1,kx2,kx3⟩:=aT4 XC.out;have kxl:=XC.out.lt;rw[hw1] at kx0 kx1 kx2 kx3 kxl;go_wp2_with fail
   rw[<- hw1];clear hw1 kx0 kx1 kx2 kx3 kxl kq0 kq1 kq2 kq3 kql;refine(number_walk _ (f k) Kq _ Vx.out (HL.out k hkn1) hKq (HT.out.below HB.out)).mono ?_;rintro e w2 ⟨rfl,hb2⟩;replace BG:=lH (BG.out.below hb2);replace HB:=bT HB hb2;clear hb2 XC Vx;have kg:=BG.out.at_ hkn1;have fg:=BG.out.free k;have kl:=BG.out.lt;have hg:World.grownBy w2 (w2.setCell ⟨w.heap.size,k,none⟩ (.string (qtxt (f k)))) (some w.heap.size):=grownBy_set _ _ _ _;have BN:=BG.out.set (x:=qtxt (f k)) hkn1;have HBN:=HB.out.grown hg HB.out.size (by first | (simp;done) | (simp;omega));go_wp2_with fail
   clear kg fg kl;go_roundw
   case rel=>
    refine⟨k+1,by omega,by simp,BN.congr (fun j hj=> ?_),HBN⟩;by_cases e:j=k
    ·subst e;rw[Lp.upd_same,if_pos (by omega)]
    ·rw[Lp.upd_other _ _ e];by_cases e2:j<k
     ·rw[if_pos e2,if_pos (by omega)]
     ·rw[if_neg e2,if_neg (by omega)]
   case measure=>exact mZ
  ·obtain rfl:n=k:=by omega
   go_wp2_with fail
   go_returns;exact⟨_,rfl,Nat.le_refl _,BG.out.congr (fun j hj=>if_pos hj),HB.out⟩
end
section
open Go.RowKit
open Lp (RL upd Dict)
theorem sgI_lt0{a:Int}:sgI a<0↔a<0:=by unfold sgI;split <;> (try split) <;> omega
theorem sgI_gt0{a:Int}:0<sgI a↔0<a:=by unfold sgI;split <;> (try split) <;> omega
theorem num_neg{q:Rat}:q.num<0↔q<0:=by
 rw[<- Rat.not_le, <- Rat.num_nonneg];omega
theorem num_pos{q:Rat}:0<q.num↔0<q:=by
 have h1:= @Rat.num_nonneg q;have h2:= @Rat.num_eq_zero q;constructor
 ·intro h;exact Rat.lt_of_le_of_ne (h1.1 (by omega)) (fun e=>by have:=h2.2 e.symm;omega)
 ·intro h;have h3:=h1.2 (Rat.le_of_lt h);have h4:q.num≠0:=fun e=>by have:=h2.1 e;rw[this] at h;exact absurd h Rat.lt_irrefl
  omega
theorem sgn_n{q:Rat}(h:q<0):sgI q.num<0:=sgI_lt0.2 (num_neg.2 h)
theorem sgn_nn{q:Rat}(h:0 <= q):0 <= sgI q.num:=by
 have h1:=Rat.num_nonneg.2 h;exact Int.not_lt.1 (fun e=>by have:=sgI_lt0.1 e;omega)
theorem sgn_p{q:Rat}(h:0<q):0<sgI q.num:=sgI_gt0.2 (num_pos.2 h)
theorem sgn_np{q:Rat}(h:q <= 0):sgI q.num <= 0:=by
 have h3:¬0<q:=Rat.not_lt.2 h;exact Int.not_lt.1 (fun e=>h3 (num_pos.1 (sgI_gt0.1 e)))
def enteringN(n b:Nat)(o:Nat -> Nat)(f:Nat -> Rat)(out:Int):Prop:=
 (out= -1 /\ ∀c,c<b -> n <= o c -> 0 <= f c) \/ ∃x:Nat,out=(x:Nat) /\ x<b /\ n <= o x /\ f x<0 /\ ∀c,c<b -> n <= o c -> o c<o x -> 0 <= f c
theorem enteringN_skip{n k:Nat}{o:Nat -> Nat}{f:Nat -> Rat}{out:Int}(h:enteringN n k o f out)(hk:n <= o k -> 0 <= f k):enteringN n (k+1) o f out:=by
 rcases h with ⟨h1,h2⟩ | ⟨x,h1,h2,h3,h4,h5⟩
 ·exact .inl ⟨h1,fun c hc hn=>by by_cases e:c=k;subst e;exact hk hn;exact h2 c (by omega) hn⟩
 ·exact .inr ⟨x,h1,by omega,h3,h4,fun c hc hn hl=>by by_cases e:c=k;subst e;exact hk hn;exact h5 c (by omega) hn hl⟩
theorem enteringN_far{n k x:Nat}{o:Nat -> Nat}{f:Nat -> Rat}(h:enteringN n k o f (x:Nat))(hk:¬o k<o x):enteringN n (k+1) o f (x:Nat):=by
 rcases h with ⟨h1,h2⟩ | ⟨y,h1,h2,h3,h4,h5⟩
 ·omega
 ·obtain rfl:x=y:=by omega
  exact .inr ⟨x,rfl,by omega,h3,h4,fun c hc hn hl=>by by_cases e:c=k;subst e;exact absurd hl hk;exact h5 c (by omega) hn hl⟩
theorem enteringN_first{n k:Nat}{o:Nat -> Nat}{f:Nat -> Rat}(h:enteringN n k o f (-1))(hn:n <= o k)(hb:f k<0):enteringN n (k+1) o f (k:Nat):=by
 rcases h with ⟨h1,h2⟩ | ⟨x,h1,h2,h3,h4,h5⟩
 ·exact .inr ⟨k,rfl,by omega,hn,hb,fun c hc hn' hl=>by by_cases e:c=k;subst e;omega;exact h2 c (by omega) hn'⟩
 ·omega
theorem enteringN_less{n k x:Nat}{o:Nat -> Nat}{f:Nat -> Rat}(h:enteringN n k o f (x:Nat))(hn:n <= o k)(hb:f k<0)(hl:o k<o x):enteringN n (k+1) o f (k:Nat):=by
 rcases h with ⟨h1,h2⟩ | ⟨y,h1,h2,h3,h4,h5⟩
 ·omega
 ·obtain rfl:x=y:=by omega
  exact .inr ⟨k,rfl,by omega,hn,hb,fun c hc hn' hl'=>by by_cases e:c=k;subst e;omega;exact h5 c (by omega) hn' (by omega)⟩
set_option maxRecDepth 100000 in
set_option maxHeartbeats 6400000 in
theorem entering_any(L:Lay)(m n i:Nat)(D:Dict)(w:World)(hT:Tabl w L m n D)(hi:i<m)(hm:m <= 4611686018427387904)(hn:n <= 4611686018427387904):
  Calls Tryz.prog 131 #[.pointer (some ⟨L.gt,0,none⟩), .int .i64 i] w fun e w'=>∃out:Int,e= .returned (.int .i64 out) /\ enteringN n n D.off (D.cell i) out /\ Below w.heap.size w w':=by
 have hm0:0<m:=by omega
 have HT0:=lH hT;obtain⟨sv,Av,lv,cv,tv,Bv,mv,dv,hrt,hvv⟩:=hT.st;unfold Lay.cells at hrt;rw[(hT.ab hm0).1,(hT.ab hm0).2.1,(hT.ab hm0).2.2] at hrt;have RT:=lH hrt;clear hrt hvv;have k2:=aI 2 RT;have kl:=RT.out.lt;clear hT;have HS0:Hid (enteringN n 0 D.off (D.cell i) (-1)):=lH (.inl ⟨rfl,fun c hc=>absurd hc (by omega)⟩);have hii:((i:Nat):Int)<(m:Nat):=by omega
 go_enter Tryz.func131,Tryz.ntmps131;go_wp2_with fail
 clear k2 kl RT
 go_loopw [5,13] (fun ov iv wr=>∃ (k:Nat) (out:Int),k <= n /\ iv= .int .i64 k /\ ov= .int .i64 out /\ Hid (enteringN n k D.off (D.cell i) out) /\ Below w.heap.size w wr)
  (fun _ iv _=>n-(intOf iv).toNat)
 case atStart=>exact⟨0, -1,Nat.zero_le _,rfl,rfl,HS0,Below.refl _ _⟩
 case round=>
  clear HS0;obtain⟨k,out,hk,rfl,rfl,HS,hbw⟩:=hrel;have HB:=lH hbw;have HT:=lH (HT0.out.below hbw);clear hbw;by_cases hkn:((k:Nat):Int)<(n:Nat)
  ·have hkb:k<n:=by omega
   have hn0:0<n:=by omega
   rw[(HT.out.ao hn0).1];obtain⟨sv,Av,lv,cv,tv,Bv,mv,dv,hrt,hvv⟩:=HT.out.st;unfold Lay.cells at hrt;rw[(HT.out.ab hm0).1,(HT.out.ab hm0).2.1,(HT.out.ab hm0).2.2] at hrt;rw[(HT.out.ao hn0).1,(HT.out.ao hn0).2] at hrt;have RT:=lH hrt;clear hrt hvv;have C0:=lH ((HT.out.off hn0).at_ hkb);have C1:=lH ((HT.out.out hm0).at_ hn0 hi);obtain⟨sx,Ax,lx,cx,tx,Bx,mx,dx,hQx,hvQx⟩:=((HT.out.rows hn0 i hi)).quad hkb;have Qx:=lH hQx;have Vx:=lH hvQx;clear hQx hvQx;by_cases hf:¬n <= D.off k
   ·have hge:decide (n <= D.off k)=false:=by simp;omega
    have HF:=lH hf;clear hf;have k0RT:=aI 0 RT;have k1RT:=aI 1 RT;have k2RT:=aI 2 RT;have k4RT:=aI 4 RT;have klRT:=RT.out.lt;have k0C0:=C0.out;have klC0:=cell_lt C0.out;have k0C1:=C1.out;have klC1:=cell_lt C1.out;obtain⟨k0Qx,k1Qx,k2Qx,k3Qx⟩:=Qx.out;have klQx:=Qx.out.lt;go_wp2_with fail
    clear k0RT k1RT k2RT k4RT klRT k0C0 klC0 k0C1 klC1 k0Qx k1Qx k2Qx k3Qx klQx;go_roundw
    case rel=>exact⟨k+1,out,by omega,by simp,rfl,lH (enteringN_skip HS.out (fun e=>absurd e HF.out)),HB.out⟩
    case measure=>exact mZ
   ·have hge:decide (n <= D.off k)=true:=by simp;omega
    have HF:Hid (n <= D.off k):=lH (by omega);clear hf;by_cases hc:0 <= D.cell i k
    ·have hsn:decide (sgI (D.cell i k).num<0)=false:=by have:=hc;simp;exact sgn_nn hc
     have HC:=lH hc;have HSN:=lH hsn;clear hc hsn;have k0RT:=aI 0 RT;have k1RT:=aI 1 RT;have k2RT:=aI 2 RT;have k4RT:=aI 4 RT;have klRT:=RT.out.lt;have k0C0:=C0.out;have klC0:=cell_lt C0.out;have k0C1:=C1.out;have klC1:=cell_lt C1.out;obtain⟨k0Qx,k1Qx,k2Qx,k3Qx⟩:=Qx.out;have klQx:=Qx.out.lt;go_wp2_with fail
     clear k0RT k1RT k2RT k4RT klRT k0C0 klC0 k0C1 klC1 k0Qx k1Qx k2Qx k3Qx klQx;refine(rsgn_walk _ (D.cell i k) _ Vx.out).mono ?_;rintro e w1 ⟨rfl,hb1⟩;replace HT:=lH (HT.out.below hb1);replace Vx:=lH (Vx.out.below hb1);replace RT:=rW RT hb1;replace Qx:=lH (Qx.out.below hb1);replace C0:=lH (cell_below hb1 C0.out);replace C1:=lH (cell_below hb1 C1.out);replace HB:=bT HB hb1;clear hb1;have hsn:=HSN.out;have k0RT:=aI 0 RT;have k1RT:=aI 1 RT;have k2RT:=aI 2 RT;have k4RT:=aI 4 RT;have klRT:=RT.out.lt;have k0C0:=C0.out;have klC0:=cell_lt C0.out;have k0C1:=C1.out;have klC1:=cell_lt C1.out;obtain⟨k0Qx,k1Qx,k2Qx,k3Qx⟩:=Qx.out;have klQx:=Qx.out.lt;go_wp2_with fail
     clear k0RT k1RT k2RT k4RT klRT k0C0 klC0 k0C1 klC1 k0Qx k1Qx k2Qx k3Qx klQx;go_roundw
     case rel=>exact⟨k+1,out,by omega,by simp,rfl,lH (enteringN_skip HS.out (fun _=>HC.out)),HB.out⟩
     case measure=>exact mZ
    ·replace hc:D.cell i k<0:=Rat.not_le.1 hc;have hsn:decide (sgI (D.cell i k).num<0)=true:=by simp;exact sgn_n hc
     have HC:Hid (D.cell i k<0):=lH hc;have HSN:=lH hsn;clear hc hsn;by_cases ho:out= -1
     ·obtain rfl:out= -1:=ho;have HS1:=HS;have k0RT:=aI 0 RT;have k1RT:=aI 1 RT;have k2RT:=aI 2 RT;have k4RT:=aI 4 RT;have klRT:=RT.out.lt;have k0C0:=C0.out;have klC0:=cell_lt C0.out;have k0C1:=C1.out;have klC1:=cell_lt C1.out;obtain⟨k0Qx,k1Qx,k2Qx,k3Qx⟩:=Qx.out;have klQx:=Qx.out.lt;go_wp2_with fail
      clear k0RT k1RT k2RT k4RT klRT k0C0 klC0 k0C1 klC1 k0Qx k1Qx k2Qx k3Qx klQx;refine(rsgn_walk _ (D.cell i k) _ Vx.out).mono ?_;rintro e w1 ⟨rfl,hb1⟩;replace HT:=lH (HT.out.below hb1);replace Vx:=lH (Vx.out.below hb1);replace RT:=rW RT hb1;replace Qx:=lH (Qx.out.below hb1);replace C0:=lH (cell_below hb1 C0.out);replace C1:=lH (cell_below hb1 C1.out);replace HB:=bT HB hb1;clear hb1;have hsn:=HSN.out;have k0RT:=aI 0 RT;have k1RT:=aI 1 RT;have k2RT:=aI 2 RT;have k4RT:=aI 4 RT;have klRT:=RT.out.lt;have k0C0:=C0.out;have klC0:=cell_lt C0.out;have k0C1:=C1.out;have klC1:=cell_lt C1.out;obtain⟨k0Qx,k1Qx,k2Qx,k3Qx⟩:=Qx.out;have klQx:=Qx.out.lt;go_wp2_with fail
      clear k0RT k1RT k2RT k4RT klRT k0C0 klC0 k0C1 klC1 k0Qx k1Qx k2Qx k3Qx klQx;go_roundw
      case rel=>exact⟨k+1,(k:Nat),by omega,by simp,rfl,lH (enteringN_first HS.out HF.out HC.out),HB.out⟩
      case measure=>exact mZ
     ·obtain⟨x,hx⟩:∃x:Nat,out=(x:Nat):=by rcases HS.out with ⟨h1,_⟩ | ⟨x,h1,_⟩;exact absurd h1 ho;exact⟨x,h1⟩
      subst hx;have hxb:x<n:=by rcases HS.out with ⟨h1,_⟩ | ⟨y,h1,h2,_⟩;omega;omega
      have hx0:decide (((x:Nat):Int)<0)=false:=by simp
      have hxi:((x:Nat):Int)<(n:Nat):=by omega
      clear ho;have C2:=lH ((HT.out.off hn0).at_ hxb);by_cases hl:D.off k<D.off x
      ·have hlt:decide (D.off k<D.off x)=true:=by simpa using hl
       have HL:=lH hl;clear hl;have k0RT:=aI 0 RT;have k1RT:=aI 1 RT;have k2RT:=aI 2 RT;have k4RT:=aI 4 RT;have klRT:=RT.out.lt;have k0C0:=C0.out;have klC0:=cell_lt C0.out;have k0C1:=C1.out;have klC1:=cell_lt C1.out;obtain⟨k0Qx,k1Qx,k2Qx,k3Qx⟩:=Qx.out;have klQx:=Qx.out.lt;have k0C2:=C2.out;have klC2:=cell_lt C2.out;go_wp2_with fail
       clear k0RT k1RT k2RT k4RT klRT k0C0 klC0 k0C1 klC1 k0Qx k1Qx k2Qx k3Qx klQx k0C2 klC2;refine(rsgn_walk _ (D.cell i k) _ Vx.out).mono ?_;rintro e w1 ⟨rfl,hb1⟩;replace HT:=lH (HT.out.below hb1);replace Vx:=lH (Vx.out.below hb1);replace RT:=rW RT hb1;replace Qx:=lH (Qx.out.below hb1);replace C0:=lH (cell_below hb1 C0.out);replace C1:=lH (cell_below hb1 C1.out);replace C2:=lH (cell_below hb1 C2.out);replace HB:=bT HB hb1;clear hb1;have hsn:=HSN.out;have k0RT:=aI 0 RT;have k1RT:=aI 1 RT;have k2RT:=aI 2 RT;have k4RT:=aI 4 RT;have klRT:=RT.out.lt;have k0C0:=C0.out;have klC0:=cell_lt C0.out;have k0C1:=C1.out;have klC1:=cell_lt C1.out;obtain⟨k0Qx,k1Qx,k2Qx,k3Qx⟩:=Qx.out;have klQx:=Qx.out.lt;have k0C2:=C2.out;have klC2:=cell_lt C2.out;go_wp2_with fail
       clear k0RT k1RT k2RT k4RT klRT k0C0 klC0 k0C1 klC1 k0Qx k1Qx k2Qx k3Qx klQx k0C2 klC2;go_roundw
       case rel=>exact⟨k+1,(k:Nat),by omega,by simp,rfl,lH (enteringN_less HS.out HF.out HC.out HL.out),HB.out⟩
       case measure=>exact mZ
      ·have hlt:decide (D.off k<D.off x)=false:=by simpa using hl
       have HL:=lH hl;clear hl;have k0RT:=aI 0 RT;have k1RT:=aI 1 RT;have k2RT:=aI 2 RT;have k4RT:=aI 4 RT;have klRT:=RT.out.lt;have k0C0:=C0.out;have klC0:=cell_lt C0.out;have k0C1:=C1.out;have klC1:=cell_lt C1.out;obtain⟨k0Qx,k1Qx,k2Qx,k3Qx⟩:=Qx.out;have klQx:=Qx.out.lt;have k0C2:=C2.out;have klC2:=cell_lt C2.out;go_wp2_with fail
       clear k0RT k1RT k2RT k4RT klRT k0C0 klC0 k0C1 klC1 k0Qx k1Qx k2Qx k3Qx klQx k0C2 klC2;refine(rsgn_walk _ (D.cell i k) _ Vx.out).mono ?_;rintro e w1 ⟨rfl,hb1⟩;replace HT:=lH (HT.out.below hb1);replace Vx:=lH (Vx.out.below hb1);replace RT:=rW RT hb1;replace Qx:=lH (Qx.out.below hb1);replace C0:=lH (cell_below hb1 C0.out);replace C1:=lH (cell_below hb1 C1.out);replace C2:=lH (cell_below hb1 C2.out);replace HB:=bT HB hb1;clear hb1;have hsn:=HSN.out;have k0RT:=aI 0 RT;have k1RT:=aI 1 RT;have k2RT:=aI 2 RT;have k4RT:=aI 4 RT;have klRT:=RT.out.lt;have k0C0:=C0.out;have klC0:=cell_lt C0.out;have k0C1:=C1.out;have klC1:=cell_lt C1.out;obtain⟨k0Qx,k1Qx,k2Qx,k3Qx⟩:=Qx.out;have klQx:=Qx.out.lt;have k0C2:=C2.out;have klC2:=cell_lt C2.out;go_wp2_with fail
       clear k0RT k1RT k2RT k4RT klRT k0C0 klC0 k0C1 klC1 k0Qx k1Qx k2Qx k3Qx klQx k0C2 klC2;go_roundw
       case rel=>exact⟨k+1,(x:Nat),by omega,by simp,rfl,lH (enteringN_far HS.out HL.out),HB.out⟩
       case measure=>exact mZ
  ·obtain rfl:n=k:=by omega
   go_wp2_with fail
   go_returns;exact⟨out,rfl,HS.out,HB.out⟩
end
section
open Go.RowKit
open Lp (RL upd Dict)
def leavingN(n b:Nat)(o:Nat -> Nat)(f:Nat -> Rat)(out:Int):Prop:=
 (out= -1 /\ ∀c,c<b -> n <= o c -> f c <= 0) \/ ∃x:Nat,out=(x:Nat) /\ x<b /\ n <= o x /\ 0<f x /\ ∀c,c<b -> n <= o c -> o c<o x -> f c <= 0
theorem leavingN_skip{n k:Nat}{o:Nat -> Nat}{f:Nat -> Rat}{out:Int}(h:leavingN n k o f out)(hk:n <= o k -> f k <= 0):leavingN n (k+1) o f out:=by
 rcases h with ⟨h1,h2⟩ | ⟨x,h1,h2,h3,h4,h5⟩
 ·exact .inl ⟨h1,fun c hc hn=>by by_cases e:c=k;subst e;exact hk hn;exact h2 c (by omega) hn⟩
 ·exact .inr ⟨x,h1,by omega,h3,h4,fun c hc hn hl=>by by_cases e:c=k;subst e;exact hk hn;exact h5 c (by omega) hn hl⟩
theorem leavingN_far{n k x:Nat}{o:Nat -> Nat}{f:Nat -> Rat}(h:leavingN n k o f (x:Nat))(hk:¬o k<o x):leavingN n (k+1) o f (x:Nat):=by
 rcases h with ⟨h1,h2⟩ | ⟨y,h1,h2,h3,h4,h5⟩
 ·omega
 ·obtain rfl:x=y:=by omega
  exact .inr ⟨x,rfl,by omega,h3,h4,fun c hc hn hl=>by by_cases e:c=k;subst e;exact absurd hl hk;exact h5 c (by omega) hn hl⟩
theorem leavingN_first{n k:Nat}{o:Nat -> Nat}{f:Nat -> Rat}(h:leavingN n k o f (-1))(hn:n <= o k)(hb:0<f k):leavingN n (k+1) o f (k:Nat):=by
 rcases h with ⟨h1,h2⟩ | ⟨x,h1,h2,h3,h4,h5⟩
 ·exact .inr ⟨k,rfl,by omega,hn,hb,fun c hc hn' hl=>by by_cases e:c=k;subst e;omega;exact h2 c (by omega) hn'⟩
 ·omega
theorem leavingN_less{n k x:Nat}{o:Nat -> Nat}{f:Nat -> Rat}(h:leavingN n k o f (x:Nat))(hn:n <= o k)(hb:0<f k)(hl:o k<o x):leavingN n (k+1) o f (k:Nat):=by
 rcases h with ⟨h1,h2⟩ | ⟨y,h1,h2,h3,h4,h5⟩
 ·omega
 ·obtain rfl:x=y:=by omega
  exact .inr ⟨k,rfl,by omega,hn,hb,fun c hc hn' hl'=>by by_cases e:c=k;subst e;omega;exact h5 c (by omega) hn' (by omega)⟩
set_option maxRecDepth 100000 in
set_option maxHeartbeats 6400000 in
theorem leaving_any(L:Lay)(m n j:Nat)(D:Dict)(w:World)(hT:Tabl w L m n D)(hi:j<n)(hm:m <= 4611686018427387904)(hn:n <= 4611686018427387904):
  Calls Tryz.prog 132 #[.pointer (some ⟨L.gt,0,none⟩), .int .i64 j] w fun e w'=>∃out:Int,e= .returned (.int .i64 out) /\ leavingN n m D.basic (fun r=>D.cell r j) out /\ Below w.heap.size w w':=by
 have hn0:0<n:=by omega
 have HT0:=lH hT;obtain⟨sv,Av,lv,cv,tv,Bv,mv,dv,hrt,hvv⟩:=hT.st;unfold Lay.cells at hrt;rw[(hT.ao hn0).1,(hT.ao hn0).2] at hrt;have RT:=lH hrt;clear hrt hvv;have k1:=aI 1 RT;have kl:=RT.out.lt;clear hT;have HS0:Hid (leavingN n 0 D.basic (fun r=>D.cell r j) (-1)):=lH (.inl ⟨rfl,fun c hc=>absurd hc (by omega)⟩);have hii:((j:Nat):Int)<(n:Nat):=by omega
 go_enter Tryz.func132,Tryz.ntmps132;go_wp2_with fail
 clear k1 kl RT
 go_loopw [5,13] (fun ov iv wr=>∃ (k:Nat) (out:Int),k <= m /\ iv= .int .i64 k /\ ov= .int .i64 out /\ Hid (leavingN n k D.basic (fun r=>D.cell r j) out) /\ Below w.heap.size w wr)
  (fun _ iv _=>m-(intOf iv).toNat)
 case atStart=>exact⟨0, -1,Nat.zero_le _,rfl,rfl,HS0,Below.refl _ _⟩
 case round=>
  clear HS0;obtain⟨k,out,hk,rfl,rfl,HS,hbw⟩:=hrel;have HB:=lH hbw;have HT:=lH (HT0.out.below hbw);clear hbw;by_cases hkn:((k:Nat):Int)<(m:Nat)
  ·have hkb:k<m:=by omega
   have hm0:0<m:=by omega
   rw[(HT.out.ab hm0).1];obtain⟨sv,Av,lv,cv,tv,Bv,mv,dv,hrt,hvv⟩:=HT.out.st;unfold Lay.cells at hrt;rw[(HT.out.ab hm0).1,(HT.out.ab hm0).2.1,(HT.out.ab hm0).2.2] at hrt;rw[(HT.out.ao hn0).1,(HT.out.ao hn0).2] at hrt;have RT:=lH hrt;clear hrt hvv;have C0:=lH ((HT.out.bas hm0).at_ hkb);have C1:=lH ((HT.out.out hm0).at_ hn0 hkb);obtain⟨sx,Ax,lx,cx,tx,Bx,mx,dx,hQx,hvQx⟩:=((HT.out.rows hn0 k hkb)).quad hi;have Qx:=lH hQx;have Vx:=lH hvQx;clear hQx hvQx;by_cases hf:¬n <= D.basic k
   ·have hge:decide (n <= D.basic k)=false:=by simp;omega
    have HF:=lH hf;clear hf;have k0RT:=aI 0 RT;have k1RT:=aI 1 RT;have k2RT:=aI 2 RT;have k4RT:=aI 4 RT;have klRT:=RT.out.lt;have k0C0:=C0.out;have klC0:=cell_lt C0.out;have k0C1:=C1.out;have klC1:=cell_lt C1.out;obtain⟨k0Qx,k1Qx,k2Qx,k3Qx⟩:=Qx.out;have klQx:=Qx.out.lt;go_wp2_with fail
    clear k0RT k1RT k2RT k4RT klRT k0C0 klC0 k0C1 klC1 k0Qx k1Qx k2Qx k3Qx klQx;go_roundw
    case rel=>exact⟨k+1,out,by omega,by simp,rfl,lH (leavingN_skip HS.out (fun e=>absurd e HF.out)),HB.out⟩
    case measure=>exact mZ
   ·have hge:decide (n <= D.basic k)=true:=by simp;omega
    have HF:Hid (n <= D.basic k):=lH (by omega);clear hf;by_cases hc:D.cell k j <= 0
    ·have hsn:decide (0<sgI (D.cell k j).num)=false:=by have:=hc;simp;exact sgn_np hc
     have HC:=lH hc;have HSN:=lH hsn;clear hc hsn;have k0RT:=aI 0 RT;have k1RT:=aI 1 RT;have k2RT:=aI 2 RT;have k4RT:=aI 4 RT;have klRT:=RT.out.lt;have k0C0:=C0.out;have klC0:=cell_lt C0.out;have k0C1:=C1.out;have klC1:=cell_lt C1.out;obtain⟨k0Qx,k1Qx,k2Qx,k3Qx⟩:=Qx.out;have klQx:=Qx.out.lt;go_wp2_with fail
     clear k0RT k1RT k2RT k4RT klRT k0C0 klC0 k0C1 klC1 k0Qx k1Qx k2Qx k3Qx klQx;refine(rsgn_walk _ (D.cell k j) _ Vx.out).mono ?_;rintro e w1 ⟨rfl,hb1⟩;replace HT:=lH (HT.out.below hb1);replace Vx:=lH (Vx.out.below hb1);replace RT:=rW RT hb1;replace Qx:=lH (Qx.out.below hb1);replace C0:=lH (cell_below hb1 C0.out);replace C1:=lH (cell_below hb1 C1.out);replace HB:=bT HB hb1;clear hb1;have hsn:=HSN.out;have k0RT:=aI 0 RT;have k1RT:=aI 1 RT;have k2RT:=aI 2 RT;have k4RT:=aI 4 RT;have klRT:=RT.out.lt;have k0C0:=C0.out;have klC0:=cell_lt C0.out;have k0C1:=C1.out;have klC1:=cell_lt C1.out;obtain⟨k0Qx,k1Qx,k2Qx,k3Qx⟩:=Qx.out;have klQx:=Qx.out.lt;go_wp2_with fail
     clear k0RT k1RT k2RT k4RT klRT k0C0 klC0 k0C1 klC1 k0Qx k1Qx k2Qx k3Qx klQx;go_roundw
     case rel=>exact⟨k+1,out,by omega,by simp,rfl,lH (leavingN_skip HS.out (fun _=>HC.out)),HB.out⟩
     case measure=>exact mZ
    ·replace hc:0<D.cell k j:=Rat.not_le.1 hc;have hsn:decide (0<sgI (D.cell k j).num)=true:=by simp;exact sgn_p hc
     have HC:Hid (0<D.cell k j):=lH hc;have HSN:=lH hsn;clear hc hsn;by_cases ho:out= -1
     ·obtain rfl:out= -1:=ho;have HS1:=HS;have k0RT:=aI 0 RT;have k1RT:=aI 1 RT;have k2RT:=aI 2 RT;have k4RT:=aI 4 RT;have klRT:=RT.out.lt;have k0C0:=C0.out;have klC0:=cell_lt C0.out;have k0C1:=C1.out;have klC1:=cell_lt C1.out;obtain⟨k0Qx,k1Qx,k2Qx,k3Qx⟩:=Qx.out;have klQx:=Qx.out.lt;go_wp2_with fail
      clear k0RT k1RT k2RT k4RT klRT k0C0 klC0 k0C1 klC1 k0Qx k1Qx k2Qx k3Qx klQx;refine(rsgn_walk _ (D.cell k j) _ Vx.out).mono ?_;rintro e w1 ⟨rfl,hb1⟩;replace HT:=lH (HT.out.below hb1);replace Vx:=lH (Vx.out.below hb1);replace RT:=rW RT hb1;replace Qx:=lH (Qx.out.below hb1);replace C0:=lH (cell_below hb1 C0.out);replace C1:=lH (cell_below hb1 C1.out);replace HB:=bT HB hb1;clear hb1;have hsn:=HSN.out;have k0RT:=aI 0 RT;have k1RT:=aI 1 RT;have k2RT:=aI 2 RT;have k4RT:=aI 4 RT;have klRT:=RT.out.lt;have k0C0:=C0.out;have klC0:=cell_lt C0.out;have k0C1:=C1.out;have klC1:=cell_lt C1.out;obtain⟨k0Qx,k1Qx,k2Qx,k3Qx⟩:=Qx.out;have klQx:=Qx.out.lt;go_wp2_with fail
      clear k0RT k1RT k2RT k4RT klRT k0C0 klC0 k0C1 klC1 k0Qx k1Qx k2Qx k3Qx klQx;go_roundw
      case rel=>exact⟨k+1,(k:Nat),by omega,by simp,rfl,lH (leavingN_first HS.out HF.out HC.out),HB.out⟩
      case measure=>exact mZ
     ·obtain⟨x,hx⟩:∃x:Nat,out=(x:Nat):=by rcases HS.out with ⟨h1,_⟩ | ⟨x,h1,_⟩;exact absurd h1 ho;exact⟨x,h1⟩
      subst hx;have hxb:x<m:=by rcases HS.out with ⟨h1,_⟩ | ⟨y,h1,h2,_⟩;omega;omega
      have hx0:decide (((x:Nat):Int)<0)=false:=by simp
      have hxi:((x:Nat):Int)<(m:Nat):=by omega
      clear ho;have C2:=lH ((HT.out.bas hm0).at_ hxb);by_cases hl:D.basic k<D.basic x
      ·have hlt:decide (D.basic k<D.basic x)=true:=by simpa using hl
       have HL:=lH hl;clear hl;have k0RT:=aI 0 RT;have k1RT:=aI 1 RT;have k2RT:=aI 2 RT;have k4RT:=aI 4 RT;have klRT:=RT.out.lt;have k0C0:=C0.out;have klC0:=cell_lt C0.out;have k0C1:=C1.out;have klC1:=cell_lt C1.out;obtain⟨k0Qx,k1Qx,k2Qx,k3Qx⟩:=Qx.out;have klQx:=Qx.out.lt;have k0C2:=C2.out;have klC2:=cell_lt C2.out;go_wp2_with fail
       clear k0RT k1RT k2RT k4RT klRT k0C0 klC0 k0C1 klC1 k0Qx k1Qx k2Qx k3Qx klQx k0C2 klC2;refine(rsgn_walk _ (D.cell k j) _ Vx.out).mono ?_;rintro e w1 ⟨rfl,hb1⟩;replace HT:=lH (HT.out.below hb1);replace Vx:=lH (Vx.out.below hb1);replace RT:=rW RT hb1;replace Qx:=lH (Qx.out.below hb1);replace C0:=lH (cell_below hb1 C0.out);replace C1:=lH (cell_below hb1 C1.out);replace C2:=lH (cell_below hb1 C2.out);replace HB:=bT HB hb1;clear hb1;have hsn:=HSN.out;have k0RT:=aI 0 RT;have k1RT:=aI 1 RT;have k2RT:=aI 2 RT;have k4RT:=aI 4 RT;have klRT:=RT.out.lt;have k0C0:=C0.out;have klC0:=cell_lt C0.out;have k0C1:=C1.out;have klC1:=cell_lt C1.out;obtain⟨k0Qx,k1Qx,k2Qx,k3Qx⟩:=Qx.out;have klQx:=Qx.out.lt;have k0C2:=C2.out;have klC2:=cell_lt C2.out;go_wp2_with fail
       clear k0RT k1RT k2RT k4RT klRT k0C0 klC0 k0C1 klC1 k0Qx k1Qx k2Qx k3Qx klQx k0C2 klC2;go_roundw
       case rel=>exact⟨k+1,(k:Nat),by omega,by simp,rfl,lH (leavingN_less HS.out HF.out HC.out HL.out),HB.out⟩
       case measure=>exact mZ
      ·have hlt:decide (D.basic k<D.basic x)=false:=by simpa using hl
       have HL:=lH hl;clear hl;have k0RT:=aI 0 RT;have k1RT:=aI 1 RT;have k2RT:=aI 2 RT;have k4RT:=aI 4 RT;have klRT:=RT.out.lt;have k0C0:=C0.out;have klC0:=cell_lt C0.out;have k0C1:=C1.out;have klC1:=cell_lt C1.out;obtain⟨k0Qx,k1Qx,k2Qx,k3Qx⟩:=Qx.out;have klQx:=Qx.out.lt;have k0C2:=C2.out;have klC2:=cell_lt C2.out;go_wp2_with fail
       clear k0RT k1RT k2RT k4RT klRT k0C0 klC0 k0C1 klC1 k0Qx k1Qx k2Qx k3Qx klQx k0C2 klC2;refine(rsgn_walk _ (D.cell k j) _ Vx.out).mono ?_;rintro e w1 ⟨rfl,hb1⟩;replace HT:=lH (HT.out.below hb1);replace Vx:=lH (Vx.out.below hb1);replace RT:=rW RT hb1;replace Qx:=lH (Qx.out.below hb1);replace C0:=lH (cell_below hb1 C0.out);replace C1:=lH (cell_below hb1 C1.out);replace C2:=lH (cell_below hb1 C2.out);replace HB:=bT HB hb1;clear hb1;have hsn:=HSN.out;have k0RT:=aI 0 RT;have k1RT:=aI 1 RT;have k2RT:=aI 2 RT;have k4RT:=aI 4 RT;have klRT:=RT.out.lt;have k0C0:=C0.out;have klC0:=cell_lt C0.out;have k0C1:=C1.out;have klC1:=cell_lt C1.out;obtain⟨k0Qx,k1Qx,k2Qx,k3Qx⟩:=Qx.out;have klQx:=Qx.out.lt;have k0C2:=C2.out;have klC2:=cell_lt C2.out;go_wp2_with fail
       clear k0RT k1RT k2RT k4RT klRT k0C0 klC0 k0C1 klC1 k0Qx k1Qx k2Qx k3Qx klQx k0C2 klC2;go_roundw
       case rel=>exact⟨k+1,(x:Nat),by omega,by simp,rfl,lH (leavingN_far HS.out HL.out),HB.out⟩
       case measure=>exact mZ
  ·obtain rfl:m=k:=by omega
   go_wp2_with fail
   go_returns;exact⟨out,rfl,HS.out,HB.out⟩
end
end Go.Proofs.YtdefghfjhgmpfaaGreatDoor
