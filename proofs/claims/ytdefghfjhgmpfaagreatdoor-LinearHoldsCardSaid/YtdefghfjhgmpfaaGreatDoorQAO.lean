/- Parts of this proof: RatB Mul RatE. -/
import Derived.Test.YtdefghfjhgmpfaaGreatDoorQAE
import Derived.Test.YtdefghfjhgmpfaaGreatDoorQAM
import Derived.Test.YtdefghfjhgmpfaaGreatDoorQAC
import Derived.Test.YtdefghfjhgmpfaaGreatDoorQAN
namespace Go.Proofs.YtdefghfjhgmpfaaGreatDoor
section
open Go.RowKit
open Lp (RL)
set_option maxHeartbeats 1600000 in
theorem whole_walk(va:Value)(a:Rat)(w:World)(ha:IsRat w va a)(hl:RL 8000000000000 a):
  Calls Tryz.prog 106 #[va] w fun e w'=>e= .returned (.bool (decide (a.den=1))) /\ Below w.heap.size w w':=by
 obtain⟨sa,Aa,la,ca,ta,Ba,ma,da,rfl⟩:=ha.shape;obtain⟨hna,y,hda,hy⟩:=ha.parts;have HL:=lH hl;clear hl;by_cases h0:y=0
 ·subst h0;obtain⟨W,hW,RA,HB⟩:=eN1 w [.bool sa, .slice Aa la ca, .bool ta, .slice Ba ma da] 105;have VD:=lH ((hda).below HB.out);clear ha hna hda;have HY:=lH hy;clear hy;go_enter Tryz.func106,Tryz.ntmps106;go_wp2_with fail
  rw[<- hW];clear hW;go_wp2_with fail
  have HRG:=rG W;have glRA:=RA.out.lt;obtain⟨g0RA,g1RA,g2RA,g3RA⟩:=aT4 RA.out;have KS:=lH (kC g0RA (kC g1RA (kC g2RA (kN g3RA))));clear glRA g0RA g1RA g2RA g3RA;refine rL KS.out (fun i=>false) ?_;have hh:=KS.out _ HRG.out;refine tKs 0 3 hh ?_;refine tKs 1 4 hh ?_;refine rD 2 (fun K hK=> ?_);go_simp;refine(sign_walk _ 0 _ (by exact VD.out)).mono ?_;rintro e w1 ⟨rfl,hb1⟩;have hb1:Below W.heap.size W w1:=bD hb1;replace VD:=lH (VD.out.below hb1);replace RA:=rW RA hb1;replace HB:=bT HB hb1;replace HRG:=bT HRG hb1;rw[show sgI 0=0 from rfl];clear hh hb1;have hh:=KS.out _ HRG.out;refine kH hK hh ?_;clear hK K;refine tKs 3 6 hh ?_;refine tKs 4 7 hh ?_;refine tUs 5 8 hh ?_;refine tUs 6 9 hh ?_;refine tUs 7 10 hh ?_;refine tUs 8 11 hh ?_;refine tUs 9 12 hh ?_;refine tKs 10 13 hh ?_;refine tKs 11 2 hh ?_;refine dN ?_ _;clear hh KS HRG;go_wp2_with fail
  go_returns;exact⟨by rw[show decide (a.den=1)=true from by have:=HY.out;have:=a.den_nz;simp;omega];rfl,HB.out⟩
 ·have hyd:y=(a.den:Int):=by omega
  subst hyd;have HN:=lH h0;clear h0 hy;obtain⟨W,hW,RA,HB⟩:=eN1 w [.bool sa, .slice Aa la ca, .bool ta, .slice Ba ma da] 105;have VD:=lH ((hda).below HB.out);clear ha hna hda;have hle:=HL.out.limd;have HLD:=lH hle;clear hle;go_enter Tryz.func106,Tryz.ntmps106;go_wp2_with fail
  rw[<- hW];clear hW;have hsg:sgI (a.den:Int)=1:=by have:=HN.out;unfold sgI;rw[if_neg (by omega),if_neg (by omega)]
  have HSG:=lH hsg;clear hsg;by_cases h1:a.den=1
  ·have H1:=lH h1;clear h1;have hc:cmpI (a.den:Int) 1=0:=by have:=H1.out;have:=HN.out;unfold cmpI;rw[if_neg (by omega),if_pos (by omega)]
   have HC:=lH hc;clear hc;go_wp2_with fail
   have HRG:=rG W;have HRD:Hid (Below W.heap.size W W.drew):=lH (Below.refl _ _).drew;have glRA:=RA.out.lt;obtain⟨g0RA,g1RA,g2RA,g3RA⟩:=aT4 RA.out;have KS:=lH (kC g0RA (kC g1RA (kC g2RA (kN g3RA))));have tok0:True:=trivial;have tok1:True:=trivial;have tok2:True:=trivial
   go_region_held3 (fun w'=> w'.cell? ⟨w.heap.size,0,none⟩=some (.bool sa) /\ w'.cell? ⟨w.heap.size,1,none⟩=some (.slice Aa la ca) /\ w'.cell? ⟨w.heap.size,2,none⟩=some (.bool ta) /\ w'.cell? ⟨w.heap.size,3,none⟩=some (.slice Ba ma da))
    (first | (with_reducible exact KS.out _ HRD.out) | (with_reducible exact KS.out _ HRG.out) | (exact KS.out _ (HRG.out.trans ((below_new _ _).mono HRG.out.size))) | (exact KS.out _ (HRG.out.trans (((below_new _ _).drew).mono HRG.out.size))) | go_keep)
    (first
     | (go_at_call 113
        have _t:=tok0;refine(sign_walk _ (a.den:Int) _ (by exact VD.out)).mono ?_;rintro e w1 ⟨rfl,hb1⟩;have hb1:Below W.heap.size W w1:=bD hb1;replace VD:=lH (VD.out.below hb1);replace RA:=rW RA hb1;replace HB:=bT HB hb1;replace HRG:=bT HRG hb1;rw[HSG.out]
        clear hb1 tok0 _t)
     | (go_at_call 134
        have _t:=tok1;refine(one_walk _).mono ?_;rintro e w2 ⟨vo,rfl,ho,hb2⟩;have hb2:Below w1.heap.size w1 w2:=bD hb2;obtain⟨so,Ao,lo,co,rfl⟩:=ho.shape;have Vo:=lH ho;replace VD:=lH (VD.out.below hb2);replace RA:=rW RA hb2;replace HB:=bT HB hb2;replace HRG:=bT HRG hb2
        clear hb2 tok1 _t ho)
     | (go_at_call 133
        have _t:=tok2;refine(compare_walk _ _ (a.den:Int) 1 _ (by exact VD.out) (by exact Vo.out) (HLD.out.l1 (by decide)) (lim_one.l1 (by decide))).mono ?_;rintro e w3 ⟨rfl,hb3⟩;have hb3:Below w2.heap.size w2 w3:=bD hb3;replace VD:=lH (VD.out.below hb3);replace Vo:=lH (Vo.out.below hb3);replace RA:=rW RA hb3;replace HB:=bT HB hb3;replace HRG:=bT HRG hb3;rw[HC.out]
        clear hb3 tok2 _t))
   clear glRA g0RA g1RA g2RA g3RA KS HRG HRD;go_wp2_with fail
   go_returns;exact⟨by rw[show decide (a.den=1)=true from by have:=H1.out;simp;try omega];rfl,HB.out⟩
  ·have H1:=lH h1;clear h1;have hc:cmpI (a.den:Int) 1=1:=by have:=H1.out;have:=HN.out;unfold cmpI;rw[if_neg (by omega),if_neg (by omega)]
   have HC:=lH hc;clear hc;go_wp2_with fail
   have HRG:=rG W;have HRD:Hid (Below W.heap.size W W.drew):=lH (Below.refl _ _).drew;have glRA:=RA.out.lt;obtain⟨g0RA,g1RA,g2RA,g3RA⟩:=aT4 RA.out;have KS:=lH (kC g0RA (kC g1RA (kC g2RA (kN g3RA))));have tok0:True:=trivial;have tok1:True:=trivial;have tok2:True:=trivial
   go_region_held3 (fun w'=> w'.cell? ⟨w.heap.size,0,none⟩=some (.bool sa) /\ w'.cell? ⟨w.heap.size,1,none⟩=some (.slice Aa la ca) /\ w'.cell? ⟨w.heap.size,2,none⟩=some (.bool ta) /\ w'.cell? ⟨w.heap.size,3,none⟩=some (.slice Ba ma da))
    (first | (with_reducible exact KS.out _ HRD.out) | (with_reducible exact KS.out _ HRG.out) | (exact KS.out _ (HRG.out.trans ((below_new _ _).mono HRG.out.size))) | (exact KS.out _ (HRG.out.trans (((below_new _ _).drew).mono HRG.out.size))) | go_keep)
    (first
     | (go_at_call 113
        have _t:=tok0;refine(sign_walk _ (a.den:Int) _ (by exact VD.out)).mono ?_;rintro e w1 ⟨rfl,hb1⟩;have hb1:Below W.heap.size W w1:=bD hb1;replace VD:=lH (VD.out.below hb1);replace RA:=rW RA hb1;replace HB:=bT HB hb1;replace HRG:=bT HRG hb1;rw[HSG.out]
        clear hb1 tok0 _t)
     | (go_at_call 134
        have _t:=tok1;refine(one_walk _).mono ?_;rintro e w2 ⟨vo,rfl,ho,hb2⟩;have hb2:Below w1.heap.size w1 w2:=bD hb2;obtain⟨so,Ao,lo,co,rfl⟩:=ho.shape;have Vo:=lH ho;replace VD:=lH (VD.out.below hb2);replace RA:=rW RA hb2;replace HB:=bT HB hb2;replace HRG:=bT HRG hb2
        clear hb2 tok1 _t ho)
     | (go_at_call 133
        have _t:=tok2;refine(compare_walk _ _ (a.den:Int) 1 _ (by exact VD.out) (by exact Vo.out) (HLD.out.l1 (by decide)) (lim_one.l1 (by decide))).mono ?_;rintro e w3 ⟨rfl,hb3⟩;have hb3:Below w2.heap.size w2 w3:=bD hb3;replace VD:=lH (VD.out.below hb3);replace Vo:=lH (Vo.out.below hb3);replace RA:=rW RA hb3;replace HB:=bT HB hb3;replace HRG:=bT HRG hb3;rw[HC.out]
        clear hb3 tok2 _t))
   clear glRA g0RA g1RA g2RA g3RA KS HRG HRD;go_wp2_with fail
   go_returns;exact⟨by rw[show decide (a.den=1)=false from by have:=H1.out;simp;try omega];rfl,HB.out⟩
end
section
open Go.RowKit
theorem mul_walk(va vb:Value)(a b:Int)(w:World)(ha:IsInt w va a)(hb:IsInt w vb b)(hla:(digs a.natAbs).length<8796093022208)(hlb:(digs b.natAbs).length<8796093022208):
  Calls Tryz.prog 141 #[va,vb] w fun e w'=>∃v,e= .returned v /\ IsInt w' v (a*b) /\ Below w.heap.size w w':=by
 obtain⟨A,ca,rfl,hca,hmca,hua⟩:=ha;obtain⟨B,cb,rfl,hcb,hmcb,hub⟩:=hb;have hda:=dig_digs a.natAbs;have hdb:=dig_digs b.natAbs;have hsg:=sgn_mul a b;have hva:=val_digs a.natAbs;have hvb:=val_digs b.natAbs;generalize digs a.natAbs=la at*;generalize digs b.natAbs=lb at*;rw[<- hva, <- hvb] at hsg;obtain⟨na,hna⟩:=eX (decide (a<0));obtain⟨nb,hnb⟩:=eX (decide (b<0));rw[<- hna, <- hnb] at hsg ⊢;have HSG:=lH hsg;clear hna hnb hva hvb hsg hca hmca hcb hmcb;obtain⟨i0,hi0,hz0,hz1,hz2⟩:=info_parts info32;go_enter Tryz.func141,Tryz.ntmps141
 go_wp2_with (at_make;refine wpList_mk _ rfl (.tmp 17) (.tmp 17) 101 rfl 160 i0 (.int .u32 0) Tryz.underlying101 hi0 hz0 hz1 rfl _ _ _ rfl rfl rfl rfl ?_ ?_ ?_)
 ·first | omega | (rw[hz2];omega)
 ·unfold maxLen;omega
 obtain⟨W,hW⟩:=eX (((w.alloc (.cells #[.bool na, .slice A la.length ca] 103)).alloc (.cells #[.bool nb, .slice B lb.length cb] 103)).alloc (.cells #[.bool false, .slice none 0 0] 103));rw[<- hW];obtain⟨r1,r2,r3,hWs,hWB⟩:=boxes3 w (.cells #[.bool na, .slice A la.length ca] 103) (.cells #[.bool nb, .slice B lb.length cb] 103) (.cells #[.bool false, .slice none 0 0] 103);rw[<- hW] at r1 r2 r3 hWs hWB;have r1:Row W w.heap.size 103 [.bool na, .slice A la.length ca]:=r1;have r2:Row W (w.heap.size+1) 103 [.bool nb, .slice B lb.length cb]:=r2;have r3:Row W (w.heap.size+2) 103 [.bool false, .slice none 0 0]:=r3;have f1:=r1.at_ 1 rfl;have f2:=r2.at_ 1 rfl;clear hW;intro w1 hrow hb1 hs1;have hr:=Row32.made hrow;clear hrow;have HR:=lH hr;have HWB:=lH hWB;have HWS:=lH hWs;clear hr hWB hWs;have g1:=((bbelow hb1).1 w.heap.size 1 (by omega)).trans f1;have g2:=((bbelow hb1).1 (w.heap.size+1) 1 (by omega)).trans f2;go_wp2_with fail
 go_loopw [22] (fun iv wr=>∃ (k:Nat) (lo:List Nat),k <= la.length /\ iv= .int .i64 k /\ Row32 wr (w.heap.size+1+1+1) lo /\ lo.length=la.length+lb.length /\ Dig lo /\ Hid (val lo=val (la.take k)*val lb) /\ Hid (∀j,k+lb.length <= j -> dg lo j=0) /\ Below (w.heap.size+1+1+1) W wr)
  (fun iv _=>la.length-(intOf iv).toNat)
 case atStart=>exact⟨0,_,Nat.zero_le _,rfl,HR.out,List.length_replicate,Dig.replicate _,by show _=_;rw[val_replicate];simp[val],fun j _=>by rw[dg_replicate];split <;> rfl,hb1⟩
 case round=>
  obtain⟨k,lo,hk,rfl,hrow,hlo,hdlo,hinv,hz,hbw⟩:=hrel;have HDLO:=lH hdlo;clear hdlo g1 g2;have g1:=((bbelow hbw).1 w.heap.size 1 (by omega)).trans f1;have g2:=((bbelow hbw).1 (w.heap.size+1) 1 (by omega)).trans f2;by_cases hkl:k<la.length
  ·obtain⟨b1,off,rfl,hbb,hcell⟩:=Cells.at_ hua (by omega);have hcx:=hcell k hkl;have hbx:((dg la k:Nat):Int)<4294967296:=by have:=hda k;omega
   have hcx':=((bbelow hbw).1 b1 (off+k) (by omega)).trans (((bbelow HWB.out).1 b1 (off+k) (by omega)).trans hcx);clear hcell hcx;go_wp2_with fail
   obtain⟨wo,hwo⟩:=eX (wr);rw[<- hwo];rw[<- hwo] at hrow hbw g1 g2 hcx';clear hwo wr
   go_loopw [8,30] (fun cv jv wr=>∃ (j c:Nat) (lo':List Nat),j <= lb.length /\ cv= .int .u64 c /\ jv= .int .i64 j /\ Row32 wr (w.heap.size+1+1+1) lo' /\ lo'.length=la.length+lb.length /\ Dig lo' /\ ((c:Nat):Int)<4294967296 /\
     Hid (val lo'+BB^ (k+j)*c=val lo+BB^k* (dg la k*val (lb.take j))) /\ Hid (∀i,k+lb.length <= i -> dg lo' i=0) /\ Below (w.heap.size+1+1+1) W wr)
    (fun _ jv _=>lb.length-(intOf jv).toNat)
   case atStart=>exact⟨0,0,lo,Nat.zero_le _,rfl,rfl,hrow,hlo,HDLO.out,by omega,by show _=_;simp[val],hz,hbw⟩
   case round=>
    obtain⟨j,c,lo',hj,rfl,rfl,hrow',hlo',hdlo',hc,hinv',hz',hbw'⟩:=hrel;have HDLO':=lH hdlo';clear hdlo';have g1':=((bbelow hbw').1 w.heap.size 1 (by omega)).trans f1;have g2':=((bbelow hbw').1 (w.heap.size+1) 1 (by omega)).trans f2;clear g1 g2 hcx';by_cases hjl:j<lb.length
    ·obtain⟨b2,off2,rfl,hbb2,hcell2⟩:=Cells.at_ hub (by omega);have hcy:=((bbelow hbw').1 b2 (off2+j) (by omega)).trans (((bbelow HWB.out).1 b2 (off2+j) (by omega)).trans (hcell2 j hjl));have hby:((dg lb j:Nat):Int)<4294967296:=by have:=hdb j;omega
     have hgo:=hrow'.cell (j:=k+j) (by omega);have hfo:=hrow'.free (k+j);have hgb:((dg lo' (k+j):Nat):Int)<4294967296:=by have:=HDLO'.out (k+j);omega
     have hi:((k:Nat):Int)+ (j:Nat)<(la.length:Nat)+ (lb.length:Nat):=by omega
     obtain⟨p,hp⟩:=eX (dg la k*dg lb j);have hp1:((dg la k:Nat):Int)* ((dg lb j:Nat):Int)=(p:Nat):=by rw[hp];simp
     have hp2:((p:Nat):Int) <= 18446744065119617025:=by
      have:=Nat.mul_le_mul (show dg la k <= 4294967295 by omega) (show dg lb j <= 4294967295 by omega);omega
     have HP:=lH hp;clear hp hcell2;go_wp2_with fail
     go_roundw
     case rel=>
      have hst:=mul_step (lo:=lo') (lb:=lb) (i:=k) (j:=j) (c:=c) (x:=dg la k) (s:=c+ (p+dg lo' (k+j))) (V:=val lo) (by omega) hinv' (by rw[HP.out]);refine⟨j+1,(c+ (p+dg lo' (k+j))) / 4294967296,lo'.set (k+j) ((c+ (p+dg lo' (k+j)))%4294967296),by omega,by simp,by simp,hrow'.set (k+j) _ (by simp),by rw[List.length_set];exact hlo',HDLO'.out.set _ _ (Nat.mod_lt _ (by omega)),by omega,hst,?_,hbw'.setCell (Nat.le_refl _) _⟩;intro i hi';rw[dg_set,if_neg (by omega)];exact hz'.out i hi'
     case measure=>exact mZ
    ·obtain rfl:j=lb.length:=by omega
     have hgo:=hrow'.cell (j:=k+lb.length) (by omega);have hfo:=hrow'.free (k+lb.length);have hi:((k:Nat):Int)+ (lb.length:Nat)<(la.length:Nat)+ (lb.length:Nat):=by omega
     go_wp2_with fail
     go_roundw
     case rel=>
      refine⟨k+1,lo'.set (k+lb.length) c,by omega,by simp,hrow'.set (k+lb.length) c (by simp),by rw[List.length_set];exact hlo',HDLO'.out.set _ _ (by omega),mul_row (by omega) (hz'.out _ (by omega)) hinv' hinv,?_,hbw'.setCell (Nat.le_refl _) _⟩;intro i hi';rw[dg_set,if_neg (by omega)];exact hz'.out i (by omega)
     case measure=>exact mZ
  ·obtain rfl:k=la.length:=by omega
   have g3:=((bbelow hbw).1 w.heap.size 0 (by omega)).trans (r1.at_ 0 rfl);have g4:=((bbelow hbw).1 (w.heap.size+1) 0 (by omega)).trans (r2.at_ 0 rfl);go_wp2_with fail
   refine(signed_walk _ _ lo _ ⟨_,_,by rw[hlo],by rw[hlo];exact Nat.le_refl _,by unfold maxLen;omega,hrow.u32,HDLO.out⟩).mono ?_;rintro e w2 ⟨v,rfl,hint,hb2⟩;have hsz:=hrow.lt;have r3':Row w2 (w.heap.size+1+1) 103 [.bool false, .slice none 0 0]:=Row.below (Row.below r3 hbw (by omega)) hb2 (by omega);have k1:=r3'.at_ 0 rfl;have k2:=r3'.at_ 1 rfl;have k3:=r3'.free 0;have k4:=r3'.free 1;have hbW2:Below w.heap.size w w2:=(HWB.out.trans (hbw.mono (by omega))).trans (hb2.mono (by omega))
   have hval:sgn (!(na==nb)) (val lo)=a*b:=by
    rw[hinv.out,val_take_of_le (Nat.le_refl _), <- HSG.out];rfl
   rw[hval] at hint;obtain⟨A',c',rfl,h1,h2,h3⟩:=hint;have H3:=lH h3;have HB2:=lH hb2;clear h3 hb2;go_wp2_with fail
   refine bodyPost_ret (v:= .agg #[.bool (decide (a*b<0)), .slice A' (digs (a*b).natAbs).length c']) (by simp[results,Tryz.results141,go_sem,k1,k2]) rfl ?_;refine⟨_,rfl,⟨A',c',rfl,h1,h2,?_⟩,?_⟩
   ·exact H3.out.kept (grownBy_set2 _ _ _ _ _ _) r3' (by simp)
   ·exact(hbW2.setCell (p:=⟨w.heap.size+1+1,0,none⟩) (by simp;omega) _).setCell (p:=⟨w.heap.size+1+1,1,none⟩) (by simp;omega) _
end
section
open Go.RowKit
open Lp (RL)
set_option maxHeartbeats 3200000 in
theorem rmulq_walk(va vb:Value)(a b:Rat)(w:World)(ha:IsRat w va a)(hb:IsRat w vb b)(hla:RL 1000000000000 a)(hlb:RL 1000000000000 b):
  Calls Tryz.prog 128 #[va,vb] w fun e w'=>∃v,e= .returned v /\ IsRat w' v (a*b) /\ Below w.heap.size w w':=by
 obtain⟨sa,Aa,la,ca,ta,Ba,ma,da,rfl⟩:=ha.shape;obtain⟨sb,Ab,lb,cb,tb,Bb,mb,db,rfl⟩:=hb.shape;have HLA:=lH hla;have HLB:=lH hlb;clear hla hlb;by_cases ha1:a.den=1
 ·have HA1:=lH ha1;clear ha1;obtain⟨W,hW,RA,RB,RR,HB⟩:=eN3 w [.bool sa, .slice Aa la ca, .bool ta, .slice Ba ma da] 105 [.bool sb, .slice Ab lb cb, .bool tb, .slice Bb mb db] 105 [.bool false, .slice none 0 0, .bool false, .slice none 0 0] 105;have VA:=lH ((ha).below HB.out);have VB:=lH ((hb).below HB.out);clear ha hb;obtain⟨k0,k1,k2,k3⟩:=aT4 RA.out;have kl:=RA.out.lt;go_enter Tryz.func128,Tryz.ntmps128;go_wp2_with fail
  rw[<- hW];clear hW;refine(whole_walk _ a _ VA.out (HLA.out.mono (by decide))).mono ?_;rintro e w1 ⟨rfl,hb1⟩;replace VA:=lH (VA.out.below hb1);replace VB:=lH (VB.out.below hb1);replace RA:=rW RA hb1;replace RB:=rW RB hb1;replace RR:=rW RR hb1;replace HB:=bT HB hb1;clear hb1;clear k0 k1 k2 k3 kl;rw[show decide (a.den=1)=true from by simpa using HA1.out];obtain⟨k0RB,k1RB,k2RB,k3RB⟩:=aT4 RB.out;have klRB:=RB.out.lt;go_wp2_with fail
  clear k0RB k1RB k2RB k3RB klRB;refine(whole_walk _ b _ VB.out (HLB.out.mono (by decide))).mono ?_;rintro e w2 ⟨rfl,hb2⟩;replace VA:=lH (VA.out.below hb2);replace VB:=lH (VB.out.below hb2);replace RA:=rW RA hb2;replace RB:=rW RB hb2;replace RR:=rW RR hb2;replace HB:=bT HB hb2;clear hb2;by_cases hb1:b.den=1
  ·rw[show decide (b.den=1)=true from by simpa using hb1];have HB1:=lH hb1;clear hb1;obtain⟨k0RA,k1RA,k2RA,k3RA⟩:=aT4 RA.out;have klRA:=RA.out.lt;obtain⟨k0RB,k1RB,k2RB,k3RB⟩:=aT4 RB.out;have klRB:=RB.out.lt;go_wp2_with fail
   clear k0RA k1RA k2RA k3RA klRA k0RB k1RB k2RB k3RB klRB;refine(mul_walk _ _ a.num b.num _ VA.out.parts.1 VB.out.parts.1 ((HLA.out.limn).l1 (by decide)) ((HLB.out.limn).l1 (by decide))).mono ?_;rintro e w3 ⟨vn,rfl,hn,hb3⟩;obtain⟨sn,An,ln,cn,rfl⟩:=hn.shape;have Vn:=lH hn;clear hn;replace VA:=lH (VA.out.below hb3);replace VB:=lH (VB.out.below hb3);replace RA:=rW RA hb3;replace RB:=rW RB hb3;replace RR:=rW RR hb3;replace HB:=bT HB hb3;clear hb3;obtain⟨k0RR,k1RR,k2RR,k3RR⟩:=aT4 RR.out;have klRR:=RR.out.lt;have kf0RR:=RR.out.free 0;have kf1RR:=RR.out.free 1;have kf2RR:=RR.out.free 2;have kf3RR:=RR.out.free 3;have hr:=res_store4 RR.out (by decide) (by omega) HB.out (IsRat.mk (q:=a*b) Vn.out (IsInt.zero_ _) (qmul_whole HA1.out HB1.out).1.symm (.inr ⟨rfl,(qmul_whole HA1.out HB1.out).2⟩));have HRES:=lH hr;clear hr;go_wp2_with fail
   refine bodyPost_ret (v:= .agg #[.bool sn, .slice An ln cn, .bool false, .slice none 0 0]) (by simp[results,Tryz.results128,go_sem,k0RR,k1RR,k2RR,k3RR]) rfl ?_;exact⟨_,rfl,HRES.out.1,HRES.out.2⟩
  ·rw[show decide (b.den=1)=false from by simpa using hb1];clear hb1;go_wp2_with fail
   have HRG:=rG w2;have HRD:Hid (Below w2.heap.size w2 w2.drew):=lH (Below.refl _ _).drew;have glRA:=RA.out.lt;obtain⟨g0RA,g1RA,g2RA,g3RA⟩:=aT4 RA.out;have glRB:=RB.out.lt;obtain⟨g0RB,g1RB,g2RB,g3RB⟩:=aT4 RB.out;have KS:=lH (kC g0RA (kC g1RA (kC g2RA (kC g3RA (kC g0RB (kC g1RB (kC g2RB (kN g3RB))))))));have neRR:=RR.out.lt;have KT:=lH (k4C (w.heap.size+1+1) g0RA (k4C (w.heap.size+1+1) g1RA (k4C (w.heap.size+1+1) g2RA (k4C (w.heap.size+1+1) g3RA (k4C (w.heap.size+1+1) g0RB (k4C (w.heap.size+1+1) g1RB (k4C (w.heap.size+1+1) g2RB (k4N (w.heap.size+1+1) g3RB))))))));clear neRR;have tok0:True:=trivial;have tok1:True:=trivial;have tok2:True:=trivial;have tok3:True:=trivial;have tok4:True:=trivial
   go_region_held3 (fun w'=> w'.cell? ⟨w.heap.size,0,none⟩=some (.bool sa) /\ w'.cell? ⟨w.heap.size,1,none⟩=some (.slice Aa la ca) /\ w'.cell? ⟨w.heap.size,2,none⟩=some (.bool ta) /\ w'.cell? ⟨w.heap.size,3,none⟩=some (.slice Ba ma da) /\ w'.cell? ⟨(w.heap.size+1),0,none⟩=some (.bool sb) /\ w'.cell? ⟨(w.heap.size+1),1,none⟩=some (.slice Ab lb cb) /\ w'.cell? ⟨(w.heap.size+1),2,none⟩=some (.bool tb) /\ w'.cell? ⟨(w.heap.size+1),3,none⟩=some (.slice Bb mb db))
    (first | (with_reducible exact KS.out _ HRD.out) | (with_reducible exact KS.out _ HRG.out) | (with_reducible exact KT.out _ _ _ _ _ HRG.out) | (exact KS.out _ (HRG.out.trans ((below_new _ _).mono HRG.out.size))) | (exact KS.out _ (HRG.out.trans (((below_new _ _).drew).mono HRG.out.size))) | go_keep)
    (first
     | (go_at_call 141
        have _t:=tok0;refine(mul_walk _ _ a.num b.num _ (by exact VA.out.parts.1) (by exact VB.out.parts.1) ((HLA.out.limn).l1 (by decide)) ((HLB.out.limn).l1 (by decide))).mono ?_;rintro e w3 ⟨vf,rfl,hf,hb3⟩;have hb3:Below w2.heap.size w2 w3:=bD hb3;obtain⟨sf,Af,lf,cf,rfl⟩:=hf.shape;have Vf:=lH hf;replace VA:=lH (VA.out.below hb3);replace VB:=lH (VB.out.below hb3);replace RA:=rW RA hb3;replace RB:=rW RB hb3;replace RR:=rW RR hb3;replace HB:=bT HB hb3;replace HRG:=bT HRG hb3
        clear hb3 tok0 _t hf)
     | (go_at_call 142
        have _t:=tok1;refine(den_walk _ a _ (by exact VA.out)).mono ?_;rintro e w4 ⟨vj,rfl,hj,hb4⟩;have hb4:Below w3.heap.size w3 w4:=bD hb4;obtain⟨sj,Aj,lj,cj,rfl⟩:=hj.shape;have Vj:=lH hj;replace VA:=lH (VA.out.below hb4);replace VB:=lH (VB.out.below hb4);replace Vf:=lH (Vf.out.below hb4);replace RA:=rW RA hb4;replace RB:=rW RB hb4;replace RR:=rW RR hb4;replace HB:=bT HB hb4;replace HRG:=bT HRG hb4
        clear hb4 tok1 _t hj)
     | (go_at_call 142
        have _t:=tok2;refine(den_walk _ b _ (by exact VB.out)).mono ?_;rintro e w5 ⟨vk,rfl,hk,hb5⟩;have hb5:Below w4.heap.size w4 w5:=bD hb5;obtain⟨sk,Ak,lk,ck,rfl⟩:=hk.shape;have Vk:=lH hk;replace VA:=lH (VA.out.below hb5);replace VB:=lH (VB.out.below hb5);replace Vf:=lH (Vf.out.below hb5);replace Vj:=lH (Vj.out.below hb5);replace RA:=rW RA hb5;replace RB:=rW RB hb5;replace RR:=rW RR hb5;replace HB:=bT HB hb5;replace HRG:=bT HRG hb5
        clear hb5 tok2 _t hk)
     | (go_at_call 141
        have _t:=tok3;refine(mul_walk _ _ (a.den:Int) (b.den:Int) _ (by exact Vj.out) (by exact Vk.out) ((HLA.out.limd).l1 (by decide)) ((HLB.out.limd).l1 (by decide))).mono ?_;rintro e w6 ⟨vo,rfl,ho,hb6⟩;have hb6:Below w5.heap.size w5 w6:=bD hb6;obtain⟨so,Ao,lo,co,rfl⟩:=ho.shape;have Vo:=lH ho;replace VA:=lH (VA.out.below hb6);replace VB:=lH (VB.out.below hb6);replace Vf:=lH (Vf.out.below hb6);replace Vj:=lH (Vj.out.below hb6);replace Vk:=lH (Vk.out.below hb6);replace RA:=rW RA hb6;replace RB:=rW RB hb6;replace RR:=rW RR hb6;replace HB:=bT HB hb6;replace HRG:=bT HRG hb6
        clear hb6 tok3 _t ho)
     | (go_at_call 154
        have _t:=tok4;refine(reduced_walk _ _ (a.num*b.num) ((a.den:Int)* (b.den:Int)) _ (by exact Vf.out) (by exact Vo.out) (by have h1:=a.den_nz;have h2:=b.den_nz;exact Int.mul_ne_zero (by omega) (by omega)) ((HLA.out.limn.mul HLB.out.limn).mono (by decide)) ((HLA.out.limd.mul HLB.out.limd).mono (by decide))).mono ?_;rintro e w7 ⟨vr,rfl,hr,hb7⟩;have hb7:Below w6.heap.size w6 w7:=bD hb7;obtain⟨sr,Ar,lr,cr,tr,Br,mr,dr,rfl⟩:=hr.shape;have Vr:=lH hr;replace VA:=lH (VA.out.below hb7);replace VB:=lH (VB.out.below hb7);replace Vf:=lH (Vf.out.below hb7);replace Vj:=lH (Vj.out.below hb7);replace Vk:=lH (Vk.out.below hb7);replace Vo:=lH (Vo.out.below hb7);replace RA:=rW RA hb7;replace RB:=rW RB hb7;replace RR:=rW RR hb7;replace HB:=bT HB hb7;replace HRG:=bT HRG hb7;rw[qmul] at hr;replace Vr:=lH hr;have hr:=res_store4 RR.out (by decide) (by omega) HB.out Vr.out;have HRES:=lH hr;clear hr;obtain⟨k0RR,kf0RR,k1RR,kf1RR,k2RR,kf2RR,k3RR,kf3RR⟩:=aF4 RR.out;have klRR:=RR.out.lt
        clear hb7 tok4 _t hr))
   clear glRA g0RA g1RA g2RA g3RA glRB g0RB g1RB g2RB g3RB KS HRG HRD KT;go_wp2_with fail
   refine bodyPost_ret (v:= .agg #[.bool sr, .slice Ar lr cr, .bool tr, .slice Br mr dr]) (by simp[results,Tryz.results128,go_sem,k0RR,k1RR,k2RR,k3RR]) rfl ?_;exact⟨_,rfl,HRES.out.1,HRES.out.2⟩
 ·obtain⟨W,hW⟩:=eX ((((w.alloc (.cells #[.bool sa, .slice Aa la ca, .bool ta, .slice Ba ma da] 105)).alloc (.cells #[.bool sb, .slice Ab lb cb, .bool tb, .slice Bb mb db] 105)).alloc (.cells #[.bool false, .slice none 0 0, .bool false, .slice none 0 0] 105)));obtain⟨r0,r1,r2,hWs,hWB⟩:=boxes3 w (.cells #[.bool sa, .slice Aa la ca, .bool ta, .slice Ba ma da] 105) (.cells #[.bool sb, .slice Ab lb cb, .bool tb, .slice Bb mb db] 105) (.cells #[.bool false, .slice none 0 0, .bool false, .slice none 0 0] 105);rw[<- hW] at r0 r1 r2 hWs hWB;have RA:Hid (Row W w.heap.size 105 [.bool sa, .slice Aa la ca, .bool ta, .slice Ba ma da]):=lH r0;have RB:Hid (Row W (w.heap.size+1) 105 [.bool sb, .slice Ab lb cb, .bool tb, .slice Bb mb db]):=lH r1;have RR:Hid (Row W (w.heap.size+1+1) 105 [.bool false, .slice none 0 0, .bool false, .slice none 0 0]):=lH r2;have VA:=lH ((ha).below hWB);have VB:=lH ((hb).below hWB);have HB:=lH hWB;clear r0 r1 r2 hWs hWB;clear ha hb;obtain⟨k0,k1,k2,k3⟩:=aT4 RA.out;have kl:=RA.out.lt;go_enter Tryz.func128,Tryz.ntmps128;go_wp2_with fail
  rw[<- hW];clear hW;refine(whole_walk _ a _ VA.out (HLA.out.mono (by decide))).mono ?_;rintro e w1 ⟨rfl,hb1⟩;replace VA:=lH (VA.out.below hb1);replace VB:=lH (VB.out.below hb1);replace RA:=rW RA hb1;replace RB:=rW RB hb1;replace RR:=rW RR hb1;replace HB:=bT HB hb1;clear hb1;clear k0 k1 k2 k3 kl;rw[show decide (a.den=1)=false from by simpa using ha1];clear ha1;go_wp2_with fail
  have HRG:=rG w1;have HRD:Hid (Below w1.heap.size w1 w1.drew):=lH (Below.refl _ _).drew;have glRA:=RA.out.lt;obtain⟨g0RA,g1RA,g2RA,g3RA⟩:=aT4 RA.out;have glRB:=RB.out.lt;obtain⟨g0RB,g1RB,g2RB,g3RB⟩:=aT4 RB.out;have KS:=lH (kC g0RA (kC g1RA (kC g2RA (kC g3RA (kC g0RB (kC g1RB (kC g2RB (kN g3RB))))))));have neRR:=RR.out.lt;have KT:=lH (k4C (w.heap.size+1+1) g0RA (k4C (w.heap.size+1+1) g1RA (k4C (w.heap.size+1+1) g2RA (k4C (w.heap.size+1+1) g3RA (k4C (w.heap.size+1+1) g0RB (k4C (w.heap.size+1+1) g1RB (k4C (w.heap.size+1+1) g2RB (k4N (w.heap.size+1+1) g3RB))))))));clear neRR;have tok0:True:=trivial;have tok1:True:=trivial;have tok2:True:=trivial;have tok3:True:=trivial;have tok4:True:=trivial
  go_region_held3 (fun w'=> w'.cell? ⟨w.heap.size,0,none⟩=some (.bool sa) /\ w'.cell? ⟨w.heap.size,1,none⟩=some (.slice Aa la ca) /\ w'.cell? ⟨w.heap.size,2,none⟩=some (.bool ta) /\ w'.cell? ⟨w.heap.size,3,none⟩=some (.slice Ba ma da) /\ w'.cell? ⟨(w.heap.size+1),0,none⟩=some (.bool sb) /\ w'.cell? ⟨(w.heap.size+1),1,none⟩=some (.slice Ab lb cb) /\ w'.cell? ⟨(w.heap.size+1),2,none⟩=some (.bool tb) /\ w'.cell? ⟨(w.heap.size+1),3,none⟩=some (.slice Bb mb db))
   (first | (with_reducible exact KS.out _ HRD.out) | (with_reducible exact KS.out _ HRG.out) | (with_reducible exact KT.out _ _ _ _ _ HRG.out) | (exact KS.out _ (HRG.out.trans ((below_new _ _).mono HRG.out.size))) | (exact KS.out _ (HRG.out.trans (((below_new _ _).drew).mono HRG.out.size))) | go_keep)
   (first
    | (go_at_call 141
       have _t:=tok0;refine(mul_walk _ _ a.num b.num _ (by exact VA.out.parts.1) (by exact VB.out.parts.1) ((HLA.out.limn).l1 (by decide)) ((HLB.out.limn).l1 (by decide))).mono ?_;rintro e w2 ⟨vf,rfl,hf,hb2⟩;have hb2:Below w1.heap.size w1 w2:=bD hb2;obtain⟨sf,Af,lf,cf,rfl⟩:=hf.shape;have Vf:=lH hf;replace VA:=lH (VA.out.below hb2);replace VB:=lH (VB.out.below hb2);replace RA:=rW RA hb2;replace RB:=rW RB hb2;replace RR:=rW RR hb2;replace HB:=bT HB hb2;replace HRG:=bT HRG hb2
       clear hb2 tok0 _t hf)
    | (go_at_call 142
       have _t:=tok1;refine(den_walk _ a _ (by exact VA.out)).mono ?_;rintro e w3 ⟨vj,rfl,hj,hb3⟩;have hb3:Below w2.heap.size w2 w3:=bD hb3;obtain⟨sj,Aj,lj,cj,rfl⟩:=hj.shape;have Vj:=lH hj;replace VA:=lH (VA.out.below hb3);replace VB:=lH (VB.out.below hb3);replace Vf:=lH (Vf.out.below hb3);replace RA:=rW RA hb3;replace RB:=rW RB hb3;replace RR:=rW RR hb3;replace HB:=bT HB hb3;replace HRG:=bT HRG hb3
       clear hb3 tok1 _t hj)
    | (go_at_call 142
       have _t:=tok2;refine(den_walk _ b _ (by exact VB.out)).mono ?_;rintro e w4 ⟨vk,rfl,hk,hb4⟩;have hb4:Below w3.heap.size w3 w4:=bD hb4;obtain⟨sk,Ak,lk,ck,rfl⟩:=hk.shape;have Vk:=lH hk;replace VA:=lH (VA.out.below hb4);replace VB:=lH (VB.out.below hb4);replace Vf:=lH (Vf.out.below hb4);replace Vj:=lH (Vj.out.below hb4);replace RA:=rW RA hb4;replace RB:=rW RB hb4;replace RR:=rW RR hb4;replace HB:=bT HB hb4;replace HRG:=bT HRG hb4
       clear hb4 tok2 _t hk)
    | (go_at_call 141
       have _t:=tok3;refine(mul_walk _ _ (a.den:Int) (b.den:Int) _ (by exact Vj.out) (by exact Vk.out) ((HLA.out.limd).l1 (by decide)) ((HLB.out.limd).l1 (by decide))).mono ?_;rintro e w5 ⟨vo,rfl,ho,hb5⟩;have hb5:Below w4.heap.size w4 w5:=bD hb5;obtain⟨so,Ao,lo,co,rfl⟩:=ho.shape;have Vo:=lH ho;replace VA:=lH (VA.out.below hb5);replace VB:=lH (VB.out.below hb5);replace Vf:=lH (Vf.out.below hb5);replace Vj:=lH (Vj.out.below hb5);replace Vk:=lH (Vk.out.below hb5);replace RA:=rW RA hb5;replace RB:=rW RB hb5;replace RR:=rW RR hb5;replace HB:=bT HB hb5;replace HRG:=bT HRG hb5
       clear hb5 tok3 _t ho)
    | (go_at_call 154
       have _t:=tok4;refine(reduced_walk _ _ (a.num*b.num) ((a.den:Int)* (b.den:Int)) _ (by exact Vf.out) (by exact Vo.out) (by have h1:=a.den_nz;have h2:=b.den_nz;exact Int.mul_ne_zero (by omega) (by omega)) ((HLA.out.limn.mul HLB.out.limn).mono (by decide)) ((HLA.out.limd.mul HLB.out.limd).mono (by decide))).mono ?_;rintro e w6 ⟨vr,rfl,hr,hb6⟩;have hb6:Below w5.heap.size w5 w6:=bD hb6;obtain⟨sr,Ar,lr,cr,tr,Br,mr,dr,rfl⟩:=hr.shape;have Vr:=lH hr;replace VA:=lH (VA.out.below hb6);replace VB:=lH (VB.out.below hb6);replace Vf:=lH (Vf.out.below hb6);replace Vj:=lH (Vj.out.below hb6);replace Vk:=lH (Vk.out.below hb6);replace Vo:=lH (Vo.out.below hb6);replace RA:=rW RA hb6;replace RB:=rW RB hb6;replace RR:=rW RR hb6;replace HB:=bT HB hb6;replace HRG:=bT HRG hb6;rw[qmul] at hr;replace Vr:=lH hr;have hr:=res_store4 RR.out (by decide) (by omega) HB.out Vr.out;have HRES:=lH hr;clear hr;obtain⟨k0RR,kf0RR,k1RR,kf1RR,k2RR,kf2RR,k3RR,kf3RR⟩:=aF4 RR.out;have klRR:=RR.out.lt
       clear hb6 tok4 _t hr))
  clear glRA g0RA g1RA g2RA g3RA glRB g0RB g1RB g2RB g3RB KS HRG HRD KT;go_wp2_with fail
  refine bodyPost_ret (v:= .agg #[.bool sr, .slice Ar lr cr, .bool tr, .slice Br mr dr]) (by simp[results,Tryz.results128,go_sem,k0RR,k1RR,k2RR,k3RR]) rfl ?_;exact⟨_,rfl,HRES.out.1,HRES.out.2⟩
end
end Go.Proofs.YtdefghfjhgmpfaaGreatDoor
