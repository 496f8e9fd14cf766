/- Parts of this proof: Minus Add AddGe Small SubCmp From Floor. -/
import Derived.Test.YtdefghfjhgmpfaaGreatDoorQAC
import Derived.Test.YtdefghfjhgmpfaaGreatDoorQAG
namespace Go.Proofs.YtdefghfjhgmpfaaGreatDoor
section
open Go.RowKit
theorem minus_walk(A B:Option Addr)(ca cb:Nat)(la lb:List Nat)(w:World)(ha:U32 w A la)(hb:U32 w B lb)(hda:Dig la)(hdb:Dig lb)(hla:la.length<17592186044416)(hlb:lb.length <= la.length)(hle:val lb <= val la):
  Calls Tryz.prog 186 #[.slice A la.length ca, .slice B lb.length cb] w fun e w'=>∃g lr,e= .returned (.slice (some ⟨g,0,none⟩) lr.length lr.length) /\ Row32 w' g lr /\ Dig lr /\ val lr=val la-val lb /\ lr.length=la.length /\ Below w.heap.size w w' /\ w.heap.size <= g:=by
 obtain⟨i0,hi0,hz0,hz1,hz2⟩:=info_parts info32;have HLE:=lH hle;clear hle;go_enter Tryz.func186,Tryz.ntmps186
 go_wp2_with (at_make;refine wpList_mk _ rfl (.tmp 11) (.tmp 11) 101 rfl 160 i0 (.int .u32 0) Tryz.underlying101 hi0 hz0 hz1 rfl _ _ _ rfl rfl rfl rfl ?_ ?_ ?_)
 ·first | omega | (rw[hz2];omega)
 ·unfold maxLen;omega
 intro w1 hrow hb1 hs1;have hr:=Row32.made hrow;clear hrow;have HR:=lH hr;clear hr;go_wp2_with fail
 go_loopw [6,15] (fun cv iv wr=>∃ (k c:Nat) (lo:List Nat),k <= la.length /\ cv= .int .i64 c /\ iv= .int .i64 k /\ Row32 wr w.heap.size lo /\ lo.length=la.length /\ Dig lo /\ c <= 1 /\ Hid (val (la.take k)+BB^k*c=val (lo.take k)+val (lb.take k)) /\ Below w.heap.size w wr)
  (fun _ iv _=>la.length-(intOf iv).toNat)
 case atStart=>exact⟨0,0,_,Nat.zero_le _,rfl,rfl,HR.out,List.length_replicate,Dig.replicate _,by omega,by show _=_;simp[val],hb1⟩
 case round=>
  obtain⟨k,c,lo,hk,rfl,rfl,hrow,hlo,hdlo,hc1,hinv,hbw⟩:=hrel;have HDLO:=lH hdlo;clear hdlo;by_cases hkl:k<la.length
  ·obtain⟨b,off,rfl,hbb,hcell⟩:=Cells.at_ ha (by omega);have hcx:=hcell k hkl;have hbx:((dg la k:Nat):Int)<4294967296:=by have:=hda k;omega
   have hg:=hrow.cell (j:=k) (by omega);have hfr:=hrow.free k;have hcx':=((bbelow hbw).1 b (off+k) hbb).trans hcx;clear hcell hcx;have hby:((dg lb k:Nat):Int)<4294967296:=by have:=hdb k;omega
   by_cases hky:k<lb.length
   ·obtain⟨b2,off2,rfl,hb2,hcell2⟩:=Cells.at_ hb (by omega);have hcy':=((bbelow hbw).1 b2 (off2+k) hb2).trans (hcell2 k hky);clear hcell2;obtain⟨n1,hn1⟩:∃n:Int,((dg la k:Nat):Int)-(c:Nat)=n:=⟨_,rfl⟩
    obtain⟨n2,hn2⟩:∃n:Int,n1-((dg lb k:Nat):Int)=n:=⟨_,rfl⟩
    have hb1': -4294967297<n2:=by omega
    have hb2':n2<4294967297:=by omega
    by_cases hneg:n2<0
    all_goals
     go_wp2_with fail
     go_roundw
     case rel=>
      refine⟨k+1,if n2<0 then 1 else 0,lo.set k ((dg la k+4294967296-c-dg lb k)%4294967296),by omega,?_,by simp,hrow.set k _ ?_,by rw[List.length_set];exact hlo,HDLO.out.set _ _ (Nat.mod_lt _ (by omega)),by split <;> omega,minus_step (by omega) hinv ?_,hbw.setCell (Nat.le_refl _) _⟩
      ·simp[hneg]
      ·refine congrArg (Value.int .u32) ?_;omega
      ·split <;> omega
     case measure=>simp[intOf];omega
   ·have hy0:dg lb k=0:=dg_ge (by omega);have HY0:=lH hy0;clear hy0 hby;obtain⟨n1,hn1⟩:∃n:Int,((dg la k:Nat):Int)-(c:Nat)=n:=⟨_,rfl⟩
    have hb1': -4294967297<n1:=by omega
    have hb2':n1<4294967297:=by omega
    by_cases hneg:n1<0
    all_goals
     go_wp2_with fail
     go_roundw
     case rel=>
      refine⟨k+1,if n1<0 then 1 else 0,lo.set k ((dg la k+4294967296-c)%4294967296),by omega,?_,by simp,hrow.set k _ ?_,by rw[List.length_set];exact hlo,HDLO.out.set _ _ (Nat.mod_lt _ (by omega)),by split <;> omega,minus_step (by omega) hinv ?_,hbw.setCell (Nat.le_refl _) _⟩
      ·simp[hneg]
      ·refine congrArg (Value.int .u32) ?_;omega
      ·rw[HY0.out];split <;> omega
     case measure=>simp[intOf];omega
  ·obtain rfl:k=la.length:=by omega
   go_wp2_with fail
   go_returns;refine⟨w.heap.size,lo,by rw[hlo];rfl,hrow,HDLO.out,?_,hlo,hbw,Nat.le_refl _⟩;have h1:=hinv.out;rw[val_take_of_le (Nat.le_refl _),val_take_of_le (by omega),val_take_of_le hlb] at h1;rw[<- hlo] at h1;exact minus_end HDLO.out HLE.out hc1 h1
end
section
open Go.RowKit
theorem add_same(A B:Option Addr)(ca cb:Nat)(s:Bool)(la lb:List Nat)(n:Int)(w:World)(hua:U32 w A la)(hub:U32 w B lb)(hda:Dig la)(hdb:Dig lb)(hla:la.length<8796093022208)(hlb:lb.length<8796093022208)
  (hn:sgn s (val la+val lb)=n):
  Calls Tryz.prog 163 #[.agg #[.bool s, .slice A la.length ca], .agg #[.bool s, .slice B lb.length cb]] w fun e w'=>∃v,e= .returned v /\ IsInt w' v n /\ Below w.heap.size w w':=by
 have HN:=lH hn;clear hn;obtain⟨W,hW⟩:=eX (((w.alloc (.cells #[.bool s, .slice A la.length ca] 103)).alloc (.cells #[.bool s, .slice B lb.length cb] 103)).alloc (.cells #[.bool false, .slice none 0 0] 103));obtain⟨r1,r2,r3,hWs,hWB⟩:=boxes3 w (.cells #[.bool s, .slice A la.length ca] 103) (.cells #[.bool s, .slice B lb.length cb] 103) (.cells #[.bool false, .slice none 0 0] 103);rw[<- hW] at r1 r2 r3 hWs hWB;have r1:Row W w.heap.size 103 [.bool s, .slice A la.length ca]:=r1;have r2:Row W (w.heap.size+1) 103 [.bool s, .slice B lb.length cb]:=r2;have r3:Row W (w.heap.size+1+1) 103 [.bool false, .slice none 0 0]:=r3;have HA:=lH (U32.below hua hWB);have HB:=lH (U32.below hub hWB);have HWB:=lH hWB;have HWS:=lH hWs;clear hua hub hWB hWs;go_enter Tryz.func163,Tryz.ntmps163;go_wp2_with fail
 rw[<- hW];have HW:=lH hW;clear hW;have f1:=r1.at_ 0 rfl;have f2:=r1.at_ 1 rfl;have f3:=r2.at_ 1 rfl
 go_region_held3 (fun w'=> w'.cell? ⟨w.heap.size,0,none⟩=some (.bool s) /\ w'.cell? ⟨w.heap.size,1,none⟩=some (.slice A la.length ca) /\ w'.cell? ⟨w.heap.size+1,1,none⟩=some (.slice B lb.length cb))
  (first | exact⟨f1,f2,f3⟩ | exact⟨f1',f2',f3'⟩ | exact⟨f1'',f2'',f3''⟩ | exact⟨(cell_far2 _ _ _ _ _ _ _ _ (by omega)).trans f1'',(cell_far2 _ _ _ _ _ _ _ _ (by omega)).trans f2'',(cell_far2 _ _ _ _ _ _ _ _ (by omega)).trans f3''⟩ | go_keep)
  (first
   | (go_at_call 185
      refine(plus_walk A B ca cb la lb _ (by exact HA.out) (by exact HB.out) hda hdb (by omega) (by omega)).mono ?_;rintro e w1 ⟨g,lr,rfl,hrow,hdr,hval,hlr,hb1,hg⟩;have hb1:Below W.heap.size W w1:=(Below.refl _ W).drew.trans hb1;have hg:W.heap.size <= g:=hg;have HS:=HWS.out;have f1':=((bbelow hb1).1 w.heap.size 0 (by omega)).trans f1;have f2':=((bbelow hb1).1 w.heap.size 1 (by omega)).trans f2;have f3':=((bbelow hb1).1 (w.heap.size+1) 1 (by omega)).trans f3;have HLR:=lH hlr;have HVAL:=lH hval
      clear hlr HS hval)
   | (go_at_call 140
      refine(signed_walk s _ lr _ (by exact⟨_,_,rfl,Nat.le_refl _,by have:=HLR.out;unfold maxLen;omega,hrow.u32,hdr⟩)).mono ?_;rintro e w2 ⟨v,rfl,hint,hb2⟩;have hb2:Below w1.heap.size w1 w2:=hb2;have hz:=hrow.lt;have HS:=HWS.out;have f1'':=((bbelow hb2).1 w.heap.size 0 (by omega)).trans f1';have f2'':=((bbelow hb2).1 w.heap.size 1 (by omega)).trans f2';have f3'':=((bbelow hb2).1 (w.heap.size+1) 1 (by omega)).trans f3';have r3':Row w2 (w.heap.size+1+1) 103 [.bool false, .slice none 0 0]:=Row.below (Row.below r3 hb1 (by omega)) hb2 (by omega);have k1:=r3'.at_ 0 rfl;have k2:=r3'.at_ 1 rfl;have k3:=r3'.free 0;have k4:=r3'.free 1;obtain⟨A',c',rfl,h1,h2,h3⟩:=hint;have H3:=lH h3;have HS':=lH HS
      clear h3 HS))
 go_wp2_with fail
 refine bodyPost_ret (v:= .agg #[.bool (decide (sgn s (val lr)<0)), .slice A' (digs (sgn s (val lr)).natAbs).length c']) (by simp[results,Tryz.results163,go_sem,k1,k2]) rfl ?_;have HV:=HVAL.out;rw[<- HN.out, <- HV];refine⟨_,rfl,⟨A',c',rfl,h1,h2,?_⟩,?_⟩
 ·exact H3.out.kept (grownBy_set2 _ _ _ _ _ _) r3' (by simp)
 ·have hbW2:Below w.heap.size w w2:=(HWB.out.trans (hb1.mono (by have:=HWS.out;omega))).trans (hb2.mono (by have:=HWS.out;omega));exact(hbW2.setCell (p:=⟨w.heap.size+1+1,0,none⟩) (by simp;omega) _).setCell (p:=⟨w.heap.size+1+1,1,none⟩) (by simp;omega) _
end
section
open Go.RowKit
theorem add_ge(A B:Option Addr)(ca cb:Nat)(s:Bool)(x y:Nat)(la lb:List Nat)(hlax:la=digs x)(hlby:lb=digs y)(n:Int)(w:World)(hua:U32 w A la)(hub:U32 w B lb)(hda:Dig la)(hdb:Dig lb)(hla:la.length<8796093022208)(hlb:lb.length<8796093022208)
  (hle:y <= x) (hn:sgn (s) (val la-val lb)=n):
  Calls Tryz.prog 163 #[.agg #[.bool s, .slice A la.length ca], .agg #[.bool (!s), .slice B lb.length cb]] w fun e w'=>∃v,e= .returned v /\ IsInt w' v n /\ Below w.heap.size w w':=by
 have HN:=lH hn;have ho:0 <= ordN x y:=by unfold ordN;split <;> (try split) <;> omega
 have HLX:=lH hlax;have HLY:=lH hlby;have hvle:val lb <= val la:=by rw[hlax,hlby,val_digs,val_digs];omega
 have hlle:lb.length <= la.length:=by rw[hlax,hlby];exact digs_len_mono hle
 have HVLE:=lH hvle;clear hn hlax hlby hle hvle;obtain⟨W,hW⟩:=eX (((w.alloc (.cells #[.bool s, .slice A la.length ca] 103)).alloc (.cells #[.bool (!s), .slice B lb.length cb] 103)).alloc (.cells #[.bool false, .slice none 0 0] 103));obtain⟨r1,r2,r3,hWs,hWB⟩:=boxes3 w (.cells #[.bool s, .slice A la.length ca] 103) (.cells #[.bool (!s), .slice B lb.length cb] 103) (.cells #[.bool false, .slice none 0 0] 103);rw[<- hW] at r1 r2 r3 hWs hWB;have r1:Row W w.heap.size 103 [.bool s, .slice A la.length ca]:=r1;have r2:Row W (w.heap.size+1) 103 [.bool (!s), .slice B lb.length cb]:=r2;have r3:Row W (w.heap.size+1+1) 103 [.bool false, .slice none 0 0]:=r3;have HA:=lH (U32.below hua hWB);have HB:=lH (U32.below hub hWB);have HWB:=lH hWB;have HWS:=lH hWs;clear hua hub hWB hWs;go_enter Tryz.func163,Tryz.ntmps163;go_wp2_with fail
 rw[<- hW];have HW:=lH hW;clear hW;have e1:=r1.at_ 1 rfl;have e2:=r2.at_ 1 rfl;have f1:=r1.at_ 0 rfl;go_wp2_with fail
 refine(order_walk' A B ca cb x y la lb W HLX HLY HA.out HB.out (by omega) (by omega)).mono ?_;rintro e wd ⟨rfl,hdr0⟩;obtain⟨nd,rfl⟩:=hdr0;go_wp2_with fail
 have hsz:(W.drewN nd).heap.size=W.heap.size:=rfl
 go_region_held3 (fun w'=> w'.cell? ⟨w.heap.size,0,none⟩=some (.bool (s)) /\ w'.cell? ⟨w.heap.size,1,none⟩=some (.slice A la.length ca) /\ w'.cell? ⟨w.heap.size+1,1,none⟩=some (.slice B lb.length cb))
  (first | exact⟨f1,e1,e2⟩ | exact⟨f1',e1',e2'⟩ | exact⟨f1'',e1'',e2''⟩ | exact⟨(cell_far2 _ _ _ _ _ _ _ _ (by omega)).trans f1'',(cell_far2 _ _ _ _ _ _ _ _ (by omega)).trans e1'',(cell_far2 _ _ _ _ _ _ _ _ (by omega)).trans e2''⟩ | go_keep)
  (first
   | (go_at_call 186
      refine(minus_walk A B ca cb la lb _ (by exact HA.out) (by exact HB.out) hda hdb (by omega) hlle HVLE.out).mono ?_;rintro e w1 ⟨g,lr,rfl,hrow,hdr,hval,hlr,hb1,hg⟩;have hb1:Below W.heap.size W w1:=(below_drewN _ W nd).trans ((Below.refl _ (W.drewN nd)).drew.trans hb1);have hg:W.heap.size <= g:=hg;have HS:=HWS.out;have f1':=((bbelow hb1).1 (w.heap.size) 0 (by omega)).trans f1;have e1':=((bbelow hb1).1 w.heap.size 1 (by omega)).trans e1;have e2':=((bbelow hb1).1 (w.heap.size+1) 1 (by omega)).trans e2;have HLR:=lH hlr;have HVAL:=lH hval
      clear hlr HS hval)
   | (go_at_call 140
      refine(signed_walk (s) _ lr _ (by exact⟨_,_,rfl,Nat.le_refl _,by have:=HLR.out;unfold maxLen;omega,hrow.u32,hdr⟩)).mono ?_;rintro e w2 ⟨v,rfl,hint,hb2⟩;have hb2:Below w1.heap.size w1 w2:=hb2;have hz:=hrow.lt;have HS:=HWS.out;have f1'':=((bbelow hb2).1 (w.heap.size) 0 (by omega)).trans f1';have e1'':=((bbelow hb2).1 w.heap.size 1 (by omega)).trans e1';have e2'':=((bbelow hb2).1 (w.heap.size+1) 1 (by omega)).trans e2';have r3':Row w2 (w.heap.size+1+1) 103 [.bool false, .slice none 0 0]:=Row.below (Row.below r3 hb1 (by omega)) hb2 (by omega);have k1:=r3'.at_ 0 rfl;have k2:=r3'.at_ 1 rfl;have k3:=r3'.free 0;have k4:=r3'.free 1;obtain⟨A',c',rfl,h1,h2,h3⟩:=hint;have H3:=lH h3;have HS':=lH HS
      clear h3 HS))
 go_wp2_with fail
 refine bodyPost_ret (v:= .agg #[.bool (decide (sgn (s) (val lr)<0)), .slice A' (digs (sgn (s) (val lr)).natAbs).length c']) (by simp[results,Tryz.results163,go_sem,k1,k2]) rfl ?_;have HV:=HVAL.out;rw[<- HN.out, <- HV];refine⟨_,rfl,⟨A',c',rfl,h1,h2,?_⟩,?_⟩
 ·exact H3.out.kept (grownBy_set2 _ _ _ _ _ _) r3' (by simp)
 ·have hbW2:Below w.heap.size w w2:=(HWB.out.trans (hb1.mono (by have:=HWS.out;omega))).trans (hb2.mono (by have:=HWS.out;omega));exact(hbW2.setCell (p:=⟨w.heap.size+1+1,0,none⟩) (by simp;omega) _).setCell (p:=⟨w.heap.size+1+1,1,none⟩) (by simp;omega) _
theorem add_lt(A B:Option Addr)(ca cb:Nat)(s:Bool)(x y:Nat)(la lb:List Nat)(hlax:la=digs x)(hlby:lb=digs y)(n:Int)(w:World)(hua:U32 w A la)(hub:U32 w B lb)(hda:Dig la)(hdb:Dig lb)(hla:la.length<8796093022208)(hlb:lb.length<8796093022208)
  (hle:x<y) (hn:sgn (!s) (val lb-val la)=n):
  Calls Tryz.prog 163 #[.agg #[.bool s, .slice A la.length ca], .agg #[.bool (!s), .slice B lb.length cb]] w fun e w'=>∃v,e= .returned v /\ IsInt w' v n /\ Below w.heap.size w w':=by
 have HN:=lH hn;have ho:¬0 <= ordN x y:=by unfold ordN;split <;> (try split) <;> omega
 have HLX:=lH hlax;have HLY:=lH hlby;have hvle:val la <= val lb:=by rw[hlax,hlby,val_digs,val_digs];omega
 have hlle:la.length <= lb.length:=by rw[hlax,hlby];exact digs_len_mono (Nat.le_of_lt hle)
 have HVLE:=lH hvle;clear hn hlax hlby hle hvle;obtain⟨W,hW⟩:=eX (((w.alloc (.cells #[.bool s, .slice A la.length ca] 103)).alloc (.cells #[.bool (!s), .slice B lb.length cb] 103)).alloc (.cells #[.bool false, .slice none 0 0] 103));obtain⟨r1,r2,r3,hWs,hWB⟩:=boxes3 w (.cells #[.bool s, .slice A la.length ca] 103) (.cells #[.bool (!s), .slice B lb.length cb] 103) (.cells #[.bool false, .slice none 0 0] 103);rw[<- hW] at r1 r2 r3 hWs hWB;have r1:Row W w.heap.size 103 [.bool s, .slice A la.length ca]:=r1;have r2:Row W (w.heap.size+1) 103 [.bool (!s), .slice B lb.length cb]:=r2;have r3:Row W (w.heap.size+1+1) 103 [.bool false, .slice none 0 0]:=r3;have HA:=lH (U32.below hua hWB);have HB:=lH (U32.below hub hWB);have HWB:=lH hWB;have HWS:=lH hWs;clear hua hub hWB hWs;go_enter Tryz.func163,Tryz.ntmps163;go_wp2_with fail
 rw[<- hW];have HW:=lH hW;clear hW;have e1:=r1.at_ 1 rfl;have e2:=r2.at_ 1 rfl;have f1:=r2.at_ 0 rfl;go_wp2_with fail
 refine(order_walk' A B ca cb x y la lb W HLX HLY HA.out HB.out (by omega) (by omega)).mono ?_;rintro e wd ⟨rfl,hdr0⟩;obtain⟨nd,rfl⟩:=hdr0;go_wp2_with fail
 have hsz:(W.drewN nd).heap.size=W.heap.size:=rfl
 go_region_held3 (fun w'=> w'.cell? ⟨w.heap.size+1,0,none⟩=some (.bool (!s)) /\ w'.cell? ⟨w.heap.size,1,none⟩=some (.slice A la.length ca) /\ w'.cell? ⟨w.heap.size+1,1,none⟩=some (.slice B lb.length cb))
  (first | exact⟨f1,e1,e2⟩ | exact⟨f1',e1',e2'⟩ | exact⟨f1'',e1'',e2''⟩ | exact⟨(cell_far2 _ _ _ _ _ _ _ _ (by omega)).trans f1'',(cell_far2 _ _ _ _ _ _ _ _ (by omega)).trans e1'',(cell_far2 _ _ _ _ _ _ _ _ (by omega)).trans e2''⟩ | go_keep)
  (first
   | (go_at_call 186
      refine(minus_walk B A cb ca lb la _ (by exact HB.out) (by exact HA.out) hdb hda (by omega) hlle HVLE.out).mono ?_;rintro e w1 ⟨g,lr,rfl,hrow,hdr,hval,hlr,hb1,hg⟩;have hb1:Below W.heap.size W w1:=(below_drewN _ W nd).trans ((Below.refl _ (W.drewN nd)).drew.trans hb1);have hg:W.heap.size <= g:=hg;have HS:=HWS.out;have f1':=((bbelow hb1).1 (w.heap.size+1) 0 (by omega)).trans f1;have e1':=((bbelow hb1).1 w.heap.size 1 (by omega)).trans e1;have e2':=((bbelow hb1).1 (w.heap.size+1) 1 (by omega)).trans e2;have HLR:=lH hlr;have HVAL:=lH hval
      clear hlr HS hval)
   | (go_at_call 140
      refine(signed_walk (!s) _ lr _ (by exact⟨_,_,rfl,Nat.le_refl _,by have:=HLR.out;unfold maxLen;omega,hrow.u32,hdr⟩)).mono ?_;rintro e w2 ⟨v,rfl,hint,hb2⟩;have hb2:Below w1.heap.size w1 w2:=hb2;have hz:=hrow.lt;have HS:=HWS.out;have f1'':=((bbelow hb2).1 (w.heap.size+1) 0 (by omega)).trans f1';have e1'':=((bbelow hb2).1 w.heap.size 1 (by omega)).trans e1';have e2'':=((bbelow hb2).1 (w.heap.size+1) 1 (by omega)).trans e2';have r3':Row w2 (w.heap.size+1+1) 103 [.bool false, .slice none 0 0]:=Row.below (Row.below r3 hb1 (by omega)) hb2 (by omega);have k1:=r3'.at_ 0 rfl;have k2:=r3'.at_ 1 rfl;have k3:=r3'.free 0;have k4:=r3'.free 1;obtain⟨A',c',rfl,h1,h2,h3⟩:=hint;have H3:=lH h3;have HS':=lH HS
      clear h3 HS))
 go_wp2_with fail
 refine bodyPost_ret (v:= .agg #[.bool (decide (sgn (!s) (val lr)<0)), .slice A' (digs (sgn (!s) (val lr)).natAbs).length c']) (by simp[results,Tryz.results163,go_sem,k1,k2]) rfl ?_;have HV:=HVAL.out;rw[<- HN.out, <- HV];refine⟨_,rfl,⟨A',c',rfl,h1,h2,?_⟩,?_⟩
 ·exact H3.out.kept (grownBy_set2 _ _ _ _ _ _) r3' (by simp)
 ·have hbW2:Below w.heap.size w w2:=(HWB.out.trans (hb1.mono (by have:=HWS.out;omega))).trans (hb2.mono (by have:=HWS.out;omega));exact(hbW2.setCell (p:=⟨w.heap.size+1+1,0,none⟩) (by simp;omega) _).setCell (p:=⟨w.heap.size+1+1,1,none⟩) (by simp;omega) _
end
section
open Go.RowKit
theorem add_walk(va vb:Value)(a b:Int)(w:World)(ha:IsInt w va a)(hb:IsInt w vb b)(hla:(digs a.natAbs).length<8796093022208)(hlb:(digs b.natAbs).length<8796093022208):
  Calls Tryz.prog 163 #[va,vb] w fun e w'=>∃v,e= .returned v /\ IsInt w' v (a+b) /\ Below w.heap.size w w':=by
 obtain⟨A,ca,rfl,hca,hmca,hua⟩:=ha;obtain⟨B,cb,rfl,hcb,hmcb,hub⟩:=hb;by_cases h1:a<0 <;> by_cases h2:b<0
 ·rw[decide_eq_true h1,decide_eq_true h2];exact add_same A B ca cb true _ _ (a+b) w hua hub (dig_digs _) (dig_digs _) hla hlb (by rw[val_digs,val_digs];simp[sgn];omega)
 ·rw[decide_eq_true h1,decide_eq_false h2]
  rcases Nat.lt_or_ge a.natAbs b.natAbs with h | h
  ·exact add_lt A B ca cb true a.natAbs b.natAbs _ _ rfl rfl (a+b) w hua hub (dig_digs _) (dig_digs _) hla hlb h (by rw[val_digs,val_digs];simp[sgn];omega)
  ·exact add_ge A B ca cb true a.natAbs b.natAbs _ _ rfl rfl (a+b) w hua hub (dig_digs _) (dig_digs _) hla hlb h (by rw[val_digs,val_digs];simp[sgn];omega)
 ·rw[decide_eq_false h1,decide_eq_true h2]
  rcases Nat.lt_or_ge a.natAbs b.natAbs with h | h
  ·exact add_lt A B ca cb false a.natAbs b.natAbs _ _ rfl rfl (a+b) w hua hub (dig_digs _) (dig_digs _) hla hlb h (by rw[val_digs,val_digs];simp[sgn];omega)
  ·exact add_ge A B ca cb false a.natAbs b.natAbs _ _ rfl rfl (a+b) w hua hub (dig_digs _) (dig_digs _) hla hlb h (by rw[val_digs,val_digs];simp[sgn];omega)
 ·rw[decide_eq_false h1,decide_eq_false h2];exact add_same A B ca cb false _ _ (a+b) w hua hub (dig_digs _) (dig_digs _) hla hlb (by rw[val_digs,val_digs];simp[sgn];omega)
theorem neg_walk(va:Value)(a:Int)(w:World)(ha:IsInt w va a):
  Calls Tryz.prog 108 #[va] w fun e w'=>∃v,e= .returned v /\ IsInt w' v (-a) /\ Below w.heap.size w w':=by
 obtain⟨A,ca,rfl,hca,hmca,hua⟩:=ha;have HU:=lH hua;have HC:=lH hca;have HM:=lH hmca;clear hua hca hmca
 have key:∀s:Bool,Calls Tryz.prog 108 #[.agg #[.bool s, .slice A (digs a.natAbs).length ca]] w fun e w'=>e= .returned (.agg #[.bool (!s && decide (0<(digs a.natAbs).length)), .slice A (digs a.natAbs).length ca]) /\ Below w.heap.size w w':=by
  intro s;generalize (digs a.natAbs).length=n;cases s
  all_goals
   go_enter Tryz.func108,Tryz.ntmps108;go_wp2_with fail
   go_returns;exact⟨by simp,by go_grown⟩
 refine(key _).mono ?_;rintro e w' ⟨rfl,hb⟩;have e1:(-a).natAbs=a.natAbs:=Int.natAbs_neg a;refine⟨_,rfl,⟨A,ca,?_,by rw[e1];exact HC.out,HM.out,by rw[e1];exact U32.below HU.out hb⟩,hb⟩;rw[e1]
 have:(!decide (a<0) && decide (0<(digs a.natAbs).length))=decide (-a<0):=by
  rw[Bool.eq_iff_iff];simp only[Bool.and_eq_true,Bool.not_eq_true',decide_eq_true_eq,decide_eq_false_iff_not,digs_len_pos];omega
 rw[this]
def sgI(a:Int):Int:=if a<0 then -1 else if a=0 then 0 else 1
theorem sign_walk(va:Value)(a:Int)(w:World)(ha:IsInt w va a):
  Calls Tryz.prog 113 #[va] w fun e w'=>e= .returned (.int .i64 (sgI a)) /\ Below w.heap.size w w':=by
 obtain⟨A,ca,rfl,hca,hmca,hua⟩:=ha;clear hua hca hmca;obtain⟨r,hr⟩:=eX (sgI a);rw[<- hr];have HR:=lH hr;clear hr;by_cases h0:a=0
 ·have hr:=HR.out;subst h0;subst hr;rw[show(digs (0:Int).natAbs).length=0 from by simp[digs_zero]];go_enter Tryz.func113,Tryz.ntmps113;go_wp2_with fail
  go_returns;exact⟨rfl,by go_grown⟩
 ·have hp:0<(digs a.natAbs).length:=digs_len_pos.2 (by omega);have hr:=HR.out;unfold sgI at hr;have H0:=lH h0;by_cases h1:a<0
  ·rw[if_pos h1] at hr;subst hr;rw[decide_eq_true h1];clear HR h0 h1;generalize (digs a.natAbs).length=n at*;have hne:(((n:Nat):Int)==0)=false:=by simp;omega
   go_enter Tryz.func113,Tryz.ntmps113;go_wp2_with fail
   go_returns;exact⟨rfl,by go_grown⟩
  ·rw[if_neg h1,if_neg h0] at hr;subst hr;rw[decide_eq_false h1];clear HR h0 h1;generalize (digs a.natAbs).length=n at*;have hne:(((n:Nat):Int)==0)=false:=by simp;omega
   go_enter Tryz.func113,Tryz.ntmps113;go_wp2_with fail
   go_returns;exact⟨rfl,by go_grown⟩
end
section
open Go.RowKit
theorem sub_walk(va vb:Value)(a b:Int)(w:World)(ha:IsInt w va a)(hb:IsInt w vb b)(hla:(digs a.natAbs).length<8796093022208)(hlb:(digs b.natAbs).length<8796093022208):
  Calls Tryz.prog 200 #[va,vb] w fun e w'=>∃v,e= .returned v /\ IsInt w' v (a-b) /\ Below w.heap.size w w':=by
 have hia:=ha;have hib:=hb;obtain⟨A,ca,rfl, -, -, -⟩:=ha;obtain⟨B,cb,rfl, -, -, -⟩:=hb;generalize decide (a<0)=s at*;generalize decide (b<0)=t at*;have HLA:=lH hla;have HLB:=lH hlb;clear hla hlb;obtain⟨na,hna⟩:=eX ((digs a.natAbs).length);obtain⟨nb,hnb⟩:=eX ((digs b.natAbs).length);rw[<- hna] at hia ⊢;rw[<- hnb] at hib ⊢;clear hna hnb;obtain⟨W,hW⟩:=eX (((w.alloc (.cells #[.bool s, .slice A na ca] 103)).alloc (.cells #[.bool t, .slice B nb cb] 103)).alloc (.cells #[.bool false, .slice none 0 0] 103));obtain⟨r1,r2,r3,hWs,hWB⟩:=boxes3 w (.cells #[.bool s, .slice A na ca] 103) (.cells #[.bool t, .slice B nb cb] 103) (.cells #[.bool false, .slice none 0 0] 103);rw[<- hW] at r1 r2 r3 hWs hWB;have r1:Row W w.heap.size 103 [.bool s, .slice A na ca]:=r1;have r2:Row W (w.heap.size+1) 103 [.bool t, .slice B nb cb]:=r2;have r3:Row W (w.heap.size+1+1) 103 [.bool false, .slice none 0 0]:=r3;have HA:=lH (hia.below hWB);have HB:=lH (hib.below hWB);have HWB:=lH hWB;have HWS:=lH hWs;clear hia hib hWB hWs;go_enter Tryz.func200,Tryz.ntmps200;go_wp2_with fail
 rw[<- hW];have HW:=lH hW;clear hW;have e1:=r1.at_ 0 rfl;have e2:=r1.at_ 1 rfl;have e3:=r2.at_ 0 rfl;have e4:=r2.at_ 1 rfl
 go_region_held3 (fun w'=> w'.cell? ⟨w.heap.size,0,none⟩=some (.bool s) /\ w'.cell? ⟨w.heap.size,1,none⟩=some (.slice A na ca) /\ w'.cell? ⟨w.heap.size+1,0,none⟩=some (.bool t) /\ w'.cell? ⟨w.heap.size+1,1,none⟩=some (.slice B nb cb))
  (first | exact⟨e1,e2,e3,e4⟩ | exact⟨e1',e2',e3',e4'⟩ | exact⟨e1'',e2'',e3'',e4''⟩ | exact⟨(cell_far2 _ _ _ _ _ _ _ _ (by omega)).trans e1'',(cell_far2 _ _ _ _ _ _ _ _ (by omega)).trans e2'',(cell_far2 _ _ _ _ _ _ _ _ (by omega)).trans e3'',(cell_far2 _ _ _ _ _ _ _ _ (by omega)).trans e4''⟩ | go_keep)
  (first
   | (go_at_call 108
      refine(neg_walk _ b _ (by exact HB.out)).mono ?_;rintro e w1 ⟨v1,rfl,hi1,hb1⟩;have hb1:Below W.heap.size W w1:=(Below.refl _ W).drew.trans hb1;have HS:=HWS.out;have hs1:=hb1.size;have e1':=((bbelow hb1).1 w.heap.size 0 (by omega)).trans e1;have e2':=((bbelow hb1).1 w.heap.size 1 (by omega)).trans e2;have e3':=((bbelow hb1).1 (w.heap.size+1) 0 (by omega)).trans e3;have e4':=((bbelow hb1).1 (w.heap.size+1) 1 (by omega)).trans e4;have HI1:=lH hi1;have HA1:=lH (IsInt.below HA.out hb1)
      clear hi1 HS)
   | (go_at_call 163
      refine(add_walk _ _ a (-b) _ (by exact HA1.out) (by exact HI1.out) HLA.out (by rw[Int.natAbs_neg];exact HLB.out)).mono ?_;rintro e w2 ⟨v,rfl,hint,hb2⟩;have hb2:Below w1.heap.size w1 w2:=hb2;have HS:=HWS.out;have e1'':=((bbelow hb2).1 w.heap.size 0 (by omega)).trans e1';have e2'':=((bbelow hb2).1 w.heap.size 1 (by omega)).trans e2';have e3'':=((bbelow hb2).1 (w.heap.size+1) 0 (by omega)).trans e3';have e4'':=((bbelow hb2).1 (w.heap.size+1) 1 (by omega)).trans e4';have r3':Row w2 (w.heap.size+1+1) 103 [.bool false, .slice none 0 0]:=Row.below (Row.below r3 hb1 (by omega)) hb2 (by omega);have k1:=r3'.at_ 0 rfl;have k2:=r3'.at_ 1 rfl;have k3:=r3'.free 0;have k4:=r3'.free 1;obtain⟨A',c',rfl,h1,h2,h3⟩:=hint;have H1:=lH h1;have H3:=lH h3;have HS':=lH HS
      clear h1 h3 HS))
 go_wp2_with fail
 refine bodyPost_ret (v:= .agg #[.bool (decide (a+ -b<0)), .slice A' (digs (a+ -b).natAbs).length c']) (by simp[results,Tryz.results200,go_sem,k1,k2]) rfl ?_;rw[show a-b=a+ -b from Int.sub_eq_add_neg];refine⟨_,rfl,⟨A',c',rfl,H1.out,h2,?_⟩,?_⟩
 ·exact H3.out.kept (grownBy_set2 _ _ _ _ _ _) r3' (by simp)
 ·have hbW2:Below w.heap.size w w2:=(HWB.out.trans (hb1.mono (by have:=HWS.out;omega))).trans (hb2.mono (by have:=HWS.out;omega));exact(hbW2.setCell (p:=⟨w.heap.size+1+1,0,none⟩) (by simp;omega) _).setCell (p:=⟨w.heap.size+1+1,1,none⟩) (by simp;omega) _
def cmpI(a b:Int):Int:=if a<b then -1 else if a=b then 0 else 1
theorem compare_walk(va vb:Value)(a b:Int)(w:World)(ha:IsInt w va a)(hb:IsInt w vb b)(hla:(digs a.natAbs).length<8796093022208)(hlb:(digs b.natAbs).length<8796093022208):
  Calls Tryz.prog 133 #[va,vb] w fun e w'=>e= .returned (.int .i64 (cmpI a b)) /\ Below w.heap.size w w':=by
 obtain⟨A,ca,rfl, -, -,hua⟩:=ha;obtain⟨B,cb,rfl, -, -,hub⟩:=hb;obtain⟨r,hr⟩:=eX (cmpI a b);rw[<- hr];have HR:=lH hr;clear hr
 have key:∀ (s t:Bool) (r:Int),(s≠t -> r=if s=true then -1 else 1) -> (s=true -> t=true -> r=ordN b.natAbs a.natAbs) -> (s=false -> t=false -> r=ordN a.natAbs b.natAbs) ->
   Calls Tryz.prog 133 #[.agg #[.bool s, .slice A (digs a.natAbs).length ca], .agg #[.bool t, .slice B (digs b.natAbs).length cb]] w fun e w'=>e= .returned (.int .i64 r) /\ Below w.heap.size w w':=by
  intro s t r q1 q2 q3;generalize hx:a.natAbs=x at*;generalize hy:b.natAbs=y at*;clear HR hx hy a b;obtain⟨la,hla'⟩:∃l,l=digs x:=⟨_,rfl⟩
  obtain⟨lb,hlb'⟩:∃l,l=digs y:=⟨_,rfl⟩
  rw[<- hla'] at hua hla ⊢;rw[<- hlb'] at hub hlb ⊢;have HLX:Hid (la=digs x):=lH hla';have HLY:Hid (lb=digs y):=lH hlb';clear hla' hlb';have HUA:=lH hua;have HUB:=lH hub;obtain⟨W,hW⟩:=eX ((w.alloc (.cells #[.bool s, .slice A la.length ca] 103)).alloc (.cells #[.bool t, .slice B lb.length cb] 103));have hWB:Below w.heap.size w W:=by rw[hW];go_grown
  have HA:=lH (U32.below hua hWB);have HB:=lH (U32.below hub hWB);clear hua hub;cases s <;> cases t
  ·have q:=q3 rfl rfl;have HQ:=lH q;clear q1 q2 q3 q;go_enter Tryz.func133,Tryz.ntmps133;go_wp2_with fail
   rw[<- hW];refine(order_walk' A B ca cb x y la lb W HLX HLY HA.out HB.out (by omega) (by omega)).mono ?_;rintro e wd ⟨rfl,hd⟩;have hbd:=hWB.trans (hd.below _);have HBD:=lH hbd;clear hW hWB hbd hd;go_wp2_with fail
   go_returns;exact⟨by rw[HQ.out];rfl,HBD.out⟩
  ·have q:=q1 (by simp);simp at q;subst q;clear q1 q2 q3;go_enter Tryz.func133,Tryz.ntmps133;go_wp2_with fail
   go_returns;exact⟨rfl,by go_grown⟩
  ·have q:=q1 (by simp);simp at q;subst q;clear q1 q2 q3;go_enter Tryz.func133,Tryz.ntmps133;go_wp2_with fail
   go_returns;exact⟨rfl,by go_grown⟩
  ·have q:=q2 rfl rfl;have HQ:=lH q;clear q1 q2 q3 q;go_enter Tryz.func133,Tryz.ntmps133;go_wp2_with fail
   rw[<- hW];refine(order_walk' B A cb ca y x lb la W HLY HLX HB.out HA.out (by omega) (by omega)).mono ?_;rintro e wd ⟨rfl,hd⟩;have hbd:=hWB.trans (hd.below _);have HBD:=lH hbd;clear hW hWB hbd hd;go_wp2_with fail
   go_returns;exact⟨by rw[HQ.out];rfl,HBD.out⟩
 refine key _ _ _ ?_ ?_ ?_
 ·intro h;rw[HR.out];unfold cmpI;by_cases h1:a<0 <;> by_cases h2:b<0
  ·rw[decide_eq_true h1,decide_eq_true h2] at h;exact absurd rfl h
  ·rw[decide_eq_true h1,if_pos (by omega)];simp
  ·rw[decide_eq_false h1,if_neg (by omega),if_neg (by omega)];simp
  ·rw[decide_eq_false h1,decide_eq_false h2] at h;exact absurd rfl h
 ·intro h1 h2;rw[HR.out];simp only[decide_eq_true_eq] at h1 h2;unfold cmpI ordN;split <;> (try split) <;> (try split) <;> (try split) <;> omega
 ·intro h1 h2;rw[HR.out];simp only[decide_eq_false_iff_not] at h1 h2;unfold cmpI ordN;split <;> (try split) <;> (try split) <;> (try split) <;> omega
end
section
open Go.RowKit
theorem val_two(x y:Nat):val [x,y]=x+4294967296*y:=by simp[val,BB_eq]
theorem dig_two{x y:Nat}(hx:x<4294967296)(hy:y<4294967296):Dig [x,y]:=Dig.cons hx (Dig.cons hy Dig.nil)
theorem u64_nat(m:Nat)(h:m<18446744073709551616):IntKind.u64.wrap ((m:Nat):Int)=((m:Nat):Int):=by
 rw[IntKind.wrap_u64];omega
theorem u64_negof(m:Nat)(h:0<m)(h2:m <= 9223372036854775808):IntKind.u64.wrap (-((m:Nat):Int))=((18446744073709551616-m:Nat):Int):=by
 rw[IntKind.wrap_u64];omega
theorem u64_negback(m:Nat)(h:0<m)(h2:m <= 9223372036854775808):IntKind.u64.wrap (-((18446744073709551616-m:Nat):Int))=((m:Nat):Int):=by
 rw[IntKind.wrap_u64];omega
theorem from_walk(n:Int)(w:World)(h1: -9223372036854775808 <= n)(h2:n <= 9223372036854775807):
  Calls Tryz.prog 112 #[.int .i64 n] w fun e w'=>∃v,e= .returned v /\ IsInt w' v n /\ Below w.heap.size w w':=by
 have key:∀ (neg:Bool) (m:Nat),(neg=true -> 0<m) -> m <= 9223372036854775808 -> (neg=false -> m<9223372036854775808) -> sgn neg m=n ->
   Calls Tryz.prog 112 #[.int .i64 n] w fun e w'=>∃v,e= .returned v /\ IsInt w' v n /\ Below w.heap.size w w':=by
  intro neg m hp hm hm2 hs;clear h1 h2;have hlo:((m%4294967296:Nat):Int)=((m:Nat):Int)%4294967296:=by omega
  have hhi:((m / 4294967296:Nat):Int)=((m:Nat):Int) / 4294967296:=by omega
  have hhi2:((m:Nat):Int) / 4294967296%4294967296=((m / 4294967296:Nat):Int):=by omega
  have hval:val [m%4294967296,m / 4294967296]=m:=by rw[val_two];omega
  have hdig:Dig [m%4294967296,m / 4294967296]:=dig_two (by omega) (by omega);obtain⟨x,hx⟩:=eX (m%4294967296);obtain⟨y,hy⟩:=eX (m / 4294967296);rw[<- hx, <- hy] at hval hdig;rw[<- hx] at hlo;rw[<- hy] at hhi hhi2;have hxx:((m:Nat):Int)%4294967296=((x:Nat):Int):=hlo.symm;have hyy:((m:Nat):Int) / 4294967296=((y:Nat):Int):=hhi.symm;have hy3:((y:Nat):Int)<4294967296:=by omega
  have HV:=lH hval;have HD:=lH hdig;have HS:=lH hs;cases neg
  ·have hw:IntKind.u64.wrap ((m:Nat):Int)=((m:Nat):Int):=u64_nat m (by omega);obtain rfl:n=(m:Int):=by rw[<- hs];simp[sgn]
   have hge:¬(((m:Nat):Int)<0):=by omega
   clear hx hy hlo hhi hhi2 hval hdig hs hp hm hm2;go_enter Tryz.func112,Tryz.ntmps112;go_wp2_with fail
   obtain⟨W,hW⟩:=eX ((w.alloc (.cells #[.bool false, .slice none 0 0] 103)).alloc (.cells #[.int .u32 (x:Nat), .int .u32 (y:Nat)] 160));obtain⟨r1,r2,hWs,hWB⟩:=boxes2 w (.cells #[.bool false, .slice none 0 0] 103) (.cells #[.int .u32 (x:Nat), .int .u32 (y:Nat)] 160);rw[<- hW] at r1 r2 hWs hWB ⊢;have r1:Row W w.heap.size 103 [.bool false, .slice none 0 0]:=r1;have r2:Row32 W (w.heap.size+1) [x,y]:=r2;have HWB:=lH hWB;clear hW hWB;refine(signed_walk false _ [x,y] W (by exact⟨_,2,rfl,Nat.le_refl _,by unfold maxLen;omega,r2.u32,HD.out⟩)).mono ?_;rintro e w2 ⟨v,rfl,hint,hb2⟩;rw[HV.out,HS.out] at hint;have r1':Row w2 w.heap.size 103 [.bool false, .slice none 0 0]:=Row.below r1 hb2 (by omega);have k1:=r1'.at_ 0 rfl;have k2:=r1'.at_ 1 rfl;have k3:=r1'.free 0;have k4:=r1'.free 1;obtain⟨sv,Av,lv,cv,rfl⟩:=hint.shape;have hres:=res_store HWB.out r1' (by simp) (by simp) (Nat.le_refl _) hb2 hint;have HRES:=lH hres;clear hres hint hb2;go_wp2_with fail
   refine bodyPost_ret (v:= .agg #[.bool sv, .slice Av lv cv]) (by simp[results,Tryz.results112,go_sem,k1,k2]) rfl ?_;exact⟨_,rfl,HRES.out.1,HRES.out.2⟩
  ·obtain rfl:n= -(m:Int):=by rw[<- hs];simp[sgn]
   have hp:=hp rfl;have hw1:=u64_negof m hp hm;have hw2:=u64_negback m hp hm;obtain⟨u,hu⟩:=eX (18446744073709551616-m);rw[<- hu] at hw1 hw2;have hge: -((m:Nat):Int)<0:=by omega
   clear hx hy hlo hhi hhi2 hval hdig hs hm hm2 hu;go_enter Tryz.func112,Tryz.ntmps112;go_wp2_with fail
   obtain⟨W,hW⟩:=eX ((w.alloc (.cells #[.bool false, .slice none 0 0] 103)).alloc (.cells #[.int .u32 (x:Nat), .int .u32 (y:Nat)] 160));obtain⟨r1,r2,hWs,hWB⟩:=boxes2 w (.cells #[.bool false, .slice none 0 0] 103) (.cells #[.int .u32 (x:Nat), .int .u32 (y:Nat)] 160);rw[<- hW] at r1 r2 hWs hWB ⊢;have r1:Row W w.heap.size 103 [.bool false, .slice none 0 0]:=r1;have r2:Row32 W (w.heap.size+1) [x,y]:=r2;have HWB:=lH hWB;clear hW hWB;refine(signed_walk true _ [x,y] W (by exact⟨_,2,rfl,Nat.le_refl _,by unfold maxLen;omega,r2.u32,HD.out⟩)).mono ?_;rintro e w2 ⟨v,rfl,hint,hb2⟩;rw[HV.out,HS.out] at hint;have r1':Row w2 w.heap.size 103 [.bool false, .slice none 0 0]:=Row.below r1 hb2 (by omega);have k1:=r1'.at_ 0 rfl;have k2:=r1'.at_ 1 rfl;have k3:=r1'.free 0;have k4:=r1'.free 1;obtain⟨sv,Av,lv,cv,rfl⟩:=hint.shape;have hres:=res_store HWB.out r1' (by simp) (by simp) (Nat.le_refl _) hb2 hint;have HRES:=lH hres;clear hres hint hb2;go_wp2_with fail
   refine bodyPost_ret (v:= .agg #[.bool sv, .slice Av lv cv]) (by simp[results,Tryz.results112,go_sem,k1,k2]) rfl ?_;exact⟨_,rfl,HRES.out.1,HRES.out.2⟩
 by_cases hn:n<0
 ·exact key true n.natAbs (by omega) (by omega) (by simp) (by unfold sgn;simp;omega)
 ·exact key false n.natAbs (by simp) (by omega) (by omega) (by unfold sgn;simp;omega)
end
section
theorem quot_rest(a b:Int)(hb:b≠0)(q r:Int)(hq:q=sgn (decide (a<0) !=decide (b<0)) (a.natAbs / b.natAbs))(hr:r=sgn (decide (a<0)) (a.natAbs%b.natAbs)):
  r+b*q=a /\ r.natAbs<b.natAbs:=by
 have h1:=Nat.div_add_mod a.natAbs b.natAbs;have h2:=Nat.mod_lt a.natAbs (show 0<b.natAbs by omega);generalize hx:a.natAbs / b.natAbs=x at*;generalize hy:a.natAbs%b.natAbs=y at*;have h3:((b.natAbs:Nat):Int)* (x:Nat)+ (y:Nat)=(a.natAbs:Nat):=by rw[<- h1];simp
 rcases Int.lt_or_le a 0 with ha | ha <;> rcases Int.lt_or_le b 0 with hb' | hb'
 ·have e1:((a.natAbs:Nat):Int)= -a:=by omega
  have e2:((b.natAbs:Nat):Int)= -b:=by omega
  rw[e1,e2,Int.neg_mul] at h3;have d1:decide (a<0)=true:=decide_eq_true ha;have d2:decide (b<0)=true:=decide_eq_true hb';rw[d1,d2] at hq;rw[d1] at hr;have hq:q=(x:Nat):=hq;have hr:r= -((y:Nat):Int):=hr;subst hq hr;exact⟨by omega,by omega⟩
 ·have e1:((a.natAbs:Nat):Int)= -a:=by omega
  have e2:((b.natAbs:Nat):Int)=b:=by omega
  rw[e1,e2] at h3;have d1:decide (a<0)=true:=decide_eq_true ha;have d2:decide (b<0)=false:=decide_eq_false (by omega);rw[d1,d2] at hq;rw[d1] at hr;have hq:q= -((x:Nat):Int):=hq;have hr:r= -((y:Nat):Int):=hr;subst hq hr;rw[Int.mul_neg];exact⟨by omega,by omega⟩
 ·have e1:((a.natAbs:Nat):Int)=a:=by omega
  have e2:((b.natAbs:Nat):Int)= -b:=by omega
  rw[e1,e2,Int.neg_mul] at h3;have d1:decide (a<0)=false:=decide_eq_false (by omega);have d2:decide (b<0)=true:=decide_eq_true hb';rw[d1,d2] at hq;rw[d1] at hr;have hq:q= -((x:Nat):Int):=hq;have hr:r=((y:Nat):Int):=hr;subst hq hr;rw[Int.mul_neg];exact⟨by omega,by omega⟩
 ·have e1:((a.natAbs:Nat):Int)=a:=by omega
  have e2:((b.natAbs:Nat):Int)=b:=by omega
  rw[e1,e2] at h3;have d1:decide (a<0)=false:=decide_eq_false (by omega);have d2:decide (b<0)=false:=decide_eq_false (by omega);rw[d1,d2] at hq;rw[d1] at hr;have hq:q=((x:Nat):Int):=hq;have hr:r=((y:Nat):Int):=hr;subst hq hr;exact⟨by omega,by omega⟩
theorem floor_eq{a b q r:Int}(h:r+b*q=a)(hr:(0 <= r /\ r<b) \/ (b<r /\ r <= 0)):a.fdiv b=q /\ a.fmod b=r:=by
 rcases hr with ⟨h1,h2⟩ | ⟨h1,h2⟩
 ·exact(Int.fdiv_fmod_unique (by omega)).2 ⟨h,h1,h2⟩
 ·exact(Int.fdiv_fmod_unique' (by omega)).2 ⟨h,h1,h2⟩
theorem floor_same{a b q r:Int}(h:r+b*q=a /\ r.natAbs<b.natAbs)(hs:r=0 \/ decide (r<0)=decide (b<0)):q=a.fdiv b /\ r=a.fmod b:=by
 have hs':r=0 \/ (r<0↔b<0):=hs.imp id (fun e=>by simpa using e);obtain⟨h1,h2⟩:=h;have:=floor_eq h1 (by omega);exact⟨this.1.symm,this.2.symm⟩
theorem floor_other{a b q r:Int}(h:r+b*q=a /\ r.natAbs<b.natAbs)(hr:r≠0)(hs:decide (r<0)≠decide (b<0)):q-1=a.fdiv b /\ r+b=a.fmod b:=by
 have hs':¬(r<0↔b<0):=fun e=>hs (by simpa using e)
 obtain⟨h1,h2⟩:=h;have:=floor_eq (a:=a) (b:=b) (q:=q-1) (r:=r+b) (by rw[Int.mul_sub,Int.mul_one];omega) (by omega);exact⟨this.1.symm,this.2.symm⟩
end
end Go.Proofs.YtdefghfjhgmpfaaGreatDoor
