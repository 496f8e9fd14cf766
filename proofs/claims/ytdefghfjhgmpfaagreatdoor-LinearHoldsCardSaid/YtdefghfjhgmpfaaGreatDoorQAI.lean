/- Parts of this proof: DivMod. -/
import Derived.Test.YtdefghfjhgmpfaaGreatDoorQAE
import Derived.Test.YtdefghfjhgmpfaaGreatDoorQAG
import Derived.Test.YtdefghfjhgmpfaaGreatDoorQAH
import Derived.Deep.DeepCutAuto
namespace Go.Proofs.YtdefghfjhgmpfaaGreatDoor
open Go.RowKit
theorem boxes4(w:World)(o1 o2 o3 o4:Obj):((((w.alloc o1).alloc o2).alloc o3).alloc o4).heap[w.heap.size]? =some o1 /\ ((((w.alloc o1).alloc o2).alloc o3).alloc o4).heap[w.heap.size+1]? =some o2 /\ ((((w.alloc o1).alloc o2).alloc o3).alloc o4).heap[w.heap.size+2]? =some o3 /\
  ((((w.alloc o1).alloc o2).alloc o3).alloc o4).heap[w.heap.size+3]? =some o4 /\ ((((w.alloc o1).alloc o2).alloc o3).alloc o4).heap.size=w.heap.size+4 /\ Below w.heap.size w ((((w.alloc o1).alloc o2).alloc o3).alloc o4):=by
 obtain⟨h1,h2,h3,h4,_⟩:=boxes3 w o1 o2 o3;refine⟨heap_old _ _ _ _ h1,heap_old _ _ _ _ h2,heap_old _ _ _ _ h3,?_,by rw[size_alloc,h4],by go_grown⟩;rw[show w.heap.size+3=(((w.alloc o1).alloc o2).alloc o3).heap.size by rw[h4]];exact heap_new _ _
def At(w:World)(g:Nat)(n:Int):Prop:=∃s A l c,Row w g 103 [.bool s, .slice A l c] /\ IsInt w (.agg #[.bool s, .slice A l c]) n
theorem At.lt{w:World}{g:Nat}{n:Int}(h:At w g n):g<w.heap.size:=by obtain⟨_,_,_,_,hr,_⟩:=h;exact hr.lt
theorem At.below{w w':World}{g:Nat}{n:Int}(h:At w g n)(hb:Below w.heap.size w w'):At w' g n:=by
 obtain⟨s,A,l,c,hr,hi⟩:=h;exact⟨s,A,l,c,hr.below hb hr.lt,hi.below hb⟩
theorem IsInt.far{w:World}{v x y:Value}{n:Int}{g:Nat}{p q:Value}(h:IsInt w v n)(hr:Row w g 103 [p,q])(hp:∀n:Int,p≠ .int .u32 n)(hq:∀n:Int,q≠ .int .u32 n):
  IsInt ((w.setCell ⟨g,0,none⟩ x).setCell ⟨g,1,none⟩ y) v n:=by
 obtain⟨A,c,hv,h1,h2,h3⟩:=h;refine⟨A,c,hv,h1,h2,h3.kept (grownBy_set2 _ _ _ _ _ _) hr ?_⟩;intro v hv n;simp only[List.mem_cons,List.not_mem_nil,or_false] at hv
 rcases hv with rfl | rfl
 ·exact hp n
 ·exact hq n
theorem Row.far{w:World}{g g':Nat}{e:TypeId}{cs:List Value}{x y:Value}(h:Row w g e cs)(hne:g≠g'):Row ((w.setCell ⟨g',0,none⟩ x).setCell ⟨g',1,none⟩ y) g e cs:=
 ((grownBy_set2 w g' 0 1 x y).block g h.lt (by simp;exact hne)).trans h
theorem Row.put2{w:World}{g:Nat}{e:TypeId}{p q x y:Value}(h:Row w g e [p,q]):Row ((w.setCell ⟨g,0,none⟩ x).setCell ⟨g,1,none⟩ y) g e [x,y]:=(h.set 0 x).set 1 y
theorem At.put{w:World}{g:Nat}{p q x y:Value}{n:Int}(hr:Row w g 103 [p,q])(hp:∀n:Int,p≠ .int .u32 n)(hq:∀n:Int,q≠ .int .u32 n)(h:IsInt w (.agg #[x,y]) n):
  At ((w.setCell ⟨g,0,none⟩ x).setCell ⟨g,1,none⟩ y) g n:=by
 obtain⟨s,A,l,c,hv⟩:=h.shape;simp only[Value.agg.injEq] at hv;obtain⟨rfl,rfl⟩:x= .bool s /\ y= .slice A l c:=by simpa using hv
 exact⟨s,A,l,c,hr.put2,h.far hr hp hq⟩
theorem At.far{w:World}{g g':Nat}{n:Int}{p q x y:Value}(h:At w g n)(hne:g≠g')(hr:Row w g' 103 [p,q])(hp:∀n:Int,p≠ .int .u32 n)(hq:∀n:Int,q≠ .int .u32 n):
  At ((w.setCell ⟨g',0,none⟩ x).setCell ⟨g',1,none⟩ y) g n:=by
 obtain⟨s,A,l,c,h1,h2⟩:=h;exact⟨s,A,l,c,h1.far hne,h2.far hr hp hq⟩
theorem At.twice{w0 w:World}{g h:Nat}{p q p' q' x y x' y':Value}{n m:Int}(rg:Row w g 103 [p,q])(rh:Row w h 103 [p',q'])(hgh:g≠h)(hp:∀n:Int,p≠ .int .u32 n)(hq:∀n:Int,q≠ .int .u32 n)(hp':∀n:Int,p'≠ .int .u32 n)(hq':∀n:Int,q'≠ .int .u32 n)
  (h1:IsInt w (.agg #[x,y]) n) (h2:IsInt w (.agg #[x',y']) m) (hb:Below w0.heap.size w0 w) (hg:w0.heap.size <= g) (hh:w0.heap.size <= h):
  At ((((w.setCell ⟨g,0,none⟩ x).setCell ⟨g,1,none⟩ y).setCell ⟨h,0,none⟩ x').setCell ⟨h,1,none⟩ y') g n /\
  At ((((w.setCell ⟨g,0,none⟩ x).setCell ⟨g,1,none⟩ y).setCell ⟨h,0,none⟩ x').setCell ⟨h,1,none⟩ y') h m /\
  Row ((((w.setCell ⟨g,0,none⟩ x).setCell ⟨g,1,none⟩ y).setCell ⟨h,0,none⟩ x').setCell ⟨h,1,none⟩ y') g 103 [x,y] /\
  Row ((((w.setCell ⟨g,0,none⟩ x).setCell ⟨g,1,none⟩ y).setCell ⟨h,0,none⟩ x').setCell ⟨h,1,none⟩ y') h 103 [x',y'] /\
  IsInt ((((w.setCell ⟨g,0,none⟩ x).setCell ⟨g,1,none⟩ y).setCell ⟨h,0,none⟩ x').setCell ⟨h,1,none⟩ y') (.agg #[x,y]) n /\
  IsInt ((((w.setCell ⟨g,0,none⟩ x).setCell ⟨g,1,none⟩ y).setCell ⟨h,0,none⟩ x').setCell ⟨h,1,none⟩ y') (.agg #[x',y']) m /\
  Below w0.heap.size w0 ((((w.setCell ⟨g,0,none⟩ x).setCell ⟨g,1,none⟩ y).setCell ⟨h,0,none⟩ x').setCell ⟨h,1,none⟩ y'):=by
 have rh':=rh.far (x:=x) (y:=y) hgh.symm;have i1:=h1.far (x:=x) (y:=y) rg hp hq;have i2:=h2.far (x:=x) (y:=y) rg hp hq;have i1':=i1.far (x:=x') (y:=y') rh' hp' hq';have i2':=i2.far (x:=x') (y:=y') rh' hp' hq'
 exact⟨(At.put rg hp hq h1).far hgh rh' hp' hq',At.put rh' hp' hq' i2,(Row.put2 rg).far hgh,Row.put2 rh',i1',i2',
  (((hb.setCell (p:=⟨g,0,none⟩) hg _).setCell (p:=⟨g,1,none⟩) hg _).setCell (p:=⟨h,0,none⟩) hh _).setCell (p:=⟨h,1,none⟩) hh _⟩
theorem sgI_ne{b:Int}(hb:b≠0):(sgI b==0)=false:=by unfold sgI;split <;> first | rfl | (split <;> first | rfl | omega)
set_option maxHeartbeats 1600000 in
theorem divmod_walk(va vb:Value)(a b:Int)(w:World)(ha:IsInt w va a)(hb:IsInt w vb b)(hla:(digs a.natAbs).length<8796093022208)(hlb:(digs b.natAbs).length<8796093022200)(hb0:b≠0):
  Calls Tryz.prog 180 #[va,vb] w fun e w'=>∃q r,e= .returned (.tuple #[q,r, .int .i64 0]) /\ IsInt w' q (Int.fdiv a b) /\ IsInt w' r (Int.fmod a b) /\ Below w.heap.size w w':=by
 have hia:=ha;have hib:=hb;obtain⟨A,ca,rfl,hca,hcma,hua⟩:=ha;obtain⟨B,cb,rfl,hcb,hcmb,hub⟩:=hb;obtain⟨s,hs⟩:=eX (decide (a<0));obtain⟨t,ht⟩:=eX (decide (b<0));rw[<- hs] at hia ⊢;rw[<- ht] at hib ⊢;have hsb:=sgI_ne hb0;have HS:=lH hs;have HT:=lH ht;have HUA:=lH hua;have HUB:=lH hub;have HIB:=lH hib;have HIA:=lH hia;have HB0:=lH hb0;obtain⟨na,hna⟩:=eX ((digs a.natAbs).length);obtain⟨nb,hnb⟩:=eX ((digs b.natAbs).length);rw[<- hna, <- hnb];have HNA:=lH hna;have HNB:=lH hnb;clear hs ht hua hub hib hia hb0 hna hnb;obtain⟨W,hW⟩:=eX ((((w.alloc (.cells #[.bool s, .slice A na ca] 103)).alloc (.cells #[.bool t, .slice B nb cb] 103)).alloc (.cells #[.bool false, .slice none 0 0] 103)).alloc (.cells #[.bool false, .slice none 0 0] 103));obtain⟨r1,r2,r3,r4,hWs,hWB⟩:=boxes4 w (.cells #[.bool s, .slice A na ca] 103) (.cells #[.bool t, .slice B nb cb] 103) (.cells #[.bool false, .slice none 0 0] 103) (.cells #[.bool false, .slice none 0 0] 103);rw[<- hW] at r1 r2 r3 r4 hWs hWB;have r1:Row W w.heap.size 103 [.bool s, .slice A na ca]:=r1;have r2:Row W (w.heap.size+1) 103 [.bool t, .slice B nb cb]:=r2;have r3:Row W (w.heap.size+1+1) 103 [.bool false, .slice none 0 0]:=r3;have r4:Row W (w.heap.size+1+1+1) 103 [.bool false, .slice none 0 0]:=r4;go_enter Tryz.func180,Tryz.ntmps180;go_wp2_with fail
 rw[<- hW];clear hW;have HWB:=lH hWB;clear hWB;refine(sign_walk _ b W (by have:=HIB.out.below HWB.out;rwa [<- HNB.out] at this)).mono ?_;rintro e w1 ⟨rfl,hb1⟩;have r1':=r1.below hb1 (by omega);have r2':=r2.below hb1 (by omega);have e1:=r1'.at_ 0 rfl;have e2:=r1'.at_ 1 rfl;have e3:=r2'.at_ 0 rfl;have e4:=r2'.at_ 1 rfl;have HW1:=lH (HWB.out.trans (hb1.mono HWB.out.size));go_wp2_with fail
 have hd:=divide_walk A B ca cb a.natAbs b.natAbs w1 (by exact HUA.out.below HW1.out) (by exact HUB.out.below HW1.out) hca hcma (by omega) (by omega) (by have:=HB0.out;omega);rw[<- HNA.out, <- HNB.out] at hd;refine hd.mono ?_;clear hd;rintro e w2 ⟨x,y,rfl,hx,hy,hb2⟩;have hw2:=HW1.out.trans (hb2.mono HW1.out.size);have hbs:=hb1.size;have hbs2:=hb2.size;have p1:=r1'.below hb2 (by omega);have p2:=r2'.below hb2 (by omega);have p3:=(r3.below hb1 (by omega)).below hb2 (by omega);have p4:=(r4.below hb1 (by omega)).below hb2 (by omega);have HX:=lH hx;have HY:=lH hy;have HW2:=lH hw2;have hn2:w.heap.size+4 <= w2.heap.size:=by omega
 clear hx hy hw2 hb2 r1 r2 r3 r4 r1' r2' hb1 HW1 hWs hsb e1 e2 e3 e4;have P1:=lH p1;have P2:=lH p2;have P3:=lH p3;have P4:=lH p4;have HX':=lH (IsU32.below HX.out.isU32 ((Below.refl w2.heap.size w2).drew));have c1:=p1.at_ 0 rfl;have c2:=p2.at_ 0 rfl;have c1d: w2.drew.cell? ⟨w.heap.size,0,none⟩=some (.bool s):=c1;have c2d: w2.drew.cell? ⟨w.heap.size+1,0,none⟩=some (.bool t):=c2;clear p1 p2 p3 p4
 go_upto_region 4 with (fail)
 go_cut [7] (fun _ wx=>At wx w.heap.size a /\ At wx (w.heap.size+1) b /\ At wx (w.heap.size+1+1) (sgn (s !=t) (a.natAbs / b.natAbs)) /\ At wx (w.heap.size+1+1+1) (sgn s (a.natAbs%b.natAbs)) /\ Below w.heap.size w wx)
 case first=>
  go_region_held3 (fun w'=> w'.cell? ⟨w.heap.size,0,none⟩=some (.bool s) /\ w'.cell? ⟨w.heap.size+1,0,none⟩=some (.bool t))
   (first | with_reducible exact⟨c1,c2⟩ | with_reducible exact⟨c1d,c2d⟩ | with_reducible exact⟨e1',e3'⟩ | with_reducible exact⟨e1'',e3''⟩ | exact⟨(cell_far2 _ _ _ _ _ _ _ _ (by omega)).trans e1'',(cell_far2 _ _ _ _ _ _ _ _ (by omega)).trans e3''⟩ | exact⟨(cell_far2 _ _ _ _ _ _ _ _ (by omega)).trans ((cell_far2 _ _ _ _ _ _ _ _ (by omega)).trans e1''),(cell_far2 _ _ _ _ _ _ _ _ (by omega)).trans ((cell_far2 _ _ _ _ _ _ _ _ (by omega)).trans e3'')⟩ | go_keep)
   (first
    | (go_at_call 140
       have hck:=HI1;clear hck;refine(signed_walk s y (digs (a.natAbs%b.natAbs)) _ ?hy).mono ?_
       case hy=>exact(HY.out.below HBA.out).isU32
       rintro e w4 ⟨v2,rfl,hi2,hbB⟩;obtain⟨s2,A2,l2,c2',rfl⟩:=hi2.shape;have HI2:=lH hi2;clear hi2;have hbB:Below w3.heap.size w3 w4:=hbB;have e1'':=((bbelow hbB).1 w.heap.size 0 (by omega)).trans e1';have e3'':=((bbelow hbB).1 (w.heap.size+1) 0 (by omega)).trans e3';have hsB:=hbB.size;have q3:=(P3.out.below HBA.out (by omega)).below hbB (by omega);have q4:=(P4.out.below HBA.out (by omega)).below hbB (by omega);have k1:=q3.at_ 0 rfl;have k2:=q3.at_ 1 rfl;have k3:=q3.free 0;have k4:=q3.free 1;have k5:=q4.at_ 0 rfl;have k6:=q4.at_ 1 rfl;have k7:=q4.free 0;have k8:=q4.free 1;have Q3:=lH q3;have Q4:=lH q4;have HBB:=lH hbB
       clear hbB q3 q4)
    | (go_at_call 140
       refine(signed_walk (s !=t) x (digs (a.natAbs / b.natAbs)) _ ?hx).mono ?_
       case hx=>exact HX'.out
       rintro e w3 ⟨v1,rfl,hi1,hbA⟩;obtain⟨s1,A1,l1,c1',rfl⟩:=hi1.shape;have HI1:=lH hi1;clear hi1;have hbA:Below w2.heap.size w2 w3:=(Below.refl _ w2).drew.trans hbA;have e1':=((bbelow hbA).1 w.heap.size 0 (by omega)).trans c1;have e3':=((bbelow hbA).1 (w.heap.size+1) 0 (by omega)).trans c2;have hsA:=hbA.size;have HBA:=lH hbA
       clear hbA))
  go_wp2_with fail
  go_meet
  have hi1:=HI1.out.below HBB.out;have t1:=At.put Q3.out (by simp) (by simp) hi1;have t4:=(Q4.out.far (x:= .bool s1) (y:= .slice A1 l1 c1') (show w.heap.size+1+1+1≠w.heap.size+1+1 by omega));have t2:=At.put t4 (by simp) (by simp) (HI2.out.far Q3.out (by simp) (by simp));have b34:Below w2.heap.size w2 w4:=HBA.out.trans (HBB.out.mono hsA);have ta:At w4 w.heap.size a:=⟨s,A,na,ca,P1.out.below b34 (by omega),by rw[HNA.out];exact HIA.out.below (HW2.out.trans (b34.mono (by omega)))⟩;have tb:At w4 (w.heap.size+1) b:=⟨t,B,nb,cb,P2.out.below b34 (by omega),by rw[HNB.out];exact HIB.out.below (HW2.out.trans (b34.mono (by omega)))⟩;rw[val_digs] at t1 t2;refine⟨(ta.far (by omega) Q3.out (by simp) (by simp)).far (by omega) t4 (by simp) (by simp),(tb.far (by omega) Q3.out (by simp) (by simp)).far (by omega) t4 (by simp) (by simp),t1.far (by omega) t4 (by simp) (by simp),t2,?_⟩;have hb:=HW2.out.trans (b34.mono (by omega));exact(((hb.setCell (p:=⟨w.heap.size+1+1,0,none⟩) (by simp;omega) _).setCell (p:=⟨w.heap.size+1+1,1,none⟩) (by simp;omega) _).setCell (p:=⟨w.heap.size+1+1+1,0,none⟩) (by simp;omega) _).setCell (p:=⟨w.heap.size+1+1+1,1,none⟩) (by simp;omega) _
 case rest=>
  obtain⟨ha,hb,hq,hr,hbw⟩:=hcut;obtain⟨s2,A2,l2,c2,rb,hib⟩:=hb;obtain⟨s3,A3,l3,c3,rq,hiq⟩:=hq;obtain⟨s4,A4,l4,c4,rr,hir⟩:=hr;obtain⟨q0,hq0⟩:=eX (sgn (s !=t) (a.natAbs / b.natAbs));obtain⟨r0,hr0⟩:=eX (sgn s (a.natAbs%b.natAbs));rw[<- hq0] at hiq;rw[<- hr0] at hir;have HQ0:=lH hq0;have HR0:=lH hr0;have hsw:=hbw.size;have ts2:s2=decide (b<0):=by obtain⟨_,_,hv,_⟩:=hib;simp at hv;exact hv.1
  have ts4:s4=decide (r0<0):=by obtain⟨_,_,hv,_⟩:=hir;simp at hv;exact hv.1
  have hqr:=quot_rest a b HB0.out q0 r0 (by rw[hq0,HS.out,HT.out]) (by rw[hr0,HS.out])
  have hlq:(digs q0.natAbs).length<8796093022208:=by
   rw[hq0,sgn_natAbs];exact Nat.lt_of_le_of_lt (digs_len_mono (Nat.div_le_self _ _)) hla
  have hlr:(digs r0.natAbs).length<8796093022208:=Nat.lt_of_le_of_lt (digs_len_mono (Nat.le_of_lt hqr.2)) (by omega);have HLQ:=lH hlq;have HLR:=lH hlr;clear hlq hlr;have HQR:=lH hqr;have TS2:=lH ts2;have TS4:=lH ts4;clear hq0 hr0 hqr ts2 ts4 HQ0 HR0;have hn4:=rr.lt;by_cases hz:r0=0
  ·have hz1:(sgI r0 !=0)=false:=by rw[hz];rfl
   have hfl:=floor_same HQR.out (.inl hz);have HFL:=lH hfl;have HIR:=lH hir;have k7:=rr.at_ 0 rfl;have k8:=rr.at_ 1 rfl;clear hz hfl hir;go_wp2_with fail
   refine(sign_walk _ r0 wc (by exact HIR.out)).mono ?_;rintro e wE ⟨rfl,hbE⟩;clear k7 k8;have rqE:=rq.below hbE (by omega);have rrE:=rr.below hbE (by omega);have hiqE:IsInt wE (.agg #[.bool s3, .slice A3 l3 c3]) (Int.fdiv a b):=by rw[<- HFL.out.1];exact hiq.below hbE
   have hirE:IsInt wE (.agg #[.bool s4, .slice A4 l4 c4]) (Int.fmod a b):=by rw[<- HFL.out.2];exact HIR.out.below hbE
   have hbwE:Below w.heap.size w wE:=hbw.trans (hbE.mono hsw);clear rq rr rb;have k5:=rqE.at_ 0 rfl;have k6:=rqE.at_ 1 rfl;have k7:=rrE.at_ 0 rfl;have k8:=rrE.at_ 1 rfl;have k9:=rqE.free 0;have k10:=rqE.free 1;have k11:=rrE.free 0;have k12:=rrE.free 1;have RQE:=lH rqE;have RRE:=lH rrE;have HIQE:=lH hiqE;have HIRE:=lH hirE;clear rqE rrE hiqE hirE;go_wp2_with fail
   refine wp_region_late (fun w'=> w'.cell? ⟨w.heap.size+1+1,0,none⟩=some (.bool s3) /\ w'.cell? ⟨w.heap.size+1+1,1,none⟩=some (.slice A3 l3 c3) /\
    w'.cell? ⟨w.heap.size+1+1+1,0,none⟩=some (.bool s4) /\ w'.cell? ⟨w.heap.size+1+1+1,1,none⟩=some (.slice A4 l4 c4)) (fun i=>decide (3 <= i)) (by kernel_rfl) ?_
   have htw:=At.twice (w0:=w) RQE.out RRE.out (by omega) (by simp) (by simp) (by simp) (by simp) HIQE.out HIRE.out hbwE (by omega) (by omega);obtain⟨-, -,f1,f2,f3,f4,f5⟩:=htw;have F1:=lH f1;have F2:=lH f2;have F3:=lH f3;have F4:=lH f4;have F5:=lH f5;have m1:=f1.at_ 0 rfl;have m2:=f1.at_ 1 rfl;have m3:=f2.at_ 0 rfl;have m4:=f2.at_ 1 rfl;have g1:=(RQE.out.put2 (x:= .bool s3) (y:= .slice A3 l3 c3));have g2:=(RRE.out.far (g':=w.heap.size+1+1) (x:= .bool s3) (y:= .slice A3 l3 c3) (by omega));have n1:=g1.at_ 0 rfl;have n2:=g1.at_ 1 rfl;have n3:=g2.at_ 0 rfl;have n4:=g2.at_ 1 rfl;clear f1 f2 f3 f4 f5 g1 g2;refine wpAnyE_take (i:=0) (v:= .agg #[.bool s3, .slice A3 l3 c3]) rfl (by kernel_rfl) (by kernel_rfl) (by kernel_rfl) (by kernel_rfl) (fun _ _ _ h=>h) (Or.inl ⟨by rfl,?_⟩) ⟨k5,k6,k7,k8⟩ ?_
   ·rintro w' ⟨m1,m2,m3,m4⟩;go_simp
   simp only[Act.put,List.setIfInBounds_toArray];refine wpAnyE_take (i:=1) (v:= .agg #[.bool s4, .slice A4 l4 c4]) rfl (by kernel_rfl) (by kernel_rfl) (by kernel_rfl) (by kernel_rfl) (fun _ _ _ h=>h) (Or.inl ⟨by rfl,?_⟩) ⟨k5,k6,k7,k8⟩ ?_
   ·rintro w' ⟨m1,m2,m3,m4⟩;go_simp
   simp only[Act.put];refine rD 2 (fun K hK=> ?_);go_simp;refine hK.out _ _ (fun _=>⟨n1,n2,n3,n4⟩) ?_;clear hK K;refine rD 3 (fun K hK=> ?_);go_simp;refine kL hK ?_;clear hK K;refine rD 4 (fun K hK=> ?_);go_simp;refine kL hK ?_;clear hK K;refine dN ?_ _;go_wp2_with fail
   refine bodyPost_ret (v:= .tuple #[.agg #[.bool s3, .slice A3 l3 c3], .agg #[.bool s4, .slice A4 l4 c4], .int .i64 0]) (by simp[results,Tryz.results180,go_sem,m1,m2,m3,m4]) rfl ?_;exact⟨_,_,rfl,F3.out.below ((Below.refl _ _).drew),F4.out.below ((Below.refl _ _).drew),F5.out.drew⟩
  ·have hz1:(sgI r0 !=0)=true:=by
    have:=sgI_ne hz
    simpa using this
   by_cases hst:s4=s2
   ·have hst':(s4==s2)=true:=by rw[hst];simp
    have hfl:=floor_same HQR.out (.inr (by rw[<- TS4.out, <- TS2.out];exact hst));have HFL:=lH hfl;have HIR:=lH hir;have k7:=rr.at_ 0 rfl;have k8:=rr.at_ 1 rfl;clear hst hz hfl hir;go_wp2_with fail
    refine(sign_walk _ r0 wc (by exact HIR.out)).mono ?_;rintro e wE ⟨rfl,hbE⟩;have k3':=(rb.below hbE (by omega)).at_ 0 rfl;clear k7 k8;have rqE:=rq.below hbE (by omega);have rrE:=rr.below hbE (by omega);have hiqE:IsInt wE (.agg #[.bool s3, .slice A3 l3 c3]) (Int.fdiv a b):=by rw[<- HFL.out.1];exact hiq.below hbE
    have hirE:IsInt wE (.agg #[.bool s4, .slice A4 l4 c4]) (Int.fmod a b):=by rw[<- HFL.out.2];exact HIR.out.below hbE
    have hbwE:Below w.heap.size w wE:=hbw.trans (hbE.mono hsw);clear rq rr rb;have k5:=rqE.at_ 0 rfl;have k6:=rqE.at_ 1 rfl;have k7:=rrE.at_ 0 rfl;have k8:=rrE.at_ 1 rfl;have k9:=rqE.free 0;have k10:=rqE.free 1;have k11:=rrE.free 0;have k12:=rrE.free 1;have RQE:=lH rqE;have RRE:=lH rrE;have HIQE:=lH hiqE;have HIRE:=lH hirE;clear rqE rrE hiqE hirE;go_wp2_with fail
    refine wp_region_late (fun w'=> w'.cell? ⟨w.heap.size+1+1,0,none⟩=some (.bool s3) /\ w'.cell? ⟨w.heap.size+1+1,1,none⟩=some (.slice A3 l3 c3) /\
     w'.cell? ⟨w.heap.size+1+1+1,0,none⟩=some (.bool s4) /\ w'.cell? ⟨w.heap.size+1+1+1,1,none⟩=some (.slice A4 l4 c4)) (fun i=>decide (3 <= i)) (by kernel_rfl) ?_
    have htw:=At.twice (w0:=w) RQE.out RRE.out (by omega) (by simp) (by simp) (by simp) (by simp) HIQE.out HIRE.out hbwE (by omega) (by omega);obtain⟨-, -,f1,f2,f3,f4,f5⟩:=htw;have F1:=lH f1;have F2:=lH f2;have F3:=lH f3;have F4:=lH f4;have F5:=lH f5;have m1:=f1.at_ 0 rfl;have m2:=f1.at_ 1 rfl;have m3:=f2.at_ 0 rfl;have m4:=f2.at_ 1 rfl;have g1:=(RQE.out.put2 (x:= .bool s3) (y:= .slice A3 l3 c3));have g2:=(RRE.out.far (g':=w.heap.size+1+1) (x:= .bool s3) (y:= .slice A3 l3 c3) (by omega));have n1:=g1.at_ 0 rfl;have n2:=g1.at_ 1 rfl;have n3:=g2.at_ 0 rfl;have n4:=g2.at_ 1 rfl;clear f1 f2 f3 f4 f5 g1 g2;refine wpAnyE_take (i:=0) (v:= .agg #[.bool s3, .slice A3 l3 c3]) rfl (by kernel_rfl) (by kernel_rfl) (by kernel_rfl) (by kernel_rfl) (fun _ _ _ h=>h) (Or.inl ⟨by rfl,?_⟩) ⟨k5,k6,k7,k8⟩ ?_
    ·rintro w' ⟨m1,m2,m3,m4⟩;go_simp
    simp only[Act.put,List.setIfInBounds_toArray];refine wpAnyE_take (i:=1) (v:= .agg #[.bool s4, .slice A4 l4 c4]) rfl (by kernel_rfl) (by kernel_rfl) (by kernel_rfl) (by kernel_rfl) (fun _ _ _ h=>h) (Or.inl ⟨by rfl,?_⟩) ⟨k5,k6,k7,k8⟩ ?_
    ·rintro w' ⟨m1,m2,m3,m4⟩;go_simp
    simp only[Act.put];refine rD 2 (fun K hK=> ?_);go_simp;refine hK.out _ _ (fun _=>⟨n1,n2,n3,n4⟩) ?_;clear hK K;refine rD 3 (fun K hK=> ?_);go_simp;refine kL hK ?_;clear hK K;refine rD 4 (fun K hK=> ?_);go_simp;refine kL hK ?_;clear hK K;refine dN ?_ _;go_wp2_with fail
    refine bodyPost_ret (v:= .tuple #[.agg #[.bool s3, .slice A3 l3 c3], .agg #[.bool s4, .slice A4 l4 c4], .int .i64 0]) (by simp[results,Tryz.results180,go_sem,m1,m2,m3,m4]) rfl ?_;exact⟨_,_,rfl,F3.out.below ((Below.refl _ _).drew),F4.out.below ((Below.refl _ _).drew),F5.out.drew⟩
   ·have hst':(s4==s2)=false:=by simpa using hst
    have hfl:=floor_other HQR.out hz (by rw[<- TS4.out, <- TS2.out];exact hst);have HFL:=lH hfl;have HIR:=lH hir;have HIQ:=lH hiq;have HIB':=lH hib;have k7:=rr.at_ 0 rfl;have k8:=rr.at_ 1 rfl;clear hst hz hfl hir hiq hib;go_wp2_with fail
    refine(sign_walk _ r0 wc (by exact HIR.out)).mono ?_;rintro e wS ⟨rfl,hbS⟩;clear k7 k8;have rbS:=rb.below hbS (by omega);have rrS:=rr.below hbS (by omega);have rqS:=rq.below hbS (by omega);have k1:=rbS.at_ 0 rfl;have k2:=rbS.at_ 1 rfl;have k3:=rqS.at_ 0 rfl;have k4:=rqS.at_ 1 rfl;have k5:=rrS.at_ 0 rfl;have k6:=rrS.at_ 1 rfl;have RBS:=lH rbS;have RRS:=lH rrS;have RQS:=lH rqS;have HBS:=lH hbS;have hsS:=hbS.size;clear rbS rrS rqS hbS rb rr rq;go_wp2_with fail
    clear hst' hz1;have k1d: wS.drew.cell? ⟨w.heap.size+1,0,none⟩=some (.bool s2):=k1;have k2d: wS.drew.cell? ⟨w.heap.size+1,1,none⟩=some (.slice A2 l2 c2):=k2;have hl1:(digs (1:Int).natAbs).length<8796093022208:=Nat.lt_of_le_of_lt (digs_len_le (k:=1) (by decide)) (by decide);have HL1:=lH hl1;clear hl1
    go_cut [7] (fun _ wx=>At wx (w.heap.size+1+1) (Int.fdiv a b) /\ At wx (w.heap.size+1+1+1) (Int.fmod a b) /\ Below w.heap.size w wx)
    case first=>
     have k3d: wS.drew.cell? ⟨w.heap.size+1+1,0,none⟩=some (.bool s3):=k3;have k4d: wS.drew.cell? ⟨w.heap.size+1+1,1,none⟩=some (.slice A3 l3 c3):=k4;have k5d: wS.drew.cell? ⟨w.heap.size+1+1+1,0,none⟩=some (.bool s4):=k5;have k6d: wS.drew.cell? ⟨w.heap.size+1+1+1,1,none⟩=some (.slice A4 l4 c4):=k6
     refine wp_region_late (fun w'=> w'.cell? ⟨w.heap.size+1,0,none⟩=some (.bool s2) /\ w'.cell? ⟨w.heap.size+1,1,none⟩=some (.slice A2 l2 c2) /\ w'.cell? ⟨w.heap.size+1+1,0,none⟩=some (.bool s3) /\ w'.cell? ⟨w.heap.size+1+1,1,none⟩=some (.slice A3 l3 c3) /\
      w'.cell? ⟨w.heap.size+1+1+1,0,none⟩=some (.bool s4) /\ w'.cell? ⟨w.heap.size+1+1+1,1,none⟩=some (.slice A4 l4 c4)) (fun i=>decide (6 <= i)) (by kernel_rfl) ?_
     refine wpAnyE_take (i:=0) (v:= .agg #[.bool s3, .slice A3 l3 c3]) rfl (by kernel_rfl) (by kernel_rfl) (by kernel_rfl) (by kernel_rfl) (fun _ _ _ h=>h) (Or.inl ⟨by rfl,?_⟩) ⟨k1d,k2d,k3d,k4d,k5d,k6d⟩ ?_
     ·rintro w' ⟨m1,m2,m3,m4,m5,m6⟩;go_simp
     simp only[Act.put,List.setIfInBounds_toArray];refine wpAnyE_take (i:=3) (v:= .agg #[.bool s4, .slice A4 l4 c4]) rfl (by kernel_rfl) (by kernel_rfl) (by kernel_rfl) (by kernel_rfl) (fun _ _ _ h=>h) (Or.inl ⟨by rfl,?_⟩) ⟨k1d,k2d,k3d,k4d,k5d,k6d⟩ ?_
     ·rintro w' ⟨m1,m2,m3,m4,m5,m6⟩;go_simp
     simp only[Act.put];refine wpAnyE_take (i:=4) (v:= .agg #[.bool s2, .slice A2 l2 c2]) rfl (by kernel_rfl) (by kernel_rfl) (by kernel_rfl) (by kernel_rfl) (fun _ _ _ h=>h) (Or.inl ⟨by rfl,?_⟩) ⟨k1d,k2d,k3d,k4d,k5d,k6d⟩ ?_
     ·rintro w' ⟨m1,m2,m3,m4,m5,m6⟩;go_simp
     simp only[Act.put];refine rD 1 (fun K hK=> ?_);go_simp;refine(from_walk 1 _ (by decide) (by decide)).mono ?_;rintro e wF ⟨v5,rfl,hi5,hbF⟩;have hbF:Below wS.heap.size wS wF:=(Below.refl _ wS).drew.trans hbF;have hsF:=hbF.size;have HI5:=lH hi5;have rbF:=RBS.out.below hbF (by omega);have rqF:=RQS.out.below hbF (by omega);have rrF:=RRS.out.below hbF (by omega);go_wp2_with fail
     refine hK.out _ _ (fun _=>⟨rbF.at_ 0 rfl,rbF.at_ 1 rfl,rqF.at_ 0 rfl,rqF.at_ 1 rfl,rrF.at_ 0 rfl,rrF.at_ 1 rfl⟩) ?_;clear hK K hi5 k1d k2d k3d k4d k5d k6d k1 k2 k3 k4 k5 k6;refine rD 2 (fun K hK=> ?_);go_simp;refine(sub_walk (.agg #[.bool s3, .slice A3 l3 c3]) v5 q0 1 wF ((HIQ.out.below HBS.out).below hbF) HI5.out HLQ.out HL1.out).mono ?_;rintro e wG ⟨v6,rfl,hi6,hbG⟩;obtain⟨s6,A6,l6,c6,rfl⟩:=hi6.shape;have hsG:=hbG.size;have rbG:=rbF.below hbG (by omega);have rqG:=rqF.below hbG (by omega);have rrG:=rrF.below hbG (by omega);go_wp2_with fail
     refine hK.out _ _ (fun _=>⟨rbG.at_ 0 rfl,rbG.at_ 1 rfl,rqG.at_ 0 rfl,rqG.at_ 1 rfl,rrG.at_ 0 rfl,rrG.at_ 1 rfl⟩) ?_;clear hK K;refine rD 5 (fun K hK=> ?_);go_simp;refine(add_walk (.agg #[.bool s4, .slice A4 l4 c4]) (.agg #[.bool s2, .slice A2 l2 c2]) r0 b wG (((HIR.out.below HBS.out).below hbF).below hbG) (((HIB'.out.below HBS.out).below hbF).below hbG) HLR.out (by omega)).mono ?_;rintro e wH ⟨v7,rfl,hi7,hbH⟩;obtain⟨s7,A7,l7,c7,rfl⟩:=hi7.shape;have hsH:=hbH.size;have rbH:=rbG.below hbH (by omega);have rqH:=rqG.below hbH (by omega);have rrH:=rrG.below hbH (by omega);go_wp2_with fail
     refine hK.out _ _ (fun _=>⟨rbH.at_ 0 rfl,rbH.at_ 1 rfl,rqH.at_ 0 rfl,rqH.at_ 1 rfl,rrH.at_ 0 rfl,rrH.at_ 1 rfl⟩) ?_;clear hK K;have x1:=rqH.at_ 0 rfl;have x2:=rqH.at_ 1 rfl;have x3:=rrH.at_ 0 rfl;have x4:=rrH.at_ 1 rfl;have x5:=rqH.free 0;have x6:=rqH.free 1;have x7:=rrH.free 0;have x8:=rrH.free 1;refine rD 6 (fun K hK=> ?_);go_simp;refine kL hK ?_;clear hK K;refine rD 7 (fun K hK=> ?_);go_simp;refine kL hK ?_;clear hK K;refine dN ?_ _;have htw:=At.twice (w0:=w) rqH rrH (by omega) (by simp) (by simp) (by simp) (by simp) (hi6.below hbH) hi7 (((hbw.trans (HBS.out.mono hsw)).trans (hbF.mono (by omega))).trans ((hbG.mono (by omega)).trans (hbH.mono (by omega)))) (by omega) (by omega);rw[HFL.out.1,HFL.out.2] at htw;go_wp2_with fail
     go_meet
     exact⟨htw.1,htw.2.1,htw.2.2.2.2.2.2⟩
    case rest=>
     obtain⟨hqE,hrE,hbwE⟩:=hcut;obtain⟨s8,A8,l8,c8,rqE,hiqE⟩:=hqE;obtain⟨s9,A9,l9,c9,rrE,hirE⟩:=hrE;have k5:=rqE.at_ 0 rfl;have k6:=rqE.at_ 1 rfl;have k7:=rrE.at_ 0 rfl;have k8:=rrE.at_ 1 rfl;have k9:=rqE.free 0;have k10:=rqE.free 1;have k11:=rrE.free 0;have k12:=rrE.free 1;have RQE:=lH rqE;have RRE:=lH rrE;have HIQE:=lH hiqE;have HIRE:=lH hirE;clear rqE rrE hiqE hirE;go_wp2_with fail
     refine wp_region_late (fun w'=> w'.cell? ⟨w.heap.size+1+1,0,none⟩=some (.bool s8) /\ w'.cell? ⟨w.heap.size+1+1,1,none⟩=some (.slice A8 l8 c8) /\
      w'.cell? ⟨w.heap.size+1+1+1,0,none⟩=some (.bool s9) /\ w'.cell? ⟨w.heap.size+1+1+1,1,none⟩=some (.slice A9 l9 c9)) (fun i=>decide (3 <= i)) (by kernel_rfl) ?_
     have htw:=At.twice (w0:=w) RQE.out RRE.out (by omega) (by simp) (by simp) (by simp) (by simp) HIQE.out HIRE.out hbwE (by omega) (by omega);obtain⟨-, -,f1,f2,f3,f4,f5⟩:=htw;have F1:=lH f1;have F2:=lH f2;have F3:=lH f3;have F4:=lH f4;have F5:=lH f5;have m1:=f1.at_ 0 rfl;have m2:=f1.at_ 1 rfl;have m3:=f2.at_ 0 rfl;have m4:=f2.at_ 1 rfl;have g1:=(RQE.out.put2 (x:= .bool s8) (y:= .slice A8 l8 c8));have g2:=(RRE.out.far (g':=w.heap.size+1+1) (x:= .bool s8) (y:= .slice A8 l8 c8) (by omega));have n1:=g1.at_ 0 rfl;have n2:=g1.at_ 1 rfl;have n3:=g2.at_ 0 rfl;have n4:=g2.at_ 1 rfl;clear f1 f2 f3 f4 f5 g1 g2;refine wpAnyE_take (i:=0) (v:= .agg #[.bool s8, .slice A8 l8 c8]) rfl (by kernel_rfl) (by kernel_rfl) (by kernel_rfl) (by kernel_rfl) (fun _ _ _ h=>h) (Or.inl ⟨by rfl,?_⟩) ⟨k5,k6,k7,k8⟩ ?_
     ·rintro w' ⟨m1,m2,m3,m4⟩;go_simp
     simp only[Act.put,List.setIfInBounds_toArray];refine wpAnyE_take (i:=1) (v:= .agg #[.bool s9, .slice A9 l9 c9]) rfl (by kernel_rfl) (by kernel_rfl) (by kernel_rfl) (by kernel_rfl) (fun _ _ _ h=>h) (Or.inl ⟨by rfl,?_⟩) ⟨k5,k6,k7,k8⟩ ?_
     ·rintro w' ⟨m1,m2,m3,m4⟩;go_simp
     simp only[Act.put];refine rD 2 (fun K hK=> ?_);go_simp;refine hK.out _ _ (fun _=>⟨n1,n2,n3,n4⟩) ?_;clear hK K;refine rD 3 (fun K hK=> ?_);go_simp;refine kL hK ?_;clear hK K;refine rD 4 (fun K hK=> ?_);go_simp;refine kL hK ?_;clear hK K;refine dN ?_ _;go_wp2_with fail
     refine bodyPost_ret (v:= .tuple #[.agg #[.bool s8, .slice A8 l8 c8], .agg #[.bool s9, .slice A9 l9 c9], .int .i64 0]) (by simp[results,Tryz.results180,go_sem,m1,m2,m3,m4]) rfl ?_;exact⟨_,_,rfl,F3.out.below ((Below.refl _ _).drew),F4.out.below ((Below.refl _ _).drew),F5.out.drew⟩
end Go.Proofs.YtdefghfjhgmpfaaGreatDoor
