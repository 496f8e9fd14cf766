/- Parts of this proof: DivMod. -/
import Derived.Test.YtokagbahdkfagaaGreatDoorMAE
import Derived.Test.YtokagbahdkfagaaGreatDoorMAG
import Derived.Deep.DeepCutAuto
namespace Go.Proofs.YtokagbahdkfagaaGreatDoor
open Tryz
open Go.RowKit
theorem DY(w:World)(h r t C:Obj):((((w.alloc h).alloc r).alloc t).alloc C).heap[w.heap.size]? =some h /\ ((((w.alloc h).alloc r).alloc t).alloc C).heap[w.heap.size+1]? =some r /\ ((((w.alloc h).alloc r).alloc t).alloc C).heap[w.heap.size+2]? =some t /\
  ((((w.alloc h).alloc r).alloc t).alloc C).heap[w.heap.size+3]? =some C /\ ((((w.alloc h).alloc r).alloc t).alloc C).heap.size=w.heap.size+4 /\ Below w.heap.size w ((((w.alloc h).alloc r).alloc t).alloc C):=by
 obtain⟨h1,G,M,E,_⟩:=kX w h r t;refine⟨nu _ _ _ _ h1,nu _ _ _ _ G,nu _ _ _ _ M,?_,by rw[size_alloc,E],by go_grown⟩;rw[show w.heap.size+3=(((w.alloc h).alloc r).alloc t).heap.size by rw[E]];exact eO _ _
def At(w:World)(g:Nat)(n:Int):Prop:=∃s A l c,Row w g 38 [.bool s, .slice A l c] /\ eT w (.agg #[.bool s, .slice A l c]) n
theorem At.lt{w:World}{g:Nat}{n:Int}(h:At w g n):g<w.heap.size:=by obtain⟨_,_,_,_,r,_⟩:=h;exact r.lt
theorem At.below{w w':World}{g:Nat}{n:Int}(h:At w g n)(r:Below w.heap.size w w'):At w' g n:=by
 obtain⟨s,A,l,c,t,C⟩:=h;exact⟨s,A,l,c,t.below r t.lt,C.below r⟩
theorem eT.far{w:World}{v x y:Value}{n:Int}{g:Nat}{p q:Value}(h:eT w v n)(M:Row w g 38 [p,q])(E:∀n:Int,p≠ .int .u32 n)(G:∀n:Int,q≠ .int .u32 n):
  eT ((w.setCell ⟨g,0,none⟩ x).setCell ⟨g,1,none⟩ y) v n:=by
 obtain⟨A,c,r,h1,t,C⟩:=h;refine⟨A,c,r,h1,t,C.kept (iP _ _ _ _ _ _) M ?_⟩;intro v r n;simp only[List.mem_cons,List.not_mem_nil,or_false] at r
 rcases r with rfl | rfl
 ·exact E n
 ·exact G n
theorem Row.far{w:World}{g g':Nat}{e:TypeId}{cs:List Value}{x y:Value}(h:Row w g e cs)(r:g≠g'):Row ((w.setCell ⟨g',0,none⟩ x).setCell ⟨g',1,none⟩ y) g e cs:=
 ((iP w g' 0 1 x y).block g h.lt (by simp;exact r)).trans h
theorem Row.lm{w:World}{g:Nat}{e:TypeId}{p q x y:Value}(h:Row w g e [p,q]):Row ((w.setCell ⟨g,0,none⟩ x).setCell ⟨g,1,none⟩ y) g e [x,y]:=(h.set 0 x).set 1 y
theorem At.put{w:World}{g:Nat}{p q x y:Value}{n:Int}(r:Row w g 38 [p,q])(C:∀n:Int,p≠ .int .u32 n)(E:∀n:Int,q≠ .int .u32 n)(h:eT w (.agg #[x,y]) n):
  At ((w.setCell ⟨g,0,none⟩ x).setCell ⟨g,1,none⟩ y) g n:=by
 obtain⟨s,A,l,c,t⟩:=h.shape;simp only[Value.agg.injEq] at t;obtain⟨rfl,rfl⟩:x= .bool s /\ y= .slice A l c:=by simpa using t
 exact⟨s,A,l,c,r.lm,h.far r C E⟩
theorem At.far{w:World}{g g':Nat}{n:Int}{p q x y:Value}(h:At w g n)(t:g≠g')(G:Row w g' 38 [p,q])(C:∀n:Int,p≠ .int .u32 n)(E:∀n:Int,q≠ .int .u32 n):
  At ((w.setCell ⟨g',0,none⟩ x).setCell ⟨g',1,none⟩ y) g n:=by
 obtain⟨s,A,l,c,h1,r⟩:=h;exact⟨s,A,l,c,h1.far t,r.far G C E⟩
theorem At.twice{w0 w:World}{g h:Nat}{p q p' V x y x' y':Value}{n m:Int}(E:Row w g 38 [p,q])(rh:Row w h 38 [p',V])(G:g≠h)(M:∀n:Int,p≠ .int .u32 n)(O:∀n:Int,q≠ .int .u32 n)(t:∀n:Int,p'≠ .int .u32 n)(C:∀n:Int,V≠ .int .u32 n)
  (h1:eT w (.agg #[x,y]) n) (W:eT w (.agg #[x',y']) m) (X:Below w0.heap.size w0 w) (R:w0.heap.size <= g) (T:w0.heap.size <= h):
  At ((((w.setCell ⟨g,0,none⟩ x).setCell ⟨g,1,none⟩ y).setCell ⟨h,0,none⟩ x').setCell ⟨h,1,none⟩ y') g n /\
  At ((((w.setCell ⟨g,0,none⟩ x).setCell ⟨g,1,none⟩ y).setCell ⟨h,0,none⟩ x').setCell ⟨h,1,none⟩ y') h m /\
  Row ((((w.setCell ⟨g,0,none⟩ x).setCell ⟨g,1,none⟩ y).setCell ⟨h,0,none⟩ x').setCell ⟨h,1,none⟩ y') g 38 [x,y] /\
  Row ((((w.setCell ⟨g,0,none⟩ x).setCell ⟨g,1,none⟩ y).setCell ⟨h,0,none⟩ x').setCell ⟨h,1,none⟩ y') h 38 [x',y'] /\
  eT ((((w.setCell ⟨g,0,none⟩ x).setCell ⟨g,1,none⟩ y).setCell ⟨h,0,none⟩ x').setCell ⟨h,1,none⟩ y') (.agg #[x,y]) n /\
  eT ((((w.setCell ⟨g,0,none⟩ x).setCell ⟨g,1,none⟩ y).setCell ⟨h,0,none⟩ x').setCell ⟨h,1,none⟩ y') (.agg #[x',y']) m /\
  Below w0.heap.size w0 ((((w.setCell ⟨g,0,none⟩ x).setCell ⟨g,1,none⟩ y).setCell ⟨h,0,none⟩ x').setCell ⟨h,1,none⟩ y'):=by
 have r:=rh.far (x:=x) (y:=y) G.symm;have Y:=h1.far (x:=x) (y:=y) E M O;have U:=W.far (x:=x) (y:=y) E M O;have Z:=Y.far (x:=x') (y:=y') r t C;have a0:=U.far (x:=x') (y:=y') r t C
 exact⟨(At.put E M O h1).far G r t C,At.put r t C U,(Row.lm E).far G,Row.lm r,Z,a0,
  (((X.setCell (p:=⟨g,0,none⟩) R _).setCell (p:=⟨g,1,none⟩) R _).setCell (p:=⟨h,0,none⟩) T _).setCell (p:=⟨h,1,none⟩) T _⟩
theorem tO{b:Int}(h:b≠0):(sgI b==0)=false:=by unfold sgI;split <;> first | rfl | (split <;> first | rfl | omega)
set_option maxHeartbeats 1600000 in
theorem qJ(va vb:Value)(a b:Int)(w:World)(ha:eT w va a)(hb:eT w vb b)(bY:(ek a.natAbs).length<8796093022208)(cj:(ek b.natAbs).length<8796093022200)(aT:b≠0):
  Calls prog 111 #[va,vb] w fun e w'=>∃q r,e= .returned (.tuple #[q,r, .int .i64 0]) /\ eT w' q (Int.fdiv a b) /\ eT w' r (Int.fmod a b) /\ Below w.heap.size w w':=by
 have aV:=ha;have ag:=hb;obtain⟨A,ca,rfl,bV,bX,bn⟩:=ha;obtain⟨B,cb,rfl,ch,ci,bo⟩:=hb;obtain⟨s,hs⟩:=eX (decide (a<0));obtain⟨t,ht⟩:=eX (decide (b<0));rw[<- hs] at aV ⊢;rw[<- ht] at ag ⊢;have cc:=tO aT;have HS:=lH hs;have HT:=lH ht;have bK:=lH bn;have bL:=lH bo;have b9:=lH ag;have bB:=lH aV;have b6:=lH aT;obtain⟨na,aW⟩:=eX ((ek a.natAbs).length);obtain⟨nb,aX⟩:=eX ((ek b.natAbs).length);rw[<- aW, <- aX];have ba:=lH aW;have aM:=lH aX;clear hs ht bn bo ag aV aT aW aX;obtain⟨W,hW⟩:=eX ((((w.alloc (.cells #[.bool s, .slice A na ca] 38)).alloc (.cells #[.bool t, .slice B nb cb] 38)).alloc (.cells #[.bool false, .slice none 0 0] 38)).alloc (.cells #[.bool false, .slice none 0 0] 38));obtain⟨r1,r2,r3,r4,bf,aS⟩:=DY w (.cells #[.bool s, .slice A na ca] 38) (.cells #[.bool t, .slice B nb cb] 38) (.cells #[.bool false, .slice none 0 0] 38) (.cells #[.bool false, .slice none 0 0] 38);rw[<- hW] at r1 r2 r3 r4 bf aS;have r1:Row W w.heap.size 38 [.bool s, .slice A na ca]:=r1;have r2:Row W (w.heap.size+1) 38 [.bool t, .slice B nb cb]:=r2;have r3:Row W (w.heap.size+1+1) 38 [.bool false, .slice none 0 0]:=r3;have r4:Row W (w.heap.size+1+1+1) 38 [.bool false, .slice none 0 0]:=r4;go_enter func111,ntmps111;go_wp2_with fail
 rw[<- hW];clear hW;have aP:=lH aS;clear aS;refine(jU _ b W (by have:=b9.o.below aP.o;rwa [<- aM.o] at this)).mono ?_;rintro e w1 ⟨rfl,ac⟩;have aG:=r1.below ac oM;have aH:=r2.below ac oM;have e1:=aG.at_ 0 rfl;have e2:=aG.at_ 1 rfl;have e3:=aH.at_ 0 rfl;have e4:=aH.at_ 1 rfl;have ao:=lH (aP.o.trans (ac.mono aP.o.size));go_wp2_with fail
 have hd:=xe A B ca cb a.natAbs b.natAbs w1 (by exact bK.o.below ao.o) (by exact bL.o.below ao.o) bV bX oM oM (by have:=b6.o;omega);rw[<- ba.o, <- aM.o] at hd;refine hd.mono ?_;clear hd;rintro e w2 ⟨x,y,rfl,hx,hy,ad⟩;have bp:=ao.o.trans (ad.mono ao.o.size);have ce:=ac.size;have cf:=ad.size;have p1:=aG.below ad oM;have p2:=aH.below ad oM;have p3:=(r3.below ac oM).below ad oM;have p4:=(r4.below ac oM).below ad oM;have HX:=lH hx;have HY:=lH hy;have aO:=lH bp;have ck:w.heap.size+4 <= w2.heap.size:=oM
 clear hx hy bp ad r1 r2 r3 r4 aG aH ac ao bf cc e1 e2 e3 e4;have P1:=lH p1;have P2:=lH p2;have P3:=lH p3;have P4:=lH p4;have bM:=lH (nV.below HX.o.sM ((Below.refl w2.heap.size w2).drew));have c1:=p1.at_ 0 rfl;have c2:=p2.at_ 0 rfl;have bS: w2.drew.cell? ⟨w.heap.size,0,none⟩=some (.bool s):=c1;have bU: w2.drew.cell? ⟨w.heap.size+1,0,none⟩=some (.bool t):=c2;clear p1 p2 p3 p4
 go_upto_region 4 with (fail)
 go_cut [7] (fun _ wx=>At wx w.heap.size a /\ At wx (w.heap.size+1) b /\ At wx (w.heap.size+1+1) (sgn (s !=t) (a.natAbs / b.natAbs)) /\ At wx (w.heap.size+1+1+1) (sgn s (a.natAbs%b.natAbs)) /\ Below w.heap.size w wx)
 case first=>
  go_region_held3 (fun w'=> w'.cell? ⟨w.heap.size,0,none⟩=some (.bool s) /\ w'.cell? ⟨w.heap.size+1,0,none⟩=some (.bool t))
   (first | with_reducible exact⟨c1,c2⟩ | with_reducible exact⟨bS,bU⟩ | with_reducible exact⟨bd,be⟩ | with_reducible exact⟨aQ,aR⟩ | exact⟨(iG _ _ _ _ _ _ _ _ oM).trans aQ,(iG _ _ _ _ _ _ _ _ oM).trans aR⟩ | exact⟨(iG _ _ _ _ _ _ _ _ oM).trans ((iG _ _ _ _ _ _ _ _ oM).trans aQ),(iG _ _ _ _ _ _ _ _ oM).trans ((iG _ _ _ _ _ _ _ _ oM).trans aR)⟩ | go_keep)
   (first
    | (go_at_call 106
       have bW:=b8;clear bW;refine(lL s y (ek (a.natAbs%b.natAbs)) _ ?hy).mono ?_
       case hy=>exact(HY.o.below aw.o).sM
       rintro e w4 ⟨v2,rfl,aU,a3⟩;obtain⟨s2,A2,l2,cd,rfl⟩:=aU.shape;have bz:=lH aU;clear aU;have a3:Below w3.heap.size w3 w4:=a3;have aQ:=((fu a3).1 w.heap.size 0 oM).trans bd;have aR:=((fu a3).1 (w.heap.size+1) 0 oM).trans be;have cm:=a3.size;have q3:=(P3.o.below aw.o oM).below a3 oM;have q4:=(P4.o.below aw.o oM).below a3 oM;have k1:=q3.at_ 0 rfl;have k2:=q3.at_ 1 rfl;have k3:=q3.free 0;have k4:=q3.free 1;have k5:=q4.at_ 0 rfl;have k6:=q4.at_ 1 rfl;have V:=q4.free 0;have X:=q4.free 1;have Q3:=lH q3;have Q4:=lH q4;have b7:=lH a3
       clear a3 q3 q4)
    | (go_at_call 106
       refine(lL (s !=t) x (ek (a.natAbs / b.natAbs)) _ ?hx).mono ?_
       case hx=>exact bM.o
       rintro e w3 ⟨v1,rfl,ar,ae⟩;obtain⟨s1,A1,l1,bR,rfl⟩:=ar.shape;have b8:=lH ar;clear ar;have ae:Below w2.heap.size w2 w3:=(Below.refl _ w2).drew.trans ae;have bd:=((fu ae).1 w.heap.size 0 oM).trans c1;have be:=((fu ae).1 (w.heap.size+1) 0 oM).trans c2;have c5:=ae.size;have aw:=lH ae
       clear ae))
  go_wp2_with fail
  go_meet
  have ar:=b8.o.below b7.o;have t1:=At.put Q3.o (by simp) (by simp) ar;have t4:=(Q4.o.far (x:= .bool s1) (y:= .slice A1 l1 bR) (show w.heap.size+1+1+1≠w.heap.size+1+1 by omega));have t2:=At.put t4 (by simp) (by simp) (bz.o.far Q3.o (by simp) (by simp));have ap:Below w2.heap.size w2 w4:=aw.o.trans (b7.o.mono c5);have ta:At w4 w.heap.size a:=⟨s,A,na,ca,P1.o.below ap oM,by rw[ba.o];exact bB.o.below (aO.o.trans (ap.mono oM))⟩;have tb:At w4 (w.heap.size+1) b:=⟨t,B,nb,cb,P2.o.below ap oM,by rw[aM.o];exact b9.o.below (aO.o.trans (ap.mono oM))⟩;rw[fC] at t1 t2;refine⟨(ta.far oM Q3.o (by simp) (by simp)).far oM t4 (by simp) (by simp),(tb.far oM Q3.o (by simp) (by simp)).far oM t4 (by simp) (by simp),t1.far oM t4 (by simp) (by simp),t2,?_⟩;have hb:=aO.o.trans (ap.mono oM);exact(((hb.setCell (p:=⟨w.heap.size+1+1,0,none⟩) (by simp;omega) _).setCell (p:=⟨w.heap.size+1+1,1,none⟩) (by simp;omega) _).setCell (p:=⟨w.heap.size+1+1+1,0,none⟩) (by simp;omega) _).setCell (p:=⟨w.heap.size+1+1+1,1,none⟩) (by simp;omega) _
 case rest=>
  obtain⟨ha,hb,hq,hr,ay⟩:=hcut;obtain⟨s2,A2,l2,c2,rb,ag⟩:=hb;obtain⟨T,M,R,O,rq,au⟩:=hq;obtain⟨U,A4,l4,c4,rr,aa⟩:=hr;obtain⟨q0,av⟩:=eX (sgn (s !=t) (a.natAbs / b.natAbs));obtain⟨r0,az⟩:=eX (sgn s (a.natAbs%b.natAbs));rw[<- av] at au;rw[<- az] at aa;have bI:=lH av;have bJ:=lH az;have aZ:=ay.size;have bw:s2=decide (b<0):=by obtain⟨_,_,hv,_⟩:=ag;simp at hv;exact hv.1
  have bx:U=decide (r0<0):=by obtain⟨_,_,hv,_⟩:=aa;simp at hv;exact hv.1
  have aY:=DW a b b6.o q0 r0 (by rw[av,HS.o,HT.o]) (by rw[az,HS.o])
  have bk:(ek q0.natAbs).length<8796093022208:=by
   rw[av,qz];exact Nat.lt_of_le_of_lt (jT (Nat.div_le_self _ _)) bY
  have bl:(ek r0.natAbs).length<8796093022208:=Nat.lt_of_le_of_lt (jT (Nat.le_of_lt aY.2)) oM;have bG:=lH bk;have bH:=lH bl;clear bk bl;have aN:=lH aY;have bb:=lH bw;have bc:=lH bx;clear av az aY bw bx bI bJ;have cl:=rr.lt;by_cases hz:r0=0
  ·have bq:(sgI r0 !=0)=false:=by rw[hz];rfl
   have a8:=xq aN.o (.inl hz);have a4:=lH a8;have a5:=lH aa;have V:=rr.at_ 0 rfl;have X:=rr.at_ 1 rfl;clear hz a8 aa;go_wp2_with fail
   refine(jU _ r0 wc (by exact a5.o)).mono ?_;rintro e wE ⟨rfl,a0⟩;clear V X;have E:=rq.below a0 oM;have G:=rr.below a0 oM;have a9:eT wE (.agg #[.bool T, .slice M R O]) (Int.fdiv a b):=by rw[<- a4.o.1];exact au.below a0
   have ab:eT wE (.agg #[.bool U, .slice A4 l4 c4]) (Int.fmod a b):=by rw[<- a4.o.2];exact a5.o.below a0
   have aq:Below w.heap.size w wE:=ay.trans (a0.mono aZ);clear rq rr rb;have k5:=E.at_ 0 rfl;have k6:=E.at_ 1 rfl;have V:=G.at_ 0 rfl;have X:=G.at_ 1 rfl;have k9:=E.free 0;have br:=E.free 1;have bs:=G.free 0;have bu:=G.free 1;have a6:=lH E;have a7:=lH G;have am:=lH a9;have an:=lH ab;clear E G a9 ab;go_wp2_with fail
   refine iC (fun w'=> w'.cell? ⟨w.heap.size+1+1,0,none⟩=some (.bool T) /\ w'.cell? ⟨w.heap.size+1+1,1,none⟩=some (.slice M R O) /\
    w'.cell? ⟨w.heap.size+1+1+1,0,none⟩=some (.bool U) /\ w'.cell? ⟨w.heap.size+1+1+1,1,none⟩=some (.slice A4 l4 c4)) (fun i=>decide (3 <= i)) kR ?_
   have a2:=At.twice (w0:=w) a6.o a7.o oM (by simp) (by simp) (by simp) (by simp) am.o an.o aq oM oM;obtain⟨-, -,Y,Z,f3,f4,f5⟩:=a2;have F1:=lH Y;have F2:=lH Z;have F3:=lH f3;have F4:=lH f4;have F5:=lH f5;have m1:=Y.at_ 0 rfl;have m2:=Y.at_ 1 rfl;have m3:=Z.at_ 0 rfl;have m4:=Z.at_ 1 rfl;have g1:=(a6.o.lm (x:= .bool T) (y:= .slice M R O));have g2:=(a7.o.far (g':=w.heap.size+1+1) (x:= .bool T) (y:= .slice M R O) oM);have n1:=g1.at_ 0 rfl;have n2:=g1.at_ 1 rfl;have n3:=g2.at_ 0 rfl;have n4:=g2.at_ 1 rfl;clear Y Z f3 f4 f5 g1 g2;refine l5 (i:=0) (v:= .agg #[.bool T, .slice M R O]) rfl kR kR kR kR (fun _ _ _ h=>h) (Or.inl ⟨by rfl,?_⟩) ⟨k5,k6,V,X⟩ ?_
   ·rintro w' ⟨m1,m2,m3,m4⟩;go_simp
   simp only[Act.put,List.setIfInBounds_toArray];refine l5 (i:=1) (v:= .agg #[.bool U, .slice A4 l4 c4]) rfl kR kR kR kR (fun _ _ _ h=>h) (Or.inl ⟨by rfl,?_⟩) ⟨k5,k6,V,X⟩ ?_
   ·rintro w' ⟨m1,m2,m3,m4⟩;go_simp
   simp only[Act.put];refine rD 2 (fun K C=> ?_);go_simp;refine C.out _ _ (fun _=>⟨n1,n2,n3,n4⟩) ?_;clear C K;refine rD 3 (fun K C=> ?_);go_simp;refine kL C ?_;clear C K;refine rD 4 (fun K C=> ?_);go_simp;refine kL C ?_;clear C K;refine dN ?_ _;go_wp2_with fail
   refine bodyPost_ret (v:= .tuple #[.agg #[.bool T, .slice M R O], .agg #[.bool U, .slice A4 l4 c4], .int .i64 0]) (by simp[results,results111,go_sem,m1,m2,m3,m4]) rfl ?_;exact⟨_,_,rfl,F3.o.below ((Below.refl _ _).drew),F4.o.below ((Below.refl _ _).drew),F5.o.drew⟩
  ·have bq:(sgI r0 !=0)=true:=by
    have:=tO hz
    simpa using this
   by_cases al:U=s2
   ·have bm:(U==s2)=true:=by rw[al];simp
    have a8:=xq aN.o (.inr (by rw[<- bc.o, <- bb.o];exact al));have a4:=lH a8;have a5:=lH aa;have V:=rr.at_ 0 rfl;have X:=rr.at_ 1 rfl;clear al hz a8 aa;go_wp2_with fail
    refine(jU _ r0 wc (by exact a5.o)).mono ?_;rintro e wE ⟨rfl,a0⟩;have ct:=(rb.below a0 oM).at_ 0 rfl;clear V X;have E:=rq.below a0 oM;have G:=rr.below a0 oM;have a9:eT wE (.agg #[.bool T, .slice M R O]) (Int.fdiv a b):=by rw[<- a4.o.1];exact au.below a0
    have ab:eT wE (.agg #[.bool U, .slice A4 l4 c4]) (Int.fmod a b):=by rw[<- a4.o.2];exact a5.o.below a0
    have aq:Below w.heap.size w wE:=ay.trans (a0.mono aZ);clear rq rr rb;have k5:=E.at_ 0 rfl;have k6:=E.at_ 1 rfl;have V:=G.at_ 0 rfl;have X:=G.at_ 1 rfl;have k9:=E.free 0;have br:=E.free 1;have bs:=G.free 0;have bu:=G.free 1;have a6:=lH E;have a7:=lH G;have am:=lH a9;have an:=lH ab;clear E G a9 ab;go_wp2_with fail
    refine iC (fun w'=> w'.cell? ⟨w.heap.size+1+1,0,none⟩=some (.bool T) /\ w'.cell? ⟨w.heap.size+1+1,1,none⟩=some (.slice M R O) /\
     w'.cell? ⟨w.heap.size+1+1+1,0,none⟩=some (.bool U) /\ w'.cell? ⟨w.heap.size+1+1+1,1,none⟩=some (.slice A4 l4 c4)) (fun i=>decide (3 <= i)) kR ?_
    have a2:=At.twice (w0:=w) a6.o a7.o oM (by simp) (by simp) (by simp) (by simp) am.o an.o aq oM oM;obtain⟨-, -,Y,Z,f3,f4,f5⟩:=a2;have F1:=lH Y;have F2:=lH Z;have F3:=lH f3;have F4:=lH f4;have F5:=lH f5;have m1:=Y.at_ 0 rfl;have m2:=Y.at_ 1 rfl;have m3:=Z.at_ 0 rfl;have m4:=Z.at_ 1 rfl;have g1:=(a6.o.lm (x:= .bool T) (y:= .slice M R O));have g2:=(a7.o.far (g':=w.heap.size+1+1) (x:= .bool T) (y:= .slice M R O) oM);have n1:=g1.at_ 0 rfl;have n2:=g1.at_ 1 rfl;have n3:=g2.at_ 0 rfl;have n4:=g2.at_ 1 rfl;clear Y Z f3 f4 f5 g1 g2;refine l5 (i:=0) (v:= .agg #[.bool T, .slice M R O]) rfl kR kR kR kR (fun _ _ _ h=>h) (Or.inl ⟨by rfl,?_⟩) ⟨k5,k6,V,X⟩ ?_
    ·rintro w' ⟨m1,m2,m3,m4⟩;go_simp
    simp only[Act.put,List.setIfInBounds_toArray];refine l5 (i:=1) (v:= .agg #[.bool U, .slice A4 l4 c4]) rfl kR kR kR kR (fun _ _ _ h=>h) (Or.inl ⟨by rfl,?_⟩) ⟨k5,k6,V,X⟩ ?_
    ·rintro w' ⟨m1,m2,m3,m4⟩;go_simp
    simp only[Act.put];refine rD 2 (fun K C=> ?_);go_simp;refine C.out _ _ (fun _=>⟨n1,n2,n3,n4⟩) ?_;clear C K;refine rD 3 (fun K C=> ?_);go_simp;refine kL C ?_;clear C K;refine rD 4 (fun K C=> ?_);go_simp;refine kL C ?_;clear C K;refine dN ?_ _;go_wp2_with fail
    refine bodyPost_ret (v:= .tuple #[.agg #[.bool T, .slice M R O], .agg #[.bool U, .slice A4 l4 c4], .int .i64 0]) (by simp[results,results111,go_sem,m1,m2,m3,m4]) rfl ?_;exact⟨_,_,rfl,F3.o.below ((Below.refl _ _).drew),F4.o.below ((Below.refl _ _).drew),F5.o.drew⟩
   ·have bm:(U==s2)=false:=by simpa using al
    have a8:=DX aN.o hz (by rw[<- bc.o, <- bb.o];exact al);have a4:=lH a8;have a5:=lH aa;have bE:=lH au;have bC:=lH ag;have V:=rr.at_ 0 rfl;have X:=rr.at_ 1 rfl;clear al hz a8 aa au ag;go_wp2_with fail
    refine(jU _ r0 wc (by exact a5.o)).mono ?_;rintro e wS ⟨rfl,ak⟩;clear V X;have aJ:=rb.below ak oM;have aL:=rr.below ak oM;have aK:=rq.below ak oM;have k1:=aJ.at_ 0 rfl;have k2:=aJ.at_ 1 rfl;have k3:=aK.at_ 0 rfl;have k4:=aK.at_ 1 rfl;have k5:=aL.at_ 0 rfl;have k6:=aL.at_ 1 rfl;have bO:=lH aJ;have bQ:=lH aL;have bP:=lH aK;have ax:=lH ak;have cq:=ak.size;clear aJ aL aK ak rb rr rq;go_wp2_with fail
    clear bm bq;have aA: wS.drew.cell? ⟨w.heap.size+1,0,none⟩=some (.bool s2):=k1;have aB: wS.drew.cell? ⟨w.heap.size+1,1,none⟩=some (.slice A2 l2 c2):=k2;have bj:(ek (1:Int).natAbs).length<8796093022208:=Nat.lt_of_le_of_lt (jS (k:=1) dC) dC;have bF:=lH bj;clear bj
    go_cut [7] (fun _ wx=>At wx (w.heap.size+1+1) (Int.fdiv a b) /\ At wx (w.heap.size+1+1+1) (Int.fmod a b) /\ Below w.heap.size w wx)
    case first=>
     have aC: wS.drew.cell? ⟨w.heap.size+1+1,0,none⟩=some (.bool T):=k3;have aD: wS.drew.cell? ⟨w.heap.size+1+1,1,none⟩=some (.slice M R O):=k4;have aE: wS.drew.cell? ⟨w.heap.size+1+1+1,0,none⟩=some (.bool U):=k5;have aF: wS.drew.cell? ⟨w.heap.size+1+1+1,1,none⟩=some (.slice A4 l4 c4):=k6
     refine iC (fun w'=> w'.cell? ⟨w.heap.size+1,0,none⟩=some (.bool s2) /\ w'.cell? ⟨w.heap.size+1,1,none⟩=some (.slice A2 l2 c2) /\ w'.cell? ⟨w.heap.size+1+1,0,none⟩=some (.bool T) /\ w'.cell? ⟨w.heap.size+1+1,1,none⟩=some (.slice M R O) /\
      w'.cell? ⟨w.heap.size+1+1+1,0,none⟩=some (.bool U) /\ w'.cell? ⟨w.heap.size+1+1+1,1,none⟩=some (.slice A4 l4 c4)) (fun i=>decide (6 <= i)) kR ?_
     refine l5 (i:=0) (v:= .agg #[.bool T, .slice M R O]) rfl kR kR kR kR (fun _ _ _ h=>h) (Or.inl ⟨by rfl,?_⟩) ⟨aA,aB,aC,aD,aE,aF⟩ ?_
     ·rintro w' ⟨m1,m2,m3,m4,m5,m6⟩;go_simp
     simp only[Act.put,List.setIfInBounds_toArray];refine l5 (i:=3) (v:= .agg #[.bool U, .slice A4 l4 c4]) rfl kR kR kR kR (fun _ _ _ h=>h) (Or.inl ⟨by rfl,?_⟩) ⟨aA,aB,aC,aD,aE,aF⟩ ?_
     ·rintro w' ⟨m1,m2,m3,m4,m5,m6⟩;go_simp
     simp only[Act.put];refine l5 (i:=4) (v:= .agg #[.bool s2, .slice A2 l2 c2]) rfl kR kR kR kR (fun _ _ _ h=>h) (Or.inl ⟨by rfl,?_⟩) ⟨aA,aB,aC,aD,aE,aF⟩ ?_
     ·rintro w' ⟨m1,m2,m3,m4,m5,m6⟩;go_simp
     simp only[Act.put];refine rD 1 (fun K C=> ?_);go_simp;refine(tN 1 _ dC dC).mono ?_;rintro e wF ⟨v5,rfl,bg,a1⟩;have a1:Below wS.heap.size wS wF:=(Below.refl _ wS).drew.trans a1;have cn:=a1.size;have bA:=lH bg;have b0:=bO.o.below a1 oM;have b2:=bP.o.below a1 oM;have b4:=bQ.o.below a1 oM;go_wp2_with fail
     refine C.out _ _ (fun _=>⟨b0.at_ 0 rfl,b0.at_ 1 rfl,b2.at_ 0 rfl,b2.at_ 1 rfl,b4.at_ 0 rfl,b4.at_ 1 rfl⟩) ?_;clear C K bg aA aB aC aD aE aF k1 k2 k3 k4 k5 k6;refine rD 2 (fun K C=> ?_);go_simp;refine(DL (.agg #[.bool T, .slice M R O]) v5 q0 1 wF ((bE.o.below ax.o).below a1) bA.o bG.o bF.o).mono ?_;rintro e wG ⟨v6,rfl,bh,af⟩;obtain⟨s6,A6,l6,c6,rfl⟩:=bh.shape;have co:=af.size;have b1:=b0.below af oM;have b3:=b2.below af oM;have b5:=b4.below af oM;go_wp2_with fail
     refine C.out _ _ (fun _=>⟨b1.at_ 0 rfl,b1.at_ 1 rfl,b3.at_ 0 rfl,b3.at_ 1 rfl,b5.at_ 0 rfl,b5.at_ 1 rfl⟩) ?_;clear C K;refine rD 5 (fun K C=> ?_);go_simp;refine(pq (.agg #[.bool U, .slice A4 l4 c4]) (.agg #[.bool s2, .slice A2 l2 c2]) r0 b wG (((a5.o.below ax.o).below a1).below af) (((bC.o.below ax.o).below a1).below af) bH.o oM).mono ?_;rintro e wH ⟨v7,rfl,bi,aj⟩;obtain⟨s7,A7,l7,c7,rfl⟩:=bi.shape;have cp:=aj.size;have bv:=b1.below aj oM;have ah:=b3.below aj oM;have ai:=b5.below aj oM;go_wp2_with fail
     refine C.out _ _ (fun _=>⟨bv.at_ 0 rfl,bv.at_ 1 rfl,ah.at_ 0 rfl,ah.at_ 1 rfl,ai.at_ 0 rfl,ai.at_ 1 rfl⟩) ?_;clear C K;have x1:=ah.at_ 0 rfl;have x2:=ah.at_ 1 rfl;have x3:=ai.at_ 0 rfl;have x4:=ai.at_ 1 rfl;have x5:=ah.free 0;have x6:=ah.free 1;have x7:=ai.free 0;have x8:=ai.free 1;refine rD 6 (fun K C=> ?_);go_simp;refine kL C ?_;clear C K;refine rD 7 (fun K C=> ?_);go_simp;refine kL C ?_;clear C K;refine dN ?_ _;have a2:=At.twice (w0:=w) ah ai oM (by simp) (by simp) (by simp) (by simp) (bh.below aj) bi (((ay.trans (ax.o.mono aZ)).trans (a1.mono oM)).trans ((af.mono oM).trans (aj.mono oM))) oM oM;rw[a4.o.1,a4.o.2] at a2;go_wp2_with fail
     go_meet
     exact⟨a2.1,a2.2.1,a2.2.2.2.2.2.2⟩
    case rest=>
     obtain⟨bZ,c0,aq⟩:=hcut;obtain⟨s8,A8,l8,c8,E,a9⟩:=bZ;obtain⟨s9,A9,l9,c9,G,ab⟩:=c0;have k5:=E.at_ 0 rfl;have k6:=E.at_ 1 rfl;have V:=G.at_ 0 rfl;have X:=G.at_ 1 rfl;have k9:=E.free 0;have br:=E.free 1;have bs:=G.free 0;have bu:=G.free 1;have a6:=lH E;have a7:=lH G;have am:=lH a9;have an:=lH ab;clear E G a9 ab;go_wp2_with fail
     refine iC (fun w'=> w'.cell? ⟨w.heap.size+1+1,0,none⟩=some (.bool s8) /\ w'.cell? ⟨w.heap.size+1+1,1,none⟩=some (.slice A8 l8 c8) /\
      w'.cell? ⟨w.heap.size+1+1+1,0,none⟩=some (.bool s9) /\ w'.cell? ⟨w.heap.size+1+1+1,1,none⟩=some (.slice A9 l9 c9)) (fun i=>decide (3 <= i)) kR ?_
     have a2:=At.twice (w0:=w) a6.o a7.o oM (by simp) (by simp) (by simp) (by simp) am.o an.o aq oM oM;obtain⟨-, -,Y,Z,f3,f4,f5⟩:=a2;have F1:=lH Y;have F2:=lH Z;have F3:=lH f3;have F4:=lH f4;have F5:=lH f5;have m1:=Y.at_ 0 rfl;have m2:=Y.at_ 1 rfl;have m3:=Z.at_ 0 rfl;have m4:=Z.at_ 1 rfl;have g1:=(a6.o.lm (x:= .bool s8) (y:= .slice A8 l8 c8));have g2:=(a7.o.far (g':=w.heap.size+1+1) (x:= .bool s8) (y:= .slice A8 l8 c8) oM);have n1:=g1.at_ 0 rfl;have n2:=g1.at_ 1 rfl;have n3:=g2.at_ 0 rfl;have n4:=g2.at_ 1 rfl;clear Y Z f3 f4 f5 g1 g2;refine l5 (i:=0) (v:= .agg #[.bool s8, .slice A8 l8 c8]) rfl kR kR kR kR (fun _ _ _ h=>h) (Or.inl ⟨by rfl,?_⟩) ⟨k5,k6,V,X⟩ ?_
     ·rintro w' ⟨m1,m2,m3,m4⟩;go_simp
     simp only[Act.put,List.setIfInBounds_toArray];refine l5 (i:=1) (v:= .agg #[.bool s9, .slice A9 l9 c9]) rfl kR kR kR kR (fun _ _ _ h=>h) (Or.inl ⟨by rfl,?_⟩) ⟨k5,k6,V,X⟩ ?_
     ·rintro w' ⟨m1,m2,m3,m4⟩;go_simp
     simp only[Act.put];refine rD 2 (fun K C=> ?_);go_simp;refine C.out _ _ (fun _=>⟨n1,n2,n3,n4⟩) ?_;clear C K;refine rD 3 (fun K C=> ?_);go_simp;refine kL C ?_;clear C K;refine rD 4 (fun K C=> ?_);go_simp;refine kL C ?_;clear C K;refine dN ?_ _;go_wp2_with fail
     refine bodyPost_ret (v:= .tuple #[.agg #[.bool s8, .slice A8 l8 c8], .agg #[.bool s9, .slice A9 l9 c9], .int .i64 0]) (by simp[results,results111,go_sem,m1,m2,m3,m4]) rfl ?_;exact⟨_,_,rfl,F3.o.below ((Below.refl _ _).drew),F4.o.below ((Below.refl _ _).drew),F5.o.drew⟩
end Go.Proofs.YtokagbahdkfagaaGreatDoor
