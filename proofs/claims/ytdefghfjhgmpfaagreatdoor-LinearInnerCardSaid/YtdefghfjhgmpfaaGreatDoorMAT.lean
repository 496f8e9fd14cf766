/- Parts of this proof: RDivMod RMulW RGcd QCheck. -/
import Derived.Test.YtdefghfjhgmpfaaGreatDoorMAS
import Derived.Test.YtdefghfjhgmpfaaGreatDoorMAI
import Derived.Test.YtdefghfjhgmpfaaGreatDoorMAR
import Derived.Test.YtdefghfjhgmpfaaGreatDoorMAD
namespace Go.Proofs.YtdefghfjhgmpfaaGreatDoor
open Tryz
section
open Go.RowKit
set_option maxHeartbeats 3200000 in
theorem qU(a b:Int)(w:World)(ha:gu a)(hb:gu b)(aX:b≠0):
  Calls prog 96 #[.string (txt a), .string (txt b)] w fun e w'=>e= .returned (.tuple #[.string (txt (Int.fdiv a b)), .string (txt (Int.fmod a b))]) /\ Below w.heap.size w w':=by
 obtain⟨i0,bh,bH,bI,bJ⟩:=info_parts qR;have ab:=lH ha;have aw:=lH hb;have aa:=lH aX;clear ha hb aX;obtain⟨SQ,aH⟩:=eX (txt (Int.fdiv a b));obtain⟨SR,aJ⟩:=eX (txt (Int.fmod a b));rw[<- aH, <- aJ];have aC:=lH aH;have aD:=lH aJ;clear aH aJ;go_enter func96,ntmps96;go_wp2_with fail
 refine(jV a _ ab.o.few.lt).mono ?_;rintro e w2 ⟨v1,rfl,bA,aY⟩;have aT:=lH bA;have aq:=lH aY;clear bA aY;go_wp2_with fail
 refine(jV b _ aw.o.few.lt).mono ?_;rintro e M ⟨v2,rfl,bB,aL⟩;have aE:=lH bB;have aU:=lH (aT.o.below aL);have av:=lH (aq.o.trans (aL.mono aq.o.size));clear bB aL aT aq;have b7:=T.fF a.natAbs;have aO:=ab.o;have ai:=aw.o;unfold gu at aO ai;have bE:=T.fu a.natAbs;have h1:=aU.o;generalize T.ek a.natAbs=G at*;obtain⟨t,ae⟩:=eX (b.natAbs);have b4:0<t:=by have:=aa.o;omega
 rw[<- ae] at ai;have F:=aE.o;rw[<- ae] at F;have aE:=lH F;clear F;obtain⟨A,ca,rfl,_,_,bz⟩:=h1;have c6:=lH bz;have aS:=lH b7;have ad:=lH aO;have a3:=lH ai;have c8:=lH bE;have au:=lH b4;have aR:=lH ae;have cq:G.length <= 4611686018427387000:=oM
 clear bz b7 aO ai bE aU b4 ae
 go_wp2_with (at_make;refine lM _ rfl (.tmp 16) (.tmp 16) 76 rfl 3 i0 (.int .i64 0) underlying76 bh bH bI rfl _ _ G.length rfl rfl rfl rfl (by rw[bJ];have:=ad.o;omega) (by have:=ad.o;unfold maxLen;omega) ?_)
 intro w4 a0 aZ bx;have HR:=lH (gM.made a0);have bM:=lH aZ;have cl:=lH bx;clear a0 aZ bx;go_wp2_with fail
 go_loopw [8,10] (fun rv iv wr=>∃ (j r:Nat) (lo:List Nat),((j:Nat):Int) <= (G.length:Nat) /\ iv= .int .i64 ((j:Int)-1) /\ Hid (iH (M.heap.size+1) wr rv (T.ek r)) /\ Hid (r<t) /\ Hid (gM wr M.heap.size lo) /\ Hid (lo.length=G.length) /\ Hid (T.Dig lo) /\ Hid (T.val (G.drop j)=t*T.val (lo.drop j)+r) /\ Hid (∀m,m<j -> dg lo m=0) /\ Hid (Below M.heap.size M wr)) (fun _ iv _=>(intOf iv+1).toNat)
 case atStart=>
  refine⟨G.length,0,_,by omega,rfl,lH ?_,au,HR,lH List.length_replicate,lH (T.Dig.replicate _),lH ?_,lH (fun m _=>by rw[nG];split <;> rfl),bM⟩
  ·rw[T.gJ];exact iH.nil _ _
  ·rw[List.drop_eq_nil_of_le (Nat.le_refl _),List.drop_eq_nil_of_le (by rw[List.length_replicate];exact Nat.le_refl _)];rfl
 case round=>
  obtain⟨j,r,lo,hj,rfl,bc,a8,a0,a2,b8,bi,bK,a5⟩:=hrel
  rcases j with _ | j
  ·have af:=bi.o;rw[List.drop_zero,List.drop_zero,c8.o] at af
   have bs:T.val lo=a.natAbs / b.natAbs:=by
    rw[af, <- aR.o,Nat.mul_add_div au.o,Nat.div_eq_of_lt a8.o,Nat.add_zero]
   have bw:r=a.natAbs%b.natAbs:=by
    rw[af, <- aR.o,Nat.mul_add_mod,Nat.mod_eq_of_lt a8.o]
   obtain⟨cf,cg,_⟩:=zP a b;have aj:=Gy (a:=a) aa.o;obtain⟨p,hp⟩:∃p,sgI a*sgI b=p:=⟨_,rfl⟩
   have aj:=aj p hp;rw[hp] at cf cg;obtain⟨q0,ak⟩:=eX (sgn (decide (a<0) !=decide (b<0)) (a.natAbs / b.natAbs));obtain⟨r0,am⟩:=eX (sgn (decide (a<0)) (a.natAbs%b.natAbs));have br:=yx a b aa.o q0 r0 ak am;have bF:txt (sgn (decide (p<0)) (T.val lo))=txt q0:=by rw[bs,aj, <- ak]
   have bG:txt (sgn (jM a) r)=txt r0:=by rw[kD,bw, <- am]
   have bb:Few q0:=by
    unfold Few;rw[ak,oN];have h1:=T.iO (Nat.div_le_self a.natAbs b.natAbs);have F:=ab.o;unfold gu at F;omega
   have bd:Few r0:=by
    unfold Few;rw[am,oN];have h1:=T.iO (Nat.mod_le a.natAbs b.natAbs);have F:=ab.o;unfold gu at F;omega
   have bj:=a0.o.isD (n:=G.length) a2.o.symm (by have:=ad.o;unfold maxLen;omega);have c0:=lH bj;have c9:=lH bF;have cb:=lH bG;have aA:=lH br;have bW:=lH bb;have bX:=lH bd
   have a7:(T.ek r).length <= 1099511627776:=by
    have h1:=T.iO (Nat.le_of_lt a8.o);have:=a3.o;omega
   have ay:=lH a7;clear af bs bw aj ak am br bF bG bb bd bj a7;go_wp2_with fail
   refine(iy a _).mono ?_;rintro e Z ⟨rfl,rfl⟩;go_wp2_with fail
   refine(iy b _).mono ?_;rintro e Z ⟨rfl,rfl⟩;go_wp2_with fail
   refine(lX (decide (p<0)) _ lo _ c0.o b8.o (by have:=ad.o;rw[a2.o];omega)).mono ?_;rintro e w6 ⟨rfl,b1⟩;rw[c9.o];have ar:=lH b1;clear b1;go_wp2_with fail
   refine(iy a _).mono ?_;rintro e Z ⟨rfl,rfl⟩;go_wp2_with fail
   refine(lX (jM a) _ (T.ek r) _ (bc.o.isD.below ar.o) (T.fF r) ay.o).mono ?_;rintro e w7 ⟨rfl,b2⟩;rw[T.fu,cb.o];have U:=lH ((av.o.trans (a5.o.mono av.o.size)).trans ((ar.o.trans (b2.mono ar.o.size)).mono (Nat.le_trans av.o.size a5.o.size)));clear b2;by_cases an:r0=0
   ·subst an;have R:=rX aA.o (.inl rfl);have X:txt q0=SQ:=by rw[aC.o,R.1]
    have Y:txt 0=SR:=by rw[aD.o, <- R.2]
    have bm:(txt 0).toList= [48]:=by rw[sU,ByteArray.toList_eq]
    rw[X];rw[Y] at bm ⊢;clear R X Y;go_wp2_with fail
    go_returns;exact⟨rfl,U.o⟩
   ·have bo:=vI an;have bm:¬(txt r0).toList= [48]:=by rw[beq_eq_false_iff_ne] at bo;exact bo
    by_cases hs:sgI r0=sgI b
    ·have ci:(sgI r0 !=sgI b)=false:=by rw[hs];simp
     have a6:decide (r0<0)=decide (b<0):=by rw[<- kD, <- kD];unfold jM;rw[hs]
     have R:=rX aA.o (.inr a6);have X:txt q0=SQ:=by rw[aC.o,R.1]
     have Y:txt r0=SR:=by rw[aD.o, <- R.2]
     have bQ:=lH X;have bR:=lH Y;clear hs a6 R X Y;go_wp2_with fail
     refine(iy r0 _).mono ?_;rintro e Z ⟨rfl,rfl⟩;go_wp2_with fail
     refine(iy b _).mono ?_;rintro e Z ⟨rfl,rfl⟩;go_wp2_with fail
     go_returns;refine⟨?_,U.o⟩;rw[<- bQ.o, <- bR.o];rfl
    ·have ci:(sgI r0 !=sgI b)=true:=by simp[hs]
     have a6:decide (r0<0)≠decide (b<0):=by
      intro h;apply hs;have h1:sgI r0=if r0<0 then -1 else 1:=by unfold sgI;rw[if_neg an]
      have F:sgI b=if b<0 then -1 else 1:=by unfold sgI;rw[if_neg aa.o]
      rw[h1,F];by_cases h3:r0<0
      ·rw[decide_eq_true h3] at h;rw[if_pos h3,if_pos (of_decide_eq_true h.symm)]
      ·rw[decide_eq_false h3] at h;rw[if_neg h3,if_neg (of_decide_eq_false h.symm)]
     have R:=yA aA.o an a6;have X:txt (q0-1)=SQ:=by rw[aC.o,R.1]
     have Y:txt (r0+b)=SR:=by rw[aD.o, <- R.2]
     have aV:(⟨#[49]⟩:ByteArray)=txt 1:=by unfold txt;rw[iW oM];show _=(⟨(Lib.decDigits 1).toArray⟩:ByteArray);rw[Lib.decDigits_one oM];rfl
     have aP:=fun W=>Gs q0 1 W bW.o (by unfold Few;show(T.ek 1).length<_;rw[T.jP oM,show 1 / T.BB=0 from rfl,T.gJ];decide)
     rw[X, <- aV] at aP;have aK:=fun W=>vJ r0 b W bX.o aw.o.few
     rw[Y] at aK;have c5:=lH aP;have bL:=lH aK;clear hs a6 R X Y aV aP aK;go_wp2_with fail
     refine(iy r0 _).mono ?_;rintro e Z ⟨rfl,rfl⟩;go_wp2_with fail
     refine(iy b _).mono ?_;rintro e Z ⟨rfl,rfl⟩;go_wp2_with fail
     refine(c5.o _).mono ?_;rintro e w8 ⟨rfl,a1⟩;have a9:=lH (U.o.trans (a1.mono U.o.size));clear a1;go_wp2_with fail
     refine(bL.o _).mono ?_;rintro e w9 ⟨rfl,b3⟩;have bO:=lH (a9.o.trans (b3.mono a9.o.size));clear b3;go_wp2_with fail
     go_returns;exact⟨rfl,bO.o⟩
  ·obtain⟨wo,rfl⟩:=eX (wr);obtain⟨ba,oa,rfl,cc,b6⟩:=Cells.at_ c6.o oM;have cn:=((fw a5.o).1 ba (oa+j) cc).trans (b6 j oM);have cp:((j:Nat):Int)<(G.length:Nat):=oM
   have co:((dg G j:Nat):Int)<10:=by have:=aS.o j;omega
   have a7:(1+ (T.ek r).length <= maxLen) /\ (1+ (T.ek r).length)*8 <= 140737488355328:=by
    have h1:=T.iO (Nat.le_of_lt a8.o);have F:=a3.o;unfold maxLen;omega
   have ay:=lH a7;have bg:M.heap.size+1 <= wo.heap.size:=by have:=a0.o.lt;omega
   have bZ:=lH bg;clear b6 a7 bg
   go_wp2_with (at_builtin;refine Gv _ rfl (.tmp 29) (.tmp 30) 76 rfl 3 i0 (.int .i64 0) 8 underlying76 bh bH bI bJ rfl (.int .i64 (dg G j:Nat)) rfl _ _ _ bc.o rfl ay.o ?_)
   intro v5 Z bp b0;have bf:=iC.fresh (l:=dg G j::T.ek r) bp;have bY:=lH bf;have aQ:=lH b0;clear bp b0 bf;go_wp2_with fail
   refine(zI _ _ (dg G j::T.ek r) _ bY.o (T.Dig.cons (aS.o j) (T.fF r))).mono ?_;rintro e w6 ⟨v6,rfl,ag,rfl⟩;rw[Gx] at ag;obtain⟨R0,aG⟩:=eX (dg G j+10*r);rw[<- aG] at ag;have bS:=lH (ag.mono bZ.o);have c2:=lH aG;have aW:R0<10*t:=by have:=a8.o;omega
   have aB:=lH aW;have bu:gM Z M.heap.size lo:=a0.o.below aQ.o a0.o.lt;have c3:=lH bu;have bP:=lH (a5.o.trans (aQ.o.mono a5.o.size));clear ag aG aW bu;go_wp2_with fail
   go_loopg [8] R0 (fun g rv wr=>∃ (q E:Nat),Hid (g=E) /\ Hid (t*q+E=R0) /\ Hid (iH (M.heap.size+1) wr rv (T.ek E)) /\ Hid (gM wr M.heap.size (lo.set j q)) /\ Hid (Below M.heap.size M wr))
   case atStart=>
    refine⟨0,R0,lH rfl,lH (by simp),bS,lH ?_,bP⟩
    have e:lo.set j 0=lo:=by
     apply oG (by simp);intro m hm;rw[iB];split
     ·rename_i h;rw[<- h.1];exact(bK.o j oM).symm
     ·rfl
    rw[e];exact c3.o
   case round=>
    obtain⟨q,E,hg,hq,ah,ao,aM⟩:=hrel
    have bl:(T.ek E).length<1000000000:=by
     have h0:E <= 10*t:=by have:=hq.o;have:=aB.o;omega
     have h1:=T.iO h0
     have F:(T.ek (10*t)).length <= (T.ek t).length+1:=by
      refine T.jQ ?_;rw[Nat.pow_succ];have:=T.mI t;rw[Nat.mul_comm,T.ik] at*;omega
     have h3:=a3.o;omega
    have az:=lH bl;have aF:=lH (aE.o.below aM.o);have al:t*q <= R0:=by have:=hq.o;omega
    have ck:=lH al;clear bl al;by_cases aN:t <= E
    ·have ce:(0:Int) <= fM E t:=by unfold fM;split <;> (try split) <;> omega
     have ac:=lH aN;clear aN;go_wp2_with fail
     refine(pE _ _ E t _ ah.o.isD aF.o (Nat.lt_trans az.o dC) (by have:=a3.o;omega)).mono ?_;rintro e w7 ⟨rfl,O⟩;have cj:=lH (O.below wo.heap.size);have be:=ah.o.below (O.below _);have bC:=aF.o.below (O.below _);have bv:=ao.o.below (O.below _) ao.o.lt;have b5:=aM.o.trans (O.below _);have ax:=lH be;have c7:=lH bC;have a4:=lH bv;have U:=lH b5;clear O be bC bv b5;go_wp2_with fail
     refine(zM _ _ E t _ ax.o.isD c7.o (Nat.lt_trans az.o dC) ac.o).mono ?_;rintro e w8 ⟨v8,rfl,b9,a1⟩;have ap:gM w8 M.heap.size (lo.set j q):=a4.o.below a1 a4.o.lt;have bk:j<(lo.set j q).length:=by rw[List.length_set,a2.o];omega
     have cd:=ap.cell bk;have cm:=ap.free j
     have al:q<9:=by
      have h1:=hq.o;have F:=aB.o;have h3:=ac.o
      rcases Nat.lt_or_ge q 9 with h | h
      ·exact h
      ·have:=Nat.mul_le_mul_left t h;omega
     rw[iB,if_pos ⟨rfl,by rw[a2.o];omega⟩] at cd;have cu:((q:Nat):Int)<9:=oM
     have bU:=lH (b9.mono (B':=M.heap.size+1) (by have:=a4.o.lt;omega));have a9:=lH (U.o.trans (a1.mono U.o.size));have c4:=lH ap;clear b9 a1 ap bk al;go_wp2_with fail
     go_roundg (E-t)
     case measure=>rw[hg.o];have:=ac.o;have:=au.o;omega
     case rel=>
      refine⟨q+1,E-t,lH rfl,lH ?_,lH (bU.o.set oM),lH ?_,lH (a9.o.setCell (Nat.le_refl _) _)⟩
      ·have:=hq.o;have:=ac.o;rw[Nat.mul_add];omega
      ·have:=c4.o.set j (q+1) (v:= .int .i64 (((q:Nat):Int)+1)) (by simp);rw[List.set_set] at this;exact this
    ·have ce:fM E t<(0:Int):=by unfold fM;split <;> (try split) <;> omega
     have ct:decide ((0:Int) <= fM E t)=false:=decide_eq_false oM;have c1:Hid (E<t):=lH oM;clear aN;go_wp2_with fail
     refine(pE _ _ E t _ ah.o.isD aF.o (Nat.lt_trans az.o dC) (by have:=a3.o;omega)).mono ?_;rintro e w7 ⟨rfl,O⟩;have ax:=lH (ah.o.below (O.below _));have a4:=lH (ao.o.below (O.below _) ao.o.lt);have U:=lH (aM.o.trans (O.below _));clear O;go_wp2_with fail
     go_roundw
     case rel=>
      have ch:q<10:=by
       have h1:=hq.o;have F:=aB.o
       rcases Nat.lt_or_ge q 10 with h | h
       ·exact h
       ·have:=Nat.mul_le_mul_left t h;omega
      refine⟨j,E,lo.set j q,by omega,by first | rfl | (congr 1;omega),ax,c1,a4,lH (by rw[List.length_set];exact a2.o),lH (b8.o.set _ _ ch),lH (Gw oM a2.o bi.o (by rw[hq.o];exact c2.o)),lH (fun m hm=>by rw[iB,if_neg oM];exact bK.o m oM),U⟩
     case measure=>exact mZ
end
section
open Go.RowKit
set_option maxHeartbeats 1600000 in
theorem o8(a b:Int)(w:World)(ha:gu a)(hb:gu b):
  Calls prog 72 #[.string (txt a), .string (txt b)] w fun e w'=>e= .returned (.string (txt (a*b))) /\ Below w.heap.size w w':=by
 obtain⟨i0,b7,bc,bd,be⟩:=info_parts qR;have aj:=lH ha;have ak:=lH hb;clear ha hb;obtain⟨S,hS⟩:=eX (txt (a*b));rw[<- hS];have HS:=lH hS;clear hS;go_enter func72,ntmps72;go_wp2_with fail
 refine(jV a _ aj.o.few.lt).mono ?_;rintro e w2 ⟨v1,rfl,aJ,ap⟩;have am:=lH aJ;have a2:=lH ap;clear aJ ap;go_wp2_with fail
 refine(jV b _ ak.o.few.lt).mono ?_;rintro e M ⟨v2,rfl,aK,a5⟩;have ao:=lH aK;have an:=lH (am.o.below a5);have a3:=lH (a2.o.trans (a5.mono a2.o.size));clear aK a5 am a2;have ax:=T.fF a.natAbs;have ay:=T.fF b.natAbs;have aa:=aj.o;have ab:=ak.o;unfold gu at aa ab;have aL:=T.fu a.natAbs;have aN:=T.fu b.natAbs;have h1:=an.o;have h2:=ao.o;generalize T.ek a.natAbs=t at*;generalize T.ek b.natAbs=lb at*;obtain⟨A,ca,rfl,_,_,aG⟩:=h1;obtain⟨B,cb,rfl,_,_,aH⟩:=h2;have aX:=lH aG;have aY:=lH aH;have ah:=lH ax;have ai:=lH ay;have Y:=lH aa;have Z:=lH ab;have aZ:=lH aL;have b0:=lH aN;have bo:t.length <= 4611686018427387000:=oM
 have bp:lb.length <= 4611686018427387000:=oM
 clear aG aH ax ay aa ab aL aN an ao
 go_wp2_with (at_make;refine lM _ rfl (.tmp 21) (.tmp 21) 76 rfl 3 i0 (.int .i64 0) underlying76 b7 bc bd rfl _ _ (t.length+lb.length+1) rfl rfl (by push_cast;rfl) (by push_cast;rfl) (by rw[be];have:=Y.o;have:=Z.o;omega) (by have:=Y.o;have:=Z.o;unfold maxLen;omega) ?_)
 intro w4 U aq aE;have HR:=lH (gM.made U);have aP:=lH aq;have bg:=lH aE;clear U aq aE;go_wp2_with fail
 go_loopw [8] (fun iv wr=>∃ (i:Nat) (lo:List Nat),((i:Nat):Int) <= (t.length:Nat) /\ iv= .int .i64 i /\ Hid (gM wr M.heap.size lo) /\ Hid (lo.length=t.length+lb.length+1) /\ Hid (T.Dig lo) /\ Hid (T.val lo=T.val (t.take i)*T.val lb) /\ Hid (Below M.heap.size M wr)) (fun iv _=>t.length-(intOf iv).toNat)
 case atStart=>exact⟨0,_,by omega,rfl,HR,lH List.length_replicate,lH (T.Dig.replicate _),lH (by rw[T.uw];simp[T.val]),aP⟩
 case round=>
  obtain⟨i,lo,hi,rfl,U,ac,az,ag,a6⟩:=hrel;by_cases bm:((i:Nat):Int)<(t.length:Nat)
  ·obtain⟨wo,rfl⟩:=eX (wr);obtain⟨ba,oa,rfl,b2,au⟩:=Cells.at_ aX.o oM;have aR:=lH au;have bu:((dg t i:Nat):Int)<10:=by have:=ah.o i;omega
   clear au;go_wp2_with fail
   go_loopw [9,10] (fun cv kv wr=>∃ (k c:Nat) (E:List Nat),((k:Nat):Int) <= (lb.length:Nat)+1 /\ cv= .int .i64 c /\ kv= .int .i64 k /\ Hid (gM wr M.heap.size E) /\ Hid (E.length=t.length+lb.length+1) /\ Hid (T.Dig E) /\ ((c:Nat):Int) <= 9 /\ Hid (lb.length<k -> c=0) /\ Hid (T.val E+T.BB^ (i+k)*c=T.val lo+T.BB^i* (dg t i*T.val (lb.take k))) /\ Hid (∀j,i+k <= j -> dg E j=dg lo j) /\ Hid (Below M.heap.size M wr)) (fun _ kv _=>lb.length+1-(intOf kv).toNat)
   case atStart=>exact⟨0,0,lo,by omega,rfl,rfl,U,ac,az,by omega,lH (fun _=>rfl),lH (by simp[T.val]),lH (fun _ _=>rfl),a6⟩
   case round=>
    obtain⟨k,c,E,hk,rfl,rfl,G,R,a1,bh,b5,a8,af,O⟩:=hrel;have ad:i+k<E.length \/ ¬(i+k<E.length):=oM
    by_cases aC:((k:Nat):Int)<(lb.length:Nat)
    ·obtain⟨bb,ob,rfl,b3,av⟩:=Cells.at_ aY.o oM;have bk:=((fw O.o).1 ba (oa+i) b2).trans (aR.o i oM);have bl:=((fw O.o).1 bb (ob+k) b3).trans (av k oM);have F:i+k<E.length:=by have:=R.o;omega
     have aw:=G.o.cell F;have b4:=G.o.free (i+k);have bv:((dg lb k:Nat):Int)<10:=by have:=ai.o k;omega
     have br:((dg E (i+k):Nat):Int)<10:=by have:=a1.o (i+k);omega
     obtain⟨p,hp⟩:∃p:Nat,((dg t i:Nat):Int)* ((dg lb k:Nat):Int)=(p:Nat):=⟨dg t i*dg lb k,by push_cast;rfl⟩
     have aD:p=dg t i*dg lb k:=by have:=hp;exact_mod_cast this.symm
     have bs:((p:Nat):Int) <= 81:=by
      have h1:dg t i*dg lb k <= 9*9:=Nat.mul_le_mul oM oM;omega
     have aW:=lH aD;have a4:=lH F;clear av ad F aD;go_wp2_with fail
     go_quiet (fail)
     go_wp2_with fail
     go_roundw
     case rel=>
      obtain⟨s,hs⟩:=eX (dg E (i+k)+c+p);have aF:((dg E (i+k):Nat):Int)+ (c:Nat)+ (p:Nat)=(s:Nat):=oM
      have X:=zO (lo:=lo) (lb:=lb) (V:=T.val lo) (x:=dg t i) (s:=s) a4.o a8.o (by rw[hs,aW.o]) af.o;refine⟨k+1,s / 10,E.set (i+k) (s%10),by omega,?_,by simp,lH ((G.o.drewN _).set (i+k) (s%10) ?_),lH (by rw[List.length_set];exact R.o),lH (a1.o.set _ _ (Nat.mod_lt _ dC)),by omega,lH (fun h=>by omega),lH X.1,lH X.2,lH ((O.o.trans (below_drewN _ _ _)).setCell (Nat.le_refl _) _)⟩
      ·rw[aF];congr 1
      ·rw[aF];congr 1
     case measure=>simp[intOf];omega
    ·have bn:((lb.length:Nat):Int) <= (k:Nat):=oM
     by_cases a0:c=0
     ·subst a0
      have aM:T.val E=T.val (t.take (i+1))*T.val lb:=by
       have:=a8.o;rw[Nat.mul_zero,Nat.add_zero,T.iF oM,ag.o] at this;rw[this,T.ib,Nat.add_mul,Nat.mul_assoc]
      have HV:=lH aM;have b6:decide (k<lb.length)=false:=decide_eq_false oM;clear aC ad aM;go_wp2_with fail
      go_roundw
      case rel=>exact⟨i+1,E,by omega,by go_num,G,R,a1,HV,O⟩
      case measure=>simp[intOf];omega
     ·have a9:k=lb.length:=by
       rcases Nat.lt_or_ge lb.length k with h | h
       ·exact absurd (b5.o h) a0
       ·omega
      have F:i+k<E.length:=by have:=R.o;omega
      have a7:dg E (i+k)=0:=by
       rw[af.o (i+k) (Nat.le_refl _),a9];refine Gt (n:=i+lb.length) ?_ (Nat.le_refl _);rw[ag.o,Nat.pow_add];have h1:=T.jO (T.Dig.take ah.o i);rw[List.length_take,Nat.min_eq_left oM] at h1;have h2:=T.jO ai.o;exact Nat.mul_lt_mul'' h1 h2
      have aw:=G.o.cell F;have b4:=G.o.free (i+k);rw[a7] at aw;have aO:dg lb k=0:=jm oM;have bj:(0:Int)<((c:Nat):Int):=oM
      have bi:decide (0<c)=true:=decide_eq_true oM;have b6:decide (k<lb.length)=false:=decide_eq_false oM;have a4:=lH F;have aS:=lH a7;have b1:=lH aO;have al:=lH a9;have bf:=lH a0;clear aC ad a7 aO a9 a0 F;go_wp2_with fail
      go_roundw
      case rel=>
       have X:=zO (lo:=lo) (lb:=lb) (V:=T.val lo) (x:=dg t i) (s:=c) a4.o a8.o (by rw[aS.o,b1.o];omega) af.o;refine⟨k+1,c / 10,E.set (i+k) (c%10),by have:=al.o;omega,by simp,by simp,lH (G.o.set (i+k) (c%10) (by simp)),lH (by rw[List.length_set];exact R.o),lH (a1.o.set _ _ (Nat.mod_lt _ dC)),by omega,lH (fun h=>by omega),lH X.1,lH X.2,lH (O.o.setCell (Nat.le_refl _) _)⟩
      case measure=>have:=al.o;simp[intOf];omega
  ·have aA:T.val lo=a.natAbs*b.natAbs:=by
    have:=ag.o;rw[T.iF oM,aZ.o,b0.o] at this;exact this
   have aT:=lH aA;clear aA;obtain⟨b8,b9,ae⟩:=zP a b;obtain⟨p,hp⟩:∃p,sgI a*sgI b=p:=⟨_,rfl⟩
   rw[hp] at b8 b9 ae;have aV:=lH ae;have aB:=U.o.isD (n:=t.length+lb.length+1) ac.o.symm (by have:=Y.o;have:=Z.o;unfold maxLen;omega);have aU:=lH aB;clear ae aB;go_wp2_with fail
   refine(iy a _).mono ?_;rintro e w5 ⟨rfl,rfl⟩;go_wp2_with fail
   refine(iy b _).mono ?_;rintro e w5 ⟨rfl,rfl⟩;go_wp2_with fail
   refine(lX (decide (p<0)) _ lo _ aU.o az.o (by have:=Y.o;have:=Z.o;rw[ac.o];omega)).mono ?_;rintro e w6 ⟨rfl,ar⟩;have aQ:=lH ((a3.o.trans (a6.o.mono a3.o.size)).trans (ar.mono (Nat.le_trans a3.o.size a6.o.size)));rw[tH HS.o (by rw[aT.o];exact aV.o)];clear ar;go_wp2_with fail
   go_returns;exact⟨rfl,aQ.o⟩
end
section
open Go.RowKit
theorem zQ(a:Int):txt (sgn false (T.val (T.ek a.natAbs)))=txt (a.natAbs:Nat):=by rw[T.fu];rfl
theorem zR{a:Int}(h:gu a):gu (a.natAbs:Nat):=by unfold gu at*;rw[Int.natAbs_natCast];exact h
theorem vK{a:Int}{n:Nat}(h:gu a)(t:n <= a.natAbs):gu (n:Nat):=by
 unfold gu at*;rw[Int.natAbs_natCast];exact Nat.lt_of_le_of_lt (T.iO t) h
set_option maxHeartbeats 800000 in
theorem pF(a b:Int)(w:World)(Z:gu a)(hb:gu b):
  Calls prog 95 #[.string (txt a), .string (txt b)] w fun e w'=>e= .returned (.string (txt (Nat.gcd a.natAbs b.natAbs:Nat))) /\ Below w.heap.size w w':=by
 have E:=lH Z;have F:=lH hb;clear Z hb;obtain⟨S,G⟩:=eX (txt (Nat.gcd a.natAbs b.natAbs:Nat));rw[<- G];have HS:=lH G;clear G;go_enter func95,ntmps95;go_wp2_with fail
 refine(jV a _ E.o.few.lt).mono ?_;rintro e w2 ⟨v1,rfl,a7,a0⟩;have ac:=lH a7;have U:=lH a0;clear a7 a0;go_wp2_with fail
 refine(lX false _ _ _ ac.o (T.fF _) E.o.few.le).mono ?_;rintro e w3 ⟨rfl,a1⟩;rw[zQ];have X:=lH (U.o.trans (a1.mono U.o.size));clear a1;go_wp2_with fail
 refine(jV b _ F.o.few.lt).mono ?_;rintro e w4 ⟨v2,rfl,a8,a2⟩;have ad:=lH a8;have Y:=lH (X.o.trans (a2.mono X.o.size));clear a8 a2;go_wp2_with fail
 refine(lX false _ _ _ ad.o (T.fF _) F.o.few.le).mono ?_;rintro e w5 ⟨rfl,a3⟩;rw[zQ];have aa:=lH (Y.o.trans (a3.mono Y.o.size));clear a3;go_wp2_with fail
 go_loopg [5,6] b.natAbs (fun g xv yv wr=>∃x y:Nat,xv= .string (txt (x:Nat)) /\ yv= .string (txt (y:Nat)) /\ Hid (g=y) /\ Hid (Nat.gcd x y=Nat.gcd a.natAbs b.natAbs) /\ Hid (gu (x:Nat)) /\ Hid (gu (y:Nat)) /\ Hid (Below w.heap.size w wr))
 case atStart=>exact⟨a.natAbs,b.natAbs,rfl,rfl,lH rfl,lH rfl,lH (zR E.o),lH (zR F.o),aa⟩
 case round=>
  obtain⟨x,y,rfl,rfl,hg,a5,af,O,M⟩:=hrel;by_cases hy:y=0
  ·subst hy
   have a9:txt (x:Nat)=S:=by
    rw[HS.o, <- a5.o,Nat.gcd_zero_right]
   have t:(txt ((0:Nat):Int)).toList= [48]:=by rw[show((0:Nat):Int)=0 from rfl,sU,ByteArray.toList_eq]
   have h:((txt ((0:Nat):Int)).toList== [48])=true:=by rw[t];rfl
   have ag:((txt (0:Int)).toList== [48])=true:=h;have ah:(txt (0:Int)).toList= [48]:=t;rw[a9];clear a9 t h;go_wp2_with fail
   go_returns;exact⟨rfl,M.o⟩
  ·have R:((y:Nat):Int)≠0:=oM
   have h:=vI R;have t:¬(txt ((y:Nat):Int)).toList= [48]:=by rw[beq_eq_false_iff_ne] at h;exact h
   have ae:=lH R;clear R;go_wp2_with fail
   refine(qU x y _ af.o O.o ae.o).mono ?_;rintro e w6 ⟨rfl,a4⟩;have ab:=lH (M.o.trans (a4.mono M.o.size));have a6:Int.fmod (x:Nat) (y:Nat)=((x%y:Nat):Int):=by rw[Int.fmod_eq_emod_of_nonneg _ oM];rfl
   rw[a6];clear a4 a6;go_wp2_with fail
   go_roundg (x%y)
   case measure=>rw[hg.o];exact Nat.mod_lt _ oM
   case rel=>
    refine⟨y,x%y,rfl,rfl,lH rfl,lH ?_,O,lH ?_,ab⟩
    ·rw[<- a5.o,Nat.gcd_comm x y,Nat.gcd_rec y x,Nat.gcd_comm]
    ·exact vK O.o (by rw[Int.natAbs_natCast];exact Nat.le_of_lt (Nat.mod_lt _ oM))
end
section
open Go.RowKit
theorem lY{a b:ByteArray}(h:a.data.toList=b.data.toList):a=b:=by
 cases a with
 | mk t=>
  cases b with
  | mk E=>
   congr 1;exact Array.toList_inj.1 h
set_option maxHeartbeats 1600000 in
theorem zS(s:ByteArray)(w:World)(O:s.size <= 1000000000):Calls prog 58 #[.string s] w fun e w'=>∃a b,e= .returned (.tuple #[.string a, .string b]) /\ a.data.toList=eH s.data.toList /\ b.data.toList=fQ s.data.toList /\ Below w.heap.size w w':=by
 obtain⟨k,M⟩:=eX ((eH s.data.toList).length)
 have a3:k <= s.size:=by
  have h1:=congrArg List.length (jo s.data.toList);rw[List.length_append,gz] at h1;omega
 have h:=lH M;have U:=lH O;have R:=lH ((zB s w O));rw[<- M] at R;clear M O;go_enter func58,ntmps58;go_wp2_with fail
 refine R.o.mono ?_;rintro e w' ⟨rfl,rfl⟩;clear R;by_cases G:k=s.size
 ·have E:Hid (eH s.data.toList=s.data.toList /\ fQ s.data.toList= [49]):=lH (by
   have h1:=congrArg List.length (jo s.data.toList);rw[List.length_append,gz, <- h.o] at h1;have t:fG s.data.toList= []:=List.eq_nil_of_length_eq_zero oM
   exact⟨qo t,by unfold fQ;rw[if_pos t]⟩)
  have a0:((k:Nat):Int)=((s.size:Nat):Int):=oM
  have Z:(((k:Nat):Int)== ((s.size:Nat):Int))=true:=by rw[beq_iff_eq];omega
  clear h;subst G;go_wp2_with fail
  go_returns;exact⟨_,_,rfl,E.o.1.symm,E.o.2.symm,Below.refl _ _⟩
 ·have E:Hid (eH s.data.toList=s.data.toList.take k /\ fQ s.data.toList=s.data.toList.drop (k+1)):=lH (by
   have h1:=congrArg List.length (jo s.data.toList);rw[List.length_append,gz, <- h.o] at h1;have t:fG s.data.toList≠ []:=fun e=>by rw[e] at h1;simp at h1;exact G h1
   have X:=rM t;obtain⟨a,F⟩:=eX (eH s.data.toList);obtain⟨b,T⟩:=eX (fJ s.data.toList);have Y:k=a.length:=by rw[F];exact h.o
   unfold fQ;rw[if_neg t, <- F, <- T,X, <- F, <- T,Y]
   exact⟨by simp,by simp⟩)
  have Z:(((k:Nat):Int)== ((s.size:Nat):Int))=false:=by rw[beq_eq_false_iff_ne];omega
  have a0:¬((k:Nat):Int)=((s.size:Nat):Int):=oM
  have a2:((k:Nat):Int)+1 <= ((s.size:Nat):Int):=oM
  have a1:((k:Nat):Int) <= ((s.size:Nat):Int):=oM
  have a4:((s.size:Nat):Int) <= 1000000000:=by have:=U.o;omega
  clear h G;go_wp2_with fail
  go_region
  go_wp2_with fail
  go_returns;refine⟨_,_,rfl,?_,?_,(Below.refl _ _).drew⟩
  ·rw[qm,E.o.1];rfl
  ·rw[qm,E.o.2,List.take_of_length_le (by rw[gz];exact Nat.le_refl _)]
theorem lJ{s:ByteArray}{a:Int}(h:s.data.toList=Lib.itoa a):s=txt a:=lY (by rw[h,jS])
theorem iq(l:List UInt8):fK l=if dgs (body (eH l))=false \/ dgs (fQ l)=false then 14 else if(fQ l).all (· ==48)=true then 19 else
  if(1<(body (eH l)).length /\ (body (eH l)).head? =some 48) \/ eH l= [45,48] \/ (fQ l).head? =some 48 then 3 else
  if fG l≠ [] /\ (fQ l= [49] \/ Nat.gcd (dv (body (eH l))) (dv (fQ l))≠1) then 3 else 0:=by
 have a0:∀a:List UInt8,dgs (body a)=true -> (chk a=3↔(1<(body a).length /\ (body a).head? =some 48) \/ a= [45,48]):=by
  intro a ha;have h0:=oV ha;unfold chk;rw[if_neg (fun e=>h0 (.inl e)),if_neg (fun e=>h0 (.inr e))];by_cases h:(body a).head? =some 48
  ·by_cases G:1<(body a).length
   ·rw[if_pos ⟨h, .inl G⟩];simp[G,h]
   ·by_cases M: a.head? =some 45
    ·rw[if_pos ⟨h, .inr M⟩];simp only[G,false_and,false_or,true_iff];cases a with
     | nil=>cases M
     | cons c a=>
      obtain rfl:c=45:=by simpa using M
      have O:body (45::a)=a:=by unfold body;simp
      rw[O] at h G;cases a with
      | nil=>cases h
      | cons d a=>
       obtain rfl:d=48:=by simpa using h
       have:a= []:=List.eq_nil_of_length_eq_zero (by simp only[List.length_cons] at G;omega);rw[this]
    ·rw[if_neg (fun e=>e.2.elim G M)];simp only[G,false_and,false_or];refine⟨fun e=>by omega,fun e=> ?_⟩;rw[e] at M;simp at M
  ·rw[if_neg (fun e=>h e.1)];refine⟨fun e=>by omega,fun e=> ?_⟩
   rcases e with e | e
   ·exact absurd e.2 h
   ·rw[e] at h;simp[body] at h
 by_cases F:dgs (body (eH l))=true
 ·have k:=a0 _ F;have kd:=nN F;by_cases E:fG l= []
  ·have R:fQ l= [49]:=by unfold fQ;rw[if_pos E]
   rw[R,uO E,if_neg (by rw[F];simp;decide),if_neg dC,if_neg (c:=fG l≠ [] /\ _) (fun e=>e.1 E)];by_cases t:chk (eH l)=3
   ·rw[t,if_pos]
    rcases k.1 t with e | e
    ·exact .inl e
    ·exact .inr (.inl e)
   ·rw[if_neg]
    ·rcases kd with e | e
     ·exact e
     ·exact absurd e t
    ·rintro(e | e | e)
     ·exact t (k.2 (.inl e))
     ·exact t (k.2 (.inr e))
     ·simp at e
  ·have R:fQ l=fJ l:=by unfold fQ;rw[if_neg E]
   rw[R];by_cases O:dgs (fJ l)=true
   ·rw[if_neg (by rw[F,O];simp)];by_cases T:(fJ l).all (· ==48)=true
    ·rw[if_pos T];exact y5 F E O T
    ·have Y:(fJ l).all (· ==48)=false:=by simpa using T
     rw[if_neg (by rw[Y];simp)];unfold fK;rw[if_neg E,if_neg (fun e=>e.elim (qx F) (oV O)),if_neg (by rw[Y];simp)];by_cases t:chk (eH l)=3
     ·rw[if_pos (.inl t)]
      rcases k.1 t with e | e
      ·rw[if_pos (.inl e)]
      ·rw[if_pos (.inr (.inl e))]
     ·have Z:=fun e=>t (k.2 e)
      by_cases h:(fJ l).head? =some 48
      ·rw[if_pos (.inr (.inl h)),if_pos (.inr (.inr h))]
      ·rw[if_neg (c:=_ \/ eH l= [45,48] \/ _) (by rintro(e | e | e);exact Z (.inl e);exact Z (.inr e);exact h e)];by_cases h1:fJ l= [49] \/ Nat.gcd (dv (body (eH l))) (dv (fJ l))≠1
       ·rw[if_pos (.inr (.inr h1)),if_pos ⟨E,h1⟩]
       ·rw[if_neg (by rintro(e | e | e);exact t e;exact h e;exact h1 e),if_neg (fun e=>h1 e.2)]
   ·have X:dgs (fJ l)=false:=by simpa using O
    rw[if_pos (.inr X)];exact qy (.inr ⟨E,X⟩)
 ·have U:dgs (body (eH l))=false:=by simpa using F
  rw[if_pos (.inl U)];exact qy (.inl U)
end
end Go.Proofs.YtdefghfjhgmpfaaGreatDoor
