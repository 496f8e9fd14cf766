/- Parts of this proof: RDivMod RMulW RGcd QCheck. -/
import Derived.Test.YtdefghfjhgmpfaaGreatDoorMAS
import Derived.Test.YtdefghfjhgmpfaaGreatDoorMAI
import Derived.Test.YtdefghfjhgmpfaaGreatDoorMAR
import Derived.Test.YtdefghfjhgmpfaaGreatDoorMAD
namespace Go.Proofs.YtdefghfjhgmpfaaGreatDoor
open Tryz
section
open Go.RowKit
set_option maxHeartbeats 3200000 in
theorem qU(a b:Int)(w:World)(ha:gu a)(hb:gu b)(aW:b≠0):
  Calls prog 96 #[.string (txt a), .string (txt b)] w fun e w'=>e= .returned (.tuple #[.string (txt (Int.fdiv a b)), .string (txt (Int.fmod a b))]) /\ Below w.heap.size w w':=by
 obtain⟨i0,bg,bF,bG,bH⟩:=info_parts qR;have aa:=lH ha;have av:=lH hb;have a9:=lH aW;clear ha hb aW;obtain⟨SQ,aG⟩:=eX (txt (Int.fdiv a b));obtain⟨SR,aH⟩:=eX (txt (Int.fmod a b));rw[<- aG, <- aH];have aB:=lH aG;have aC:=lH aH;clear aG aH;go_enter func96,ntmps96;go_wp2_with fail
 refine(jV a _ aa.o.few.lt).mono ?_;rintro e w2 ⟨v1,rfl,bx,aX⟩;have aS:=lH bx;have ap:=lH aX;clear bx aX;go_wp2_with fail
 refine(jV b _ av.o.few.lt).mono ?_;rintro e M ⟨v2,rfl,bz,aK⟩;have aD:=lH bz;have aT:=lH (aS.o.below aK);have au:=lH (ap.o.trans (aK.mono ap.o.size));clear bz aK aS ap;have b6:=T.fF a.natAbs;have aN:=aa.o;have ah:=av.o;unfold gu at aN ah;have bB:=T.fu a.natAbs;have h1:=aT.o;generalize T.ek a.natAbs=G at*;obtain⟨t,ad⟩:=eX (b.natAbs);have b3:0<t:=by have:=a9.o;omega
 rw[<- ad] at ah;have F:=aD.o;rw[<- ad] at F;have aD:=lH F;clear F;obtain⟨A,ca,rfl,_,_,bw⟩:=h1;have c4:=lH bw;have aR:=lH b6;have ac:=lH aN;have a2:=lH ah;have c6:=lH bB;have ar:=lH b3;have aQ:=lH ad;have co:G.length <= 4611686018427387000:=oM
 clear bw b6 aN ah bB aT b3 ad
 go_wp2_with (at_make;refine lM _ rfl (.tmp 16) (.tmp 16) 76 rfl 3 i0 (.int .i64 0) underlying76 bg bF bG rfl _ _ G.length rfl rfl rfl rfl (by rw[bH];have:=ac.o;omega) (by have:=ac.o;unfold maxLen;omega) ?_)
 intro w4 Z aY bv;have HR:=lH (gM.made Z);have bK:=lH aY;have cj:=lH bv;clear Z aY bv;go_wp2_with fail
 go_loopw [8,10] (fun rv iv wr=>∃ (j r:Nat) (lo:List Nat),((j:Nat):Int) <= (G.length:Nat) /\ iv= .int .i64 ((j:Int)-1) /\ Hid (iH (M.heap.size+1) wr rv (T.ek r)) /\ Hid (r<t) /\ Hid (gM wr M.heap.size lo) /\ Hid (lo.length=G.length) /\ Hid (T.Dig lo) /\ Hid (T.val (G.drop j)=t*T.val (lo.drop j)+r) /\ Hid (∀m,m<j -> dg lo m=0) /\ Hid (Below M.heap.size M wr)) (fun _ iv _=>(intOf iv+1).toNat)
 case atStart=>
  refine⟨G.length,0,_,by omega,rfl,lH ?_,ar,HR,lH List.length_replicate,lH (T.Dig.replicate _),lH ?_,lH (fun m _=>by rw[nG];split <;> rfl),bK⟩
  ·rw[T.gJ];exact iH.nil _ _
  ·rw[List.drop_eq_nil_of_le (Nat.le_refl _),List.drop_eq_nil_of_le (by rw[List.length_replicate];exact Nat.le_refl _)];rfl
 case round=>
  obtain⟨j,r,lo,hj,rfl,bb,a7,Z,a1,b7,bh,bI,a4⟩:=hrel
  rcases j with _ | j
  ·have ae:=bh.o;rw[List.drop_zero,List.drop_zero,c6.o] at ae
   have bq:T.val lo=a.natAbs / b.natAbs:=by
    rw[ae, <- aQ.o,Nat.mul_add_div ar.o,Nat.div_eq_of_lt a7.o,Nat.add_zero]
   have bu:r=a.natAbs%b.natAbs:=by
    rw[ae, <- aQ.o,Nat.mul_add_mod,Nat.mod_eq_of_lt a7.o]
   obtain⟨cd,ce,_⟩:=zP a b;have ai:=Gy (a:=a) a9.o;obtain⟨p,hp⟩:∃p,sgI a*sgI b=p:=⟨_,rfl⟩
   have ai:=ai p hp;rw[hp] at cd ce;obtain⟨q0,aj⟩:=eX (sgn (decide (a<0) !=decide (b<0)) (a.natAbs / b.natAbs));obtain⟨C,al⟩:=eX (sgn (decide (a<0)) (a.natAbs%b.natAbs));have bp:=yx a b a9.o q0 C aj al;have bC:txt (sgn (decide (p<0)) (T.val lo))=txt q0:=by rw[bq,ai, <- aj]
   have bE:txt (sgn (jM a) r)=txt C:=by rw[kD,bu, <- al]
   have b9:Few q0:=by
    unfold Few;rw[aj,oN];have h1:=T.iO (Nat.div_le_self a.natAbs b.natAbs);have F:=aa.o;unfold gu at F;omega
   have bc:Few C:=by
    unfold Few;rw[al,oN];have h1:=T.iO (Nat.mod_le a.natAbs b.natAbs);have F:=aa.o;unfold gu at F;omega
   have bi:=Z.o.isD (n:=G.length) a1.o.symm (by have:=ac.o;unfold maxLen;omega);have bY:=lH bi;have c7:=lH bC;have c8:=lH bE;have az:=lH bp;have bS:=lH b9;have bU:=lH bc
   have a6:(T.ek r).length <= 1099511627776:=by
    have h1:=T.iO (Nat.le_of_lt a7.o);have:=a2.o;omega
   have ax:=lH a6;clear ae bq bu ai aj al bp bC bE b9 bc bi a6;go_wp2_with fail
   refine(iy a _).mono ?_;rintro e Y ⟨rfl,rfl⟩;go_wp2_with fail
   refine(iy b _).mono ?_;rintro e Y ⟨rfl,rfl⟩;go_wp2_with fail
   refine(lX (decide (p<0)) _ lo _ bY.o b7.o (by have:=ac.o;rw[a1.o];omega)).mono ?_;rintro e w6 ⟨rfl,b0⟩;rw[c7.o];have aq:=lH b0;clear b0;go_wp2_with fail
   refine(iy a _).mono ?_;rintro e Y ⟨rfl,rfl⟩;go_wp2_with fail
   refine(lX (jM a) _ (T.ek r) _ (bb.o.isD.below aq.o) (T.fF r) ax.o).mono ?_;rintro e w7 ⟨rfl,b1⟩;rw[T.fu,c8.o];have U:=lH ((au.o.trans (a4.o.mono au.o.size)).trans ((aq.o.trans (b1.mono aq.o.size)).mono (Nat.le_trans au.o.size a4.o.size)));clear b1;by_cases am:C=0
   ·subst am;have R:=rX az.o (.inl rfl);have V:txt q0=SQ:=by rw[aB.o,R.1]
    have X:txt 0=SR:=by rw[aC.o, <- R.2]
    have bl:(txt 0).toList= [48]:=by rw[sU,ByteArray.toList_eq]
    rw[V];rw[X] at bl ⊢;clear R V X;go_wp2_with fail
    go_returns;exact⟨rfl,U.o⟩
   ·have bm:=vI am;have bl:¬(txt C).toList= [48]:=by rw[beq_eq_false_iff_ne] at bm;exact bm
    by_cases hs:sgI C=sgI b
    ·have cg:(sgI C !=sgI b)=false:=by rw[hs];simp
     have a5:decide (C<0)=decide (b<0):=by rw[<- kD, <- kD];unfold jM;rw[hs]
     have R:=rX az.o (.inr a5);have V:txt q0=SQ:=by rw[aB.o,R.1]
     have X:txt C=SR:=by rw[aC.o, <- R.2]
     have bO:=lH V;have bP:=lH X;clear hs a5 R V X;go_wp2_with fail
     refine(iy C _).mono ?_;rintro e Y ⟨rfl,rfl⟩;go_wp2_with fail
     refine(iy b _).mono ?_;rintro e Y ⟨rfl,rfl⟩;go_wp2_with fail
     go_returns;refine⟨?_,U.o⟩;rw[<- bO.o, <- bP.o];rfl
    ·have cg:(sgI C !=sgI b)=true:=by simp[hs]
     have a5:decide (C<0)≠decide (b<0):=by
      intro h;apply hs;have h1:sgI C=if C<0 then -1 else 1:=by unfold sgI;rw[if_neg am]
      have F:sgI b=if b<0 then -1 else 1:=by unfold sgI;rw[if_neg a9.o]
      rw[h1,F];by_cases h3:C<0
      ·rw[decide_eq_true h3] at h;rw[if_pos h3,if_pos (of_decide_eq_true h.symm)]
      ·rw[decide_eq_false h3] at h;rw[if_neg h3,if_neg (of_decide_eq_false h.symm)]
     have R:=yA az.o am a5;have V:txt (q0-1)=SQ:=by rw[aB.o,R.1]
     have X:txt (C+b)=SR:=by rw[aC.o, <- R.2]
     have aU:(⟨#[49]⟩:ByteArray)=txt 1:=by unfold txt;rw[iW oM];show _=(⟨(Lib.decDigits 1).toArray⟩:ByteArray);rw[Lib.decDigits_one oM];rfl
     have aO:=fun W=>Gs q0 1 W bS.o (by unfold Few;show(T.ek 1).length<_;rw[T.jP oM,show 1 / T.BB=0 from rfl,T.gJ];decide)
     rw[V, <- aU] at aO;have aJ:=fun W=>vJ C b W bU.o av.o.few
     rw[X] at aJ;have c3:=lH aO;have bJ:=lH aJ;clear hs a5 R V X aU aO aJ;go_wp2_with fail
     refine(iy C _).mono ?_;rintro e Y ⟨rfl,rfl⟩;go_wp2_with fail
     refine(iy b _).mono ?_;rintro e Y ⟨rfl,rfl⟩;go_wp2_with fail
     refine(c3.o _).mono ?_;rintro e w8 ⟨rfl,a0⟩;have a8:=lH (U.o.trans (a0.mono U.o.size));clear a0;go_wp2_with fail
     refine(bJ.o _).mono ?_;rintro e w9 ⟨rfl,b2⟩;have bL:=lH (a8.o.trans (b2.mono a8.o.size));clear b2;go_wp2_with fail
     go_returns;exact⟨rfl,bL.o⟩
  ·obtain⟨wo,rfl⟩:=eX (wr);obtain⟨ba,oa,rfl,c9,b5⟩:=Cells.at_ c4.o oM;have cl:=((fw a4.o).1 ba (oa+j) c9).trans (b5 j oM);have cn:((j:Nat):Int)<(G.length:Nat):=oM
   have cm:((dg G j:Nat):Int)<10:=by have:=aR.o j;omega
   have a6:(1+ (T.ek r).length <= maxLen) /\ (1+ (T.ek r).length)*8 <= 140737488355328:=by
    have h1:=T.iO (Nat.le_of_lt a7.o);have F:=a2.o;unfold maxLen;omega
   have ax:=lH a6;have bf:M.heap.size+1 <= wo.heap.size:=by have:=Z.o.lt;omega
   have bX:=lH bf;clear b5 a6 bf
   go_wp2_with (at_builtin;refine Gv _ rfl (.tmp 29) (.tmp 30) 76 rfl 3 i0 (.int .i64 0) 8 underlying76 bg bF bG bH rfl (.int .i64 (dg G j:Nat)) rfl _ _ _ bb.o rfl ax.o ?_)
   intro v5 Y bo aZ;have be:=iC.fresh (l:=dg G j::T.ek r) bo;have bW:=lH be;have aP:=lH aZ;clear bo aZ be;go_wp2_with fail
   refine(zI _ _ (dg G j::T.ek r) _ bW.o (T.Dig.cons (aR.o j) (T.fF r))).mono ?_;rintro e w6 ⟨v6,rfl,af,rfl⟩;rw[Gx] at af;obtain⟨R0,aF⟩:=eX (dg G j+10*r);rw[<- aF] at af;have bQ:=lH (af.mono bX.o);have c0:=lH aF;have aV:R0<10*t:=by have:=a7.o;omega
   have aA:=lH aV;have br:gM Y M.heap.size lo:=Z.o.below aP.o Z.o.lt;have c1:=lH br;have bM:=lH (a4.o.trans (aP.o.mono a4.o.size));clear af aF aV br;go_wp2_with fail
   go_loopg [8] R0 (fun g rv wr=>∃ (q E:Nat),Hid (g=E) /\ Hid (t*q+E=R0) /\ Hid (iH (M.heap.size+1) wr rv (T.ek E)) /\ Hid (gM wr M.heap.size (lo.set j q)) /\ Hid (Below M.heap.size M wr))
   case atStart=>
    refine⟨0,R0,lH rfl,lH (by simp),bQ,lH ?_,bM⟩
    have e:lo.set j 0=lo:=by
     apply oG (by simp);intro m hm;rw[iB];split
     ·rename_i h;rw[<- h.1];exact(bI.o j oM).symm
     ·rfl
    rw[e];exact c1.o
   case round=>
    obtain⟨q,E,hg,hq,ag,an,aL⟩:=hrel
    have bk:(T.ek E).length<1000000000:=by
     have h0:E <= 10*t:=by have:=hq.o;have:=aA.o;omega
     have h1:=T.iO h0
     have F:(T.ek (10*t)).length <= (T.ek t).length+1:=by
      refine T.jQ ?_;rw[Nat.pow_succ];have:=T.mI t;rw[Nat.mul_comm,T.ik] at*;omega
     have h3:=a2.o;omega
    have ay:=lH bk;have aE:=lH (aD.o.below aL.o);have ak:t*q <= R0:=by have:=hq.o;omega
    have ci:=lH ak;clear bk ak;by_cases aM:t <= E
    ·have cc:(0:Int) <= fM E t:=by unfold fM;split <;> (try split) <;> omega
     have ab:=lH aM;clear aM;go_wp2_with fail
     refine(pE _ _ E t _ ag.o.isD aE.o (Nat.lt_trans ay.o dC) (by have:=a2.o;omega)).mono ?_;rintro e w7 ⟨rfl,O⟩;have ch:=lH (O.below wo.heap.size);have bd:=ag.o.below (O.below _);have bA:=aE.o.below (O.below _);have bs:=an.o.below (O.below _) an.o.lt;have b4:=aL.o.trans (O.below _);have aw:=lH bd;have c5:=lH bA;have a3:=lH bs;have U:=lH b4;clear O bd bA bs b4;go_wp2_with fail
     refine(zM _ _ E t _ aw.o.isD c5.o (Nat.lt_trans ay.o dC) ab.o).mono ?_;rintro e w8 ⟨v8,rfl,b8,a0⟩;have ao:gM w8 M.heap.size (lo.set j q):=a3.o.below a0 a3.o.lt;have bj:j<(lo.set j q).length:=by rw[List.length_set,a1.o];omega
     have cb:=ao.cell bj;have ck:=ao.free j
     have ak:q<9:=by
      have h1:=hq.o;have F:=aA.o;have h3:=ab.o
      rcases Nat.lt_or_ge q 9 with h | h
      ·exact h
      ·have:=Nat.mul_le_mul_left t h;omega
     rw[iB,if_pos ⟨rfl,by rw[a1.o];omega⟩] at cb;have cq:((q:Nat):Int)<9:=oM
     have bR:=lH (b8.mono (B':=M.heap.size+1) (by have:=a3.o.lt;omega));have a8:=lH (U.o.trans (a0.mono U.o.size));have c2:=lH ao;clear b8 a0 ao bj ak;go_wp2_with fail
     go_roundg (E-t)
     case measure=>rw[hg.o];have:=ab.o;have:=ar.o;omega
     case rel=>
      refine⟨q+1,E-t,lH rfl,lH ?_,lH (bR.o.set oM),lH ?_,lH (a8.o.setCell (Nat.le_refl _) _)⟩
      ·have:=hq.o;have:=ab.o;rw[Nat.mul_add];omega
      ·have:=c2.o.set j (q+1) (v:= .int .i64 (((q:Nat):Int)+1)) (by simp);rw[List.set_set] at this;exact this
    ·have cc:fM E t<(0:Int):=by unfold fM;split <;> (try split) <;> omega
     have cp:decide ((0:Int) <= fM E t)=false:=decide_eq_false oM;have bZ:Hid (E<t):=lH oM;clear aM;go_wp2_with fail
     refine(pE _ _ E t _ ag.o.isD aE.o (Nat.lt_trans ay.o dC) (by have:=a2.o;omega)).mono ?_;rintro e w7 ⟨rfl,O⟩;have aw:=lH (ag.o.below (O.below _));have a3:=lH (an.o.below (O.below _) an.o.lt);have U:=lH (aL.o.trans (O.below _));clear O;go_wp2_with fail
     go_roundw
     case rel=>
      have cf:q<10:=by
       have h1:=hq.o;have F:=aA.o
       rcases Nat.lt_or_ge q 10 with h | h
       ·exact h
       ·have:=Nat.mul_le_mul_left t h;omega
      refine⟨j,E,lo.set j q,by omega,by first | rfl | (congr 1;omega),aw,bZ,a3,lH (by rw[List.length_set];exact a1.o),lH (b7.o.set _ _ cf),lH (Gw oM a1.o bh.o (by rw[hq.o];exact c0.o)),lH (fun m hm=>by rw[iB,if_neg oM];exact bI.o m oM),U⟩
     case measure=>exact mZ
end
section
open Go.RowKit
set_option maxHeartbeats 1600000 in
theorem o8(a b:Int)(w:World)(ha:gu a)(hb:gu b):
  Calls prog 72 #[.string (txt a), .string (txt b)] w fun e w'=>e= .returned (.string (txt (a*b))) /\ Below w.heap.size w w':=by
 obtain⟨i0,b4,b7,b8,b9⟩:=info_parts qR;have ag:=lH ha;have ah:=lH hb;clear ha hb;obtain⟨S,hS⟩:=eX (txt (a*b));rw[<- hS];have HS:=lH hS;clear hS;go_enter func72,ntmps72;go_wp2_with fail
 refine(jV a _ ag.o.few.lt).mono ?_;rintro e w2 ⟨v1,rfl,aF,am⟩;have aj:=lH aF;have Z:=lH am;clear aF am;go_wp2_with fail
 refine(jV b _ ah.o.few.lt).mono ?_;rintro e F ⟨v2,rfl,aG,a2⟩;have al:=lH aG;have ak:=lH (aj.o.below a2);have a0:=lH (Z.o.trans (a2.mono Z.o.size));clear aG a2 aj Z;have au:=T.fF a.natAbs;have av:=T.fF b.natAbs;have a7:=ag.o;have a8:=ah.o;unfold gu at a7 a8;have aH:=T.fu a.natAbs;have aK:=T.fu b.natAbs;have h1:=ak.o;have h2:=al.o;generalize T.ek a.natAbs=r at*;generalize T.ek b.natAbs=lb at*;obtain⟨A,ca,rfl,_,_,aD⟩:=h1;obtain⟨B,cb,rfl,_,_,aE⟩:=h2;have aU:=lH aD;have aV:=lH aE;have ae:=lH au;have af:=lH av;have U:=lH a7;have W:=lH a8;have aW:=lH aH;have aX:=lH aK;have bl:r.length <= 4611686018427387000:=oM
 have bm:lb.length <= 4611686018427387000:=oM
 clear aD aE au av a7 a8 aH aK ak al
 go_wp2_with (at_make;refine lM _ rfl (.tmp 21) (.tmp 21) 76 rfl 3 i0 (.int .i64 0) underlying76 b4 b7 b8 rfl _ _ (r.length+lb.length+1) rfl rfl (by push_cast;rfl) (by push_cast;rfl) (by rw[b9];have:=U.o;have:=W.o;omega) (by have:=U.o;have:=W.o;unfold maxLen;omega) ?_)
 intro w4 O an aB;have HR:=lH (gM.made O);have aM:=lH an;have bd:=lH aB;clear O an aB;go_wp2_with fail
 go_loopw [8] (fun iv wr=>∃ (i:Nat) (lo:List Nat),((i:Nat):Int) <= (r.length:Nat) /\ iv= .int .i64 i /\ Hid (gM wr F.heap.size lo) /\ Hid (lo.length=r.length+lb.length+1) /\ Hid (T.Dig lo) /\ Hid (T.val lo=T.val (r.take i)*T.val lb) /\ Hid (Below F.heap.size F wr)) (fun iv _=>r.length-(intOf iv).toNat)
 case atStart=>exact⟨0,_,by omega,rfl,HR,lH List.length_replicate,lH (T.Dig.replicate _),lH (by rw[T.uw];simp[T.val]),aM⟩
 case round=>
  obtain⟨i,lo,hi,rfl,O,a9,aw,ad,a3⟩:=hrel;by_cases bj:((i:Nat):Int)<(r.length:Nat)
  ·obtain⟨wo,rfl⟩:=eX (wr);obtain⟨ba,oa,rfl,aZ,ap⟩:=Cells.at_ aU.o oM;have aO:=lH ap;have bp:((dg r i:Nat):Int)<10:=by have:=ae.o i;omega
   clear ap;go_wp2_with fail
   go_loopw [9,10] (fun cv kv wr=>∃ (k c:Nat) (t:List Nat),((k:Nat):Int) <= (lb.length:Nat)+1 /\ cv= .int .i64 c /\ kv= .int .i64 k /\ Hid (gM wr F.heap.size t) /\ Hid (t.length=r.length+lb.length+1) /\ Hid (T.Dig t) /\ ((c:Nat):Int) <= 9 /\ Hid (lb.length<k -> c=0) /\ Hid (T.val t+T.BB^ (i+k)*c=T.val lo+T.BB^i* (dg r i*T.val (lb.take k))) /\ Hid (∀j,i+k <= j -> dg t j=dg lo j) /\ Hid (Below F.heap.size F wr)) (fun _ kv _=>lb.length+1-(intOf kv).toNat)
   case atStart=>exact⟨0,0,lo,by omega,rfl,rfl,O,a9,aw,by omega,lH (fun _=>rfl),lH (by simp[T.val]),lH (fun _ _=>rfl),a3⟩
   case round=>
    obtain⟨k,c,t,hk,rfl,rfl,E,M,Y,be,b2,a5,ac,G⟩:=hrel;have aa:i+k<t.length \/ ¬(i+k<t.length):=oM
    by_cases az:((k:Nat):Int)<(lb.length:Nat)
    ·obtain⟨bb,ob,rfl,b0,aq⟩:=Cells.at_ aV.o oM;have bh:=((fw G.o).1 ba (oa+i) aZ).trans (aO.o i oM);have bi:=((fw G.o).1 bb (ob+k) b0).trans (aq k oM);have C:i+k<t.length:=by have:=M.o;omega
     have ar:=E.o.cell C;have b1:=E.o.free (i+k);have bq:((dg lb k:Nat):Int)<10:=by have:=af.o k;omega
     have bn:((dg t (i+k):Nat):Int)<10:=by have:=Y.o (i+k);omega
     obtain⟨p,hp⟩:∃p:Nat,((dg r i:Nat):Int)* ((dg lb k:Nat):Int)=(p:Nat):=⟨dg r i*dg lb k,by push_cast;rfl⟩
     have aA:p=dg r i*dg lb k:=by have:=hp;exact_mod_cast this.symm
     have bo:((p:Nat):Int) <= 81:=by
      have h1:dg r i*dg lb k <= 9*9:=Nat.mul_le_mul oM oM;omega
     have aT:=lH aA;have a1:=lH C;clear aq aa C aA;go_wp2_with fail
     go_quiet (fail)
     go_wp2_with fail
     go_roundw
     case rel=>
      obtain⟨s,hs⟩:=eX (dg t (i+k)+c+p);have aC:((dg t (i+k):Nat):Int)+ (c:Nat)+ (p:Nat)=(s:Nat):=oM
      have R:=zO (lo:=lo) (lb:=lb) (V:=T.val lo) (x:=dg r i) (s:=s) a1.o a5.o (by rw[hs,aT.o]) ac.o;refine⟨k+1,s / 10,t.set (i+k) (s%10),by omega,?_,by simp,lH ((E.o.drewN _).set (i+k) (s%10) ?_),lH (by rw[List.length_set];exact M.o),lH (Y.o.set _ _ (Nat.mod_lt _ dC)),by omega,lH (fun h=>by omega),lH R.1,lH R.2,lH ((G.o.trans (below_drewN _ _ _)).setCell (Nat.le_refl _) _)⟩
      ·rw[aC];congr 1
      ·rw[aC];congr 1
     case measure=>simp[intOf];omega
    ·have bk:((lb.length:Nat):Int) <= (k:Nat):=oM
     by_cases X:c=0
     ·subst X
      have aJ:T.val t=T.val (r.take (i+1))*T.val lb:=by
       have:=a5.o;rw[Nat.mul_zero,Nat.add_zero,T.iF oM,ad.o] at this;rw[this,T.ib,Nat.add_mul,Nat.mul_assoc]
      have HV:=lH aJ;have b3:decide (k<lb.length)=false:=decide_eq_false oM;clear az aa aJ;go_wp2_with fail
      go_roundw
      case rel=>exact⟨i+1,t,by omega,by go_num,E,M,Y,HV,G⟩
      case measure=>simp[intOf];omega
     ·have a6:k=lb.length:=by
       rcases Nat.lt_or_ge lb.length k with h | h
       ·exact absurd (b2.o h) X
       ·omega
      have C:i+k<t.length:=by have:=M.o;omega
      have a4:dg t (i+k)=0:=by
       rw[ac.o (i+k) (Nat.le_refl _),a6];refine Gt (n:=i+lb.length) ?_ (Nat.le_refl _);rw[ad.o,Nat.pow_add];have h1:=T.jO (T.Dig.take ae.o i);rw[List.length_take,Nat.min_eq_left oM] at h1;have h2:=T.jO af.o;exact Nat.mul_lt_mul'' h1 h2
      have ar:=E.o.cell C;have b1:=E.o.free (i+k);rw[a4] at ar;have aL:dg lb k=0:=jm oM;have bg:(0:Int)<((c:Nat):Int):=oM
      have bf:decide (0<c)=true:=decide_eq_true oM;have b3:decide (k<lb.length)=false:=decide_eq_false oM;have a1:=lH C;have aP:=lH a4;have aY:=lH aL;have ai:=lH a6;have bc:=lH X;clear az aa a4 aL a6 X C;go_wp2_with fail
      go_roundw
      case rel=>
       have R:=zO (lo:=lo) (lb:=lb) (V:=T.val lo) (x:=dg r i) (s:=c) a1.o a5.o (by rw[aP.o,aY.o];omega) ac.o;refine⟨k+1,c / 10,t.set (i+k) (c%10),by have:=ai.o;omega,by simp,by simp,lH (E.o.set (i+k) (c%10) (by simp)),lH (by rw[List.length_set];exact M.o),lH (Y.o.set _ _ (Nat.mod_lt _ dC)),by omega,lH (fun h=>by omega),lH R.1,lH R.2,lH (G.o.setCell (Nat.le_refl _) _)⟩
      case measure=>have:=ai.o;simp[intOf];omega
  ·have ax:T.val lo=a.natAbs*b.natAbs:=by
    have:=ad.o;rw[T.iF oM,aW.o,aX.o] at this;exact this
   have aQ:=lH ax;clear ax;obtain⟨b5,b6,ab⟩:=zP a b;obtain⟨p,hp⟩:∃p,sgI a*sgI b=p:=⟨_,rfl⟩
   rw[hp] at b5 b6 ab;have aS:=lH ab;have ay:=O.o.isD (n:=r.length+lb.length+1) a9.o.symm (by have:=U.o;have:=W.o;unfold maxLen;omega);have aR:=lH ay;clear ab ay;go_wp2_with fail
   refine(iy a _).mono ?_;rintro e w5 ⟨rfl,rfl⟩;go_wp2_with fail
   refine(iy b _).mono ?_;rintro e w5 ⟨rfl,rfl⟩;go_wp2_with fail
   refine(lX (decide (p<0)) _ lo _ aR.o aw.o (by have:=U.o;have:=W.o;rw[a9.o];omega)).mono ?_;rintro e w6 ⟨rfl,ao⟩;have aN:=lH ((a0.o.trans (a3.o.mono a0.o.size)).trans (ao.mono (Nat.le_trans a0.o.size a3.o.size)));rw[tH HS.o (by rw[aQ.o];exact aS.o)];clear ao;go_wp2_with fail
   go_returns;exact⟨rfl,aN.o⟩
end
section
open Go.RowKit
theorem zQ(a:Int):txt (sgn false (T.val (T.ek a.natAbs)))=txt (a.natAbs:Nat):=by rw[T.fu];rfl
theorem zR{a:Int}(h:gu a):gu (a.natAbs:Nat):=by unfold gu at*;rw[Int.natAbs_natCast];exact h
theorem vK{a:Int}{n:Nat}(h:gu a)(r:n <= a.natAbs):gu (n:Nat):=by
 unfold gu at*;rw[Int.natAbs_natCast];exact Nat.lt_of_le_of_lt (T.iO r) h
set_option maxHeartbeats 800000 in
theorem pF(a b:Int)(w:World)(V:gu a)(W:gu b):
  Calls prog 95 #[.string (txt a), .string (txt b)] w fun e w'=>e= .returned (.string (txt (Nat.gcd a.natAbs b.natAbs:Nat))) /\ Below w.heap.size w w':=by
 have t:=lH V;have C:=lH W;clear V W;obtain⟨S,E⟩:=eX (txt (Nat.gcd a.natAbs b.natAbs:Nat));rw[<- E];have HS:=lH E;clear E;go_enter func95,ntmps95;go_wp2_with fail
 refine(jV a _ t.o.few.lt).mono ?_;rintro e w2 ⟨v1,rfl,a4,X⟩;have a9:=lH a4;have O:=lH X;clear a4 X;go_wp2_with fail
 refine(lX false _ _ _ a9.o (T.fF _) t.o.few.le).mono ?_;rintro e w3 ⟨rfl,Y⟩;rw[zQ];have R:=lH (O.o.trans (Y.mono O.o.size));clear Y;go_wp2_with fail
 refine(jV b _ C.o.few.lt).mono ?_;rintro e w4 ⟨v2,rfl,a5,Z⟩;have aa:=lH a5;have U:=lH (R.o.trans (Z.mono R.o.size));clear a5 Z;go_wp2_with fail
 refine(lX false _ _ _ aa.o (T.fF _) C.o.few.le).mono ?_;rintro e w5 ⟨rfl,a0⟩;rw[zQ];have a7:=lH (U.o.trans (a0.mono U.o.size));clear a0;go_wp2_with fail
 go_loopg [5,6] b.natAbs (fun g xv yv wr=>∃x y:Nat,xv= .string (txt (x:Nat)) /\ yv= .string (txt (y:Nat)) /\ Hid (g=y) /\ Hid (Nat.gcd x y=Nat.gcd a.natAbs b.natAbs) /\ Hid (gu (x:Nat)) /\ Hid (gu (y:Nat)) /\ Hid (Below w.heap.size w wr))
 case atStart=>exact⟨a.natAbs,b.natAbs,rfl,rfl,lH rfl,lH rfl,lH (zR t.o),lH (zR C.o),a7⟩
 case round=>
  obtain⟨x,y,rfl,rfl,hg,a2,ac,G,F⟩:=hrel;by_cases hy:y=0
  ·subst hy
   have a6:txt (x:Nat)=S:=by
    rw[HS.o, <- a2.o,Nat.gcd_zero_right]
   have r:(txt ((0:Nat):Int)).toList= [48]:=by rw[show((0:Nat):Int)=0 from rfl,sU,ByteArray.toList_eq]
   have h:((txt ((0:Nat):Int)).toList== [48])=true:=by rw[r];rfl
   have ad:((txt (0:Int)).toList== [48])=true:=h;have ae:(txt (0:Int)).toList= [48]:=r;rw[a6];clear a6 r h;go_wp2_with fail
   go_returns;exact⟨rfl,F.o⟩
  ·have M:((y:Nat):Int)≠0:=oM
   have h:=vI M;have r:¬(txt ((y:Nat):Int)).toList= [48]:=by rw[beq_eq_false_iff_ne] at h;exact h
   have ab:=lH M;clear M;go_wp2_with fail
   refine(qU x y _ ac.o G.o ab.o).mono ?_;rintro e w6 ⟨rfl,a1⟩;have a8:=lH (F.o.trans (a1.mono F.o.size));have a3:Int.fmod (x:Nat) (y:Nat)=((x%y:Nat):Int):=by rw[Int.fmod_eq_emod_of_nonneg _ oM];rfl
   rw[a3];clear a1 a3;go_wp2_with fail
   go_roundg (x%y)
   case measure=>rw[hg.o];exact Nat.mod_lt _ oM
   case rel=>
    refine⟨y,x%y,rfl,rfl,lH rfl,lH ?_,G,lH ?_,a8⟩
    ·rw[<- a2.o,Nat.gcd_comm x y,Nat.gcd_rec y x,Nat.gcd_comm]
    ·exact vK G.o (by rw[Int.natAbs_natCast];exact Nat.le_of_lt (Nat.mod_lt _ oM))
end
section
open Go.RowKit
theorem lY{a b:ByteArray}(h:a.data.toList=b.data.toList):a=b:=by
 cases a with
 | mk r=>
  cases b with
  | mk t=>
   congr 1;exact Array.toList_inj.1 h
set_option maxHeartbeats 1600000 in
theorem zS(s:ByteArray)(w:World)(G:s.size <= 1000000000):Calls prog 58 #[.string s] w fun e w'=>∃a b,e= .returned (.tuple #[.string a, .string b]) /\ a.data.toList=eH s.data.toList /\ b.data.toList=fQ s.data.toList /\ Below w.heap.size w w':=by
 obtain⟨k,F⟩:=eX ((eH s.data.toList).length)
 have Z:k <= s.size:=by
  have h1:=congrArg List.length (jo s.data.toList);rw[List.length_append,gz] at h1;omega
 have h:=lH F;have R:=lH G;have M:=lH ((zB s w G));rw[<- F] at M;clear F G;go_enter func58,ntmps58;go_wp2_with fail
 refine M.o.mono ?_;rintro e w' ⟨rfl,rfl⟩;clear M;by_cases E:k=s.size
 ·have t:Hid (eH s.data.toList=s.data.toList /\ fQ s.data.toList= [49]):=lH (by
   have h1:=congrArg List.length (jo s.data.toList);rw[List.length_append,gz, <- h.o] at h1;have r:fG s.data.toList= []:=List.eq_nil_of_length_eq_zero oM
   exact⟨qo r,by unfold fQ;rw[if_pos r]⟩)
  have W:((k:Nat):Int)=((s.size:Nat):Int):=oM
  have V:(((k:Nat):Int)== ((s.size:Nat):Int))=true:=by rw[beq_iff_eq];omega
  clear h;subst E;go_wp2_with fail
  go_returns;exact⟨_,_,rfl,t.o.1.symm,t.o.2.symm,Below.refl _ _⟩
 ·have t:Hid (eH s.data.toList=s.data.toList.take k /\ fQ s.data.toList=s.data.toList.drop (k+1)):=lH (by
   have h1:=congrArg List.length (jo s.data.toList);rw[List.length_append,gz, <- h.o] at h1;have r:fG s.data.toList≠ []:=fun e=>by rw[e] at h1;simp at h1;exact E h1
   have T:=rM r;obtain⟨a,C⟩:=eX (eH s.data.toList);obtain⟨b,O⟩:=eX (fJ s.data.toList);have U:k=a.length:=by rw[C];exact h.o
   unfold fQ;rw[if_neg r, <- C, <- O,T, <- C, <- O,U]
   exact⟨by simp,by simp⟩)
  have V:(((k:Nat):Int)== ((s.size:Nat):Int))=false:=by rw[beq_eq_false_iff_ne];omega
  have W:¬((k:Nat):Int)=((s.size:Nat):Int):=oM
  have Y:((k:Nat):Int)+1 <= ((s.size:Nat):Int):=oM
  have X:((k:Nat):Int) <= ((s.size:Nat):Int):=oM
  have a0:((s.size:Nat):Int) <= 1000000000:=by have:=R.o;omega
  clear h E;go_wp2_with fail
  go_region
  go_wp2_with fail
  go_returns;refine⟨_,_,rfl,?_,?_,(Below.refl _ _).drew⟩
  ·rw[qm,t.o.1];rfl
  ·rw[qm,t.o.2,List.take_of_length_le (by rw[gz];exact Nat.le_refl _)]
theorem lJ{s:ByteArray}{a:Int}(h:s.data.toList=Lib.itoa a):s=txt a:=lY (by rw[h,jS])
theorem iq(l:List UInt8):fK l=if dgs (body (eH l))=false \/ dgs (fQ l)=false then 14 else if(fQ l).all (· ==48)=true then 19 else
  if(1<(body (eH l)).length /\ (body (eH l)).head? =some 48) \/ eH l= [45,48] \/ (fQ l).head? =some 48 then 3 else
  if fG l≠ [] /\ (fQ l= [49] \/ Nat.gcd (dv (body (eH l))) (dv (fQ l))≠1) then 3 else 0:=by
 have X:∀a:List UInt8,dgs (body a)=true -> (chk a=3↔(1<(body a).length /\ (body a).head? =some 48) \/ a= [45,48]):=by
  intro a W;have h0:=oV W;unfold chk;rw[if_neg (fun e=>h0 (.inl e)),if_neg (fun e=>h0 (.inr e))];by_cases h:(body a).head? =some 48
  ·by_cases E:1<(body a).length
   ·rw[if_pos ⟨h, .inl E⟩];simp[E,h]
   ·by_cases F: a.head? =some 45
    ·rw[if_pos ⟨h, .inr F⟩];simp only[E,false_and,false_or,true_iff];cases a with
     | nil=>cases F
     | cons c a=>
      obtain rfl:c=45:=by simpa using F
      have G:body (45::a)=a:=by unfold body;simp
      rw[G] at h E;cases a with
      | nil=>cases h
      | cons d a=>
       obtain rfl:d=48:=by simpa using h
       have:a= []:=List.eq_nil_of_length_eq_zero (by simp only[List.length_cons] at E;omega);rw[this]
    ·rw[if_neg (fun e=>e.2.elim E F)];simp only[E,false_and,false_or];refine⟨fun e=>by omega,fun e=> ?_⟩;rw[e] at F;simp at F
  ·rw[if_neg (fun e=>h e.1)];refine⟨fun e=>by omega,fun e=> ?_⟩
   rcases e with e | e
   ·exact absurd e.2 h
   ·rw[e] at h;simp[body] at h
 by_cases C:dgs (body (eH l))=true
 ·have k:=X _ C;have kd:=nN C;by_cases t:fG l= []
  ·have M:fQ l= [49]:=by unfold fQ;rw[if_pos t]
   rw[M,uO t,if_neg (by rw[C];simp;decide),if_neg dC,if_neg (c:=fG l≠ [] /\ _) (fun e=>e.1 t)];by_cases r:chk (eH l)=3
   ·rw[r,if_pos]
    rcases k.1 r with e | e
    ·exact .inl e
    ·exact .inr (.inl e)
   ·rw[if_neg]
    ·rcases kd with e | e
     ·exact e
     ·exact absurd e r
    ·rintro(e | e | e)
     ·exact r (k.2 (.inl e))
     ·exact r (k.2 (.inr e))
     ·simp at e
  ·have M:fQ l=fJ l:=by unfold fQ;rw[if_neg t]
   rw[M];by_cases G:dgs (fJ l)=true
   ·rw[if_neg (by rw[C,G];simp)];by_cases O:(fJ l).all (· ==48)=true
    ·rw[if_pos O];exact y5 C t G O
    ·have U:(fJ l).all (· ==48)=false:=by simpa using O
     rw[if_neg (by rw[U];simp)];unfold fK;rw[if_neg t,if_neg (fun e=>e.elim (qx C) (oV G)),if_neg (by rw[U];simp)];by_cases r:chk (eH l)=3
     ·rw[if_pos (.inl r)]
      rcases k.1 r with e | e
      ·rw[if_pos (.inl e)]
      ·rw[if_pos (.inr (.inl e))]
     ·have V:=fun e=>r (k.2 e)
      by_cases h:(fJ l).head? =some 48
      ·rw[if_pos (.inr (.inl h)),if_pos (.inr (.inr h))]
      ·rw[if_neg (c:=_ \/ eH l= [45,48] \/ _) (by rintro(e | e | e);exact V (.inl e);exact V (.inr e);exact h e)];by_cases h1:fJ l= [49] \/ Nat.gcd (dv (body (eH l))) (dv (fJ l))≠1
       ·rw[if_pos (.inr (.inr h1)),if_pos ⟨t,h1⟩]
       ·rw[if_neg (by rintro(e | e | e);exact r e;exact h e;exact h1 e),if_neg (fun e=>h1 e.2)]
   ·have T:dgs (fJ l)=false:=by simpa using G
    rw[if_pos (.inr T)];exact qy (.inr ⟨t,T⟩)
 ·have R:dgs (body (eH l))=false:=by simpa using C
  rw[if_pos (.inl R)];exact qy (.inl R)
end
end Go.Proofs.YtdefghfjhgmpfaaGreatDoor
