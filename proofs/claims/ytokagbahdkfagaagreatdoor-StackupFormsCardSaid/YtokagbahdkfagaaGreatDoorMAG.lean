/- Parts of this proof: Divide Plus Minus Add AddGe Small SubCmp From Floor. -/
import Derived.Test.YtokagbahdkfagaaGreatDoorMAF
import Derived.Test.YtokagbahdkfagaaGreatDoorMAA
import Derived.Test.YtokagbahdkfagaaGreatDoorMAC
namespace Go.Proofs.YtokagbahdkfagaaGreatDoor
open Tryz
section
open Go.RowKit
set_option maxRecDepth 100000 in
set_option maxHeartbeats 1600000 in
theorem xe(A B:Option Addr)(C cb a b:Nat)(w:World)(R:U32 w A (ek a))(hb:U32 w B (ek b))(bH:(ek a).length <= C)(bI:C <= maxLen)(cp:(ek a).length<17592186044410)(cq:(ek b).length<17592186044410)(aS:0<b):
  Calls prog 135 #[.slice A (ek a).length C, .slice B (ek b).length cb] w fun e w'=>∃q r,e= .returned (.tuple #[q,r]) /\ iH w' q (a / b) /\ iH w' r (a%b) /\ Below w.heap.size w w':=by
 obtain⟨i0,bM,bW,bX,cz⟩:=info_parts mE;have aZ:0<(ek b).length:=kI.2 aS;obtain⟨n,hn⟩:∃n,(ek b).length=n+1:=⟨(ek b).length-1,by omega⟩
 obtain⟨bo,cA,rfl,cd,ae⟩:=Cells.at_ hb oM;have cu:(((ek b).length:Nat):Int)-1=(n:Nat):=oM
 have cv:(((ek b).length:Nat):Int) <= 17592186044410:=oM
 have cw:(0:Int)<(((ek b).length:Nat):Int):=oM
 have cx:((n:Nat):Int)<(((ek b).length:Nat):Int):=oM
 have c0:=ae 0 oM;have cn:=ae n oM;rw[Nat.add_zero] at c0;have HN:=lH hn;have HC:=lH ae;clear hn ae;have cf:((dg (ek b) 0:Nat):Int)<4294967296:=by have:=fV b 0;omega
 have ch:((dg (ek b) n:Nat):Int)<4294967296:=by have:=fV b n;omega
 by_cases E:a<b
 ·have ho:iE a b= -1:=if_pos E;have b9:iE a b<0:=oM
  clear ho;go_enter func135,ntmps135;go_wp2_with fail
  refine(qG A _ C cb a b _ (by exact R) (by exact hb) oM oM).mono ?_;rintro e w1 ⟨rfl,T⟩;obtain⟨Z,rfl⟩:=T;go_wp2_with fail
  go_returns;have hB:=below_drewN w.heap.size w Z;have aK:Below w.heap.size w ((w.drewN Z).drew):=hB.drew;refine⟨_,_,rfl,⟨none,0,?_,?_,?_,?_⟩,⟨A,C,?_,?_,bI,?_⟩,?_⟩
  ·rw[Nat.div_eq_of_lt E,il];rfl
  ·rw[Nat.div_eq_of_lt E,il];exact Nat.le_refl _
  ·unfold maxLen;omega
  ·rw[Nat.div_eq_of_lt E,il];exact .inl rfl
  ·rw[Nat.mod_eq_of_lt E];rfl
  ·rw[Nat.mod_eq_of_lt E];exact bH
  ·rw[Nat.mod_eq_of_lt E];first | exact R.below hB | exact R.below aK
  ·first | exact hB | exact aK
 ·have b9:(0:Int) <= iE a b:=by unfold iE;rw[if_neg E];split <;> omega
  have cy:decide (iE a b<0)=false:=decide_eq_false oM;clear b9;by_cases h1:(((ek b).length:Nat):Int)==1
  ·have h0:0<dg (ek b) 0:=by
    have Y:(ek b).length=1:=by have:=eq_of_beq h1;omega
    have U:=(kV b).2 aZ;rw[Y] at U;exact Nat.pos_of_ne_zero U
   go_enter func135,ntmps135;go_wp2_with fail
   refine(qG A _ C cb a b _ (by exact R) (by exact hb) oM oM).mono ?_;rintro e w1 ⟨rfl,T⟩;obtain⟨Z,rfl⟩:=T;go_wp2_with fail
   obtain⟨X,ah⟩:=eX (val (ek a)%dg (ek b) 0);have bP:X<4294967296:=by rw[ah];exact Nat.lt_of_le_of_lt (Nat.le_of_lt (Nat.mod_lt _ h0)) oM
   refine(DI A C (dg (ek b) 0) (ek a) _ (by exact R) (fV a) oM oM oM).mono ?_;rw[<- ah];have bw:=lH ah;clear ah;rintro e w2 ⟨v,rfl,hq,aU⟩;have HQ:=lH hq;have ay:=lH aU;clear hq aU;go_wp2_with fail
   obtain⟨t,bg,al⟩:=jy w2 (.cells #[.int .u32 ((X:Nat):Int)] 169);obtain⟨W,hW⟩:=eX (w2.alloc (.cells #[.int .u32 ((X:Nat):Int)] 169));rw[<- hW] at t bg al ⊢;clear hW bg;have t:fA W w2.heap.size [X]:=t;have b2:Dig [X]:=Dig.cons bP Dig.nil;refine(mF (some ⟨w2.heap.size,0,none⟩) 1 1 [X] W rfl (Nat.le_refl _) (by unfold maxLen;omega) t.u32 b2).mono ?_;rintro e w4 ⟨rfl,a8,rfl⟩;go_wp2_with fail
   go_returns
   have aY:b=dg (ek b) 0:=by
    have Y:(ek b).length=0+1:=by have:=eq_of_beq h1;omega
    have:=mI (ek b);rw[fC,Y,gG,wU,Nat.pow_zero,Nat.one_mul,Nat.zero_add] at this;exact this
   have bS:val [X]=a%b:=by
    rw[vB,vw,Nat.mul_zero,Nat.add_zero,bw.o,fC, <- aY]
   have hq:=HQ.o;rw[fC, <- aY] at hq;have hB:Below w.heap.size w W:=(below_drewN _ w Z).trans ((ay.o.mono (Nat.le_refl _)).trans (al.mono ay.o.size));have hu:=t.u32.trimmed b2;rw[bS] at hu a8 ⊢;exact⟨_,_,rfl,hq.below al,⟨_,1,rfl,a8,by unfold maxLen;omega,hu⟩,hB⟩
  ·have a5:=jT (Nat.le_of_not_lt E);obtain⟨K,hK⟩:∃K,(ek a).length=(ek b).length+K:=⟨(ek a).length-(ek b).length,by omega⟩
   have cl:(((ek a).length:Nat):Int)-(((ek b).length:Nat):Int)=(K:Nat):=oM
   have cm:((K:Nat):Int) <= 17592186044410:=oM
   have HK:=lH hK;clear hK a5
   obtain⟨m,hm⟩:∃m,n=m+1:=⟨n-1,by
    have:(ek b).length≠1:=fun e=>h1 (by rw[e];rfl)
    have:=HN.o
    omega⟩
   have ct:((m:Nat):Int) <= 17592186044410:=oM
   have b8:((m:Nat):Int)+2=(((ek b).length:Nat):Int):=oM
   have HM:=lH hm;have a0:=lH b8;clear hm b8;have c7:((((ek b).length:Nat):Int)==1)=false:=by simpa using h1
   clear h1;obtain⟨y,aj,bV,av,aw⟩:=Dx (d:=dg (ek b) n) (Nat.pos_of_ne_zero (by have:=(kV b).2 aZ;rwa [HN.o,Nat.add_sub_cancel] at this)) oM;go_enter func135,ntmps135;go_wp2_with fail
   refine(qG A _ C cb a b _ (by exact R) (by exact hb) oM oM).mono ?_;rintro e w1 ⟨rfl,T⟩;obtain⟨Z,rfl⟩:=T;go_wp2_with fail
   refine(Tryz.bits_LeadingZeros32 _ _ oM oM).mono ?_;rintro e w2 ⟨rfl,rfl⟩;rw[Int.toNat_natCast,bV];go_wp2_with fail
   refine(wZ A C y (ek a) _ (by exact R) (fV a) oM aj).mono ?_;rintro e w3 ⟨G,l1,rfl,t,T,bj,Y,aV,bJ⟩;have bA:=lH bj;have bq:=lH Y;clear bj Y;have a2:Below w.heap.size w w3:=(below_drewN _ w Z).trans aV;go_wp2_with fail
   refine(wZ _ cb y (ek b) _ (by exact hb.below a2) (fV b) oM aj).mono ?_;rintro e w4 ⟨O,l2,rfl,r2,b0,bk,b5,a3,bK⟩;have co:l2.length<17592186044416:=oM
   have aH:=lH bk;have bY:=lH b5;clear bk b5;go_wp2_with fail
   refine(mF _ l2.length l2.length l2 _ rfl (Nat.le_refl _) (by unfold maxLen;omega) r2.u32 b0).mono ?_;rintro e w5 ⟨rfl,a8,rfl⟩;rw[aH.o,fC];have ap:=DC HN.o aj av aw;have ao:(ek (2^y*b)).length=m+2:=by rw[ap.1,HM.o]
   rw[ao];have bZ:=lH ao;have aC:=lH ap;have c3:=lH a8;have c5:=lH av;have c6:=lH aw;clear ao ap a8 av aw
   go_wp2_with (at_make;refine nz _ rfl (.tmp 51) (.tmp 51) 36 rfl 169 i0 (.int .u32 0) underlying36 bM bW bX rfl _ _ _ rfl rfl rfl rfl ?_ ?_ ?_)
   ·omega
   ·unfold maxLen;omega
   intro w6 bd ad bR;have hr:=fA.made bd;clear bd;have HR:=lH hr;clear hr;go_wp2_with fail
   have aW:Below w.heap.size w w6:=a2.trans ((a3.mono a2.size).trans (ad.mono (Nat.le_trans a2.size a3.size)));have bb:fA w6 G l1:=(t.below a3 t.lt).below ad (Nat.lt_of_lt_of_le t.lt a3.size);have ar:fA w6 O l2:=r2.below ad r2.lt;have cj:G<O:=Nat.lt_of_lt_of_le t.lt bK;have bL:O<w4.heap.size:=r2.lt;have bU:w.heap.size <= G:=bJ;obtain⟨V,hV⟩:=eX (2^y*b)
   have bl:U32 w6 (some ⟨O,0,none⟩) (ek V):=by
    have:=ar.u32.trimmed b0
    rwa [aH.o,fC, <- hV] at this
   have bp:=lH aW;have bv:=lH bb;have c2:=lH ar;have bB:=lH bl;have a1:=lH hV;clear aW bb ar bl hV t r2 aV a2 a3 ad;have ac:(ek V).length=m+2:=by rw[a1.o,aC.o.1,HM.o]
   have aR:2147483648 <= dg (ek V) (m+1):=by rw[a1.o, <- HM.o];exact aC.o.2
   have aQ:sv (ek V) 0 (m+2)=V:=by rw[<- ac, <- mI,fC]
   have aP:0<V:=by rw[a1.o];exact Nat.mul_pos (Nat.pow_pos dC) aS
   have aO:V<BB^ (m+2):=by have:=nk V;rwa [ac] at this
   have an:l1.length=K+1+ (m+2):=by rw[bq.o,HK.o];have:=a0.o;omega
   have aN:jL (2^y*a) V (m+2) (K+1) (K+1) l1 (List.replicate (K+1) 0):=
    jL.start an T (by rw[bA.o,fC]) (by rw[a1.o];exact DD (n:=m+1) (by rw[HK.o];have:=a0.o;omega) (by have:=a0.o;omega))
   have bs:=lH aN;have bC:=lH ac;have bF:=lH aR;have aJ:=lH aQ;have bE:=lH aO;have aA:=lH an;clear aN ac aR aQ aO an;obtain⟨gq,b4⟩:=eX (w4.heap.size);rw[<- b4] at HR bL ⊢;clear b4 bR;obtain⟨M,ab⟩:=eX (l1.length);rw[<- ab];have br:=lH ab;have aM:((M:Nat):Int)=(K:Nat)+1+ ((m:Nat)+2):=by rw[ab,aA.o];simp
   have aa:=lH aM;clear ab aM
   go_loopw [11] (fun iv wr=>∃ (k:Nat) (z:Int) (lo q:List Nat),iv= .int .i64 z /\ Hid (z=(k:Nat)-1) /\ k <= K+1 /\ fA wr G lo /\ fA wr gq q /\ Hid (jL (2^y*a) V (m+2) (K+1) k lo q) /\ U32 wr (some ⟨O,0,none⟩) (ek V) /\ Below w.heap.size w wr)
    (fun iv _=>(intOf iv+1).toNat)
   case atStart=>exact⟨K+1,(K:Nat),l1,_,rfl,lH oM,Nat.le_refl _,bv.o,HR.o,bs,bB.o,bp.o⟩
   case round=>
    obtain⟨k,z,lo,q,rfl,U,hk,ag,a7,h,a9,a4⟩:=hrel
    rcases k with _ | i
    ·obtain rfl:z= -1:=by have:=U.o;omega
     have aE:=lH ag;have aG:=lH a7;have c4:=lH a9;have ba:K+1=q.length:=h.o.qlen.symm;have b7:M=lo.length:=by rw[h.o.len,br.o,aA.o]
     have aD:=lH ba;have aB:=lH b7;clear ag a7 a9 ba b7 U;have b3:=h.o.done;have HF:=lH b3;clear b3;have c9:M<17592186044416:=by have h1:=aa.o;have h2:=a0.o;have h3:=HK.o;omega
     go_wp2_with fail
     refine(mF (some ⟨gq,0,none⟩) (K+1) (K+1) q _ aD.o (Nat.le_refl _) (by unfold maxLen;omega) (by exact aG.o.u32) (by exact h.o.qdig)).mono ?_;rintro e w8 ⟨rfl,ai,rfl⟩;have bz:=lH ai;clear ai;go_wp2_with fail
     refine(mF (some ⟨G,0,none⟩) M M lo _ aB.o (Nat.le_refl _) (by unfold maxLen;omega) (by exact aE.o.u32) (by exact h.o.dig)).mono ?_;rintro e w9 ⟨rfl,bh,rfl⟩;have bx:=lH bh;clear bh;go_wp2_with fail
     refine(DJ G 0 M y (ek (val lo)) _ (by exact aE.o.u32.trimmed h.o.dig) (fV _) (by have:=bx.o;have:=aB.o;omega) aj).mono ?_;rintro e cB ⟨v,rfl,a6,aT⟩;have bu:=lH a6;have ax:=lH aT;clear a6 aT;go_wp2_with fail
     go_returns;have a5:=DF (a:=a) (b:=b) (y:=y);rw[<- a1.o] at a5;have a6:=bu.o;rw[fC,HF.o.1,a5.2] at a6;have bO:=HF.o.2.trans a5.1;have bi:=aG.o.u32.trimmed h.o.qdig;have ai:=bz.o;rw[bO] at bi ai ⊢;exact⟨_,v,rfl,⟨_,K+1,rfl,by have:=aD.o;omega,by unfold maxLen;omega,bi.below ax.o⟩,a6,a4.trans (ax.o.mono a4.size)⟩
    ·obtain rfl:z=(i:Nat):=by have:=U.o;omega
     clear U;have cc:((i:Nat):Int)<(K:Nat)+1:=oM
     have ck:((i:Nat):Int)+ ((m:Nat)+2)+1 <= (M:Nat):=by have:=aa.o;omega
     go_wp2_with fail
     rw[show i+ (m+2)+1-i=m+3 by omega];have aq:i<q.length:=by rw[h.o.qlen];omega
     have ak:=lH h.o.len;obtain⟨D,hD⟩:=eX (sv lo i (m+3) / V)
     have c8:D<4294967296:=by
      rw[hD,Nat.div_lt_iff_lt_mul aP];exact h.o.pre
     refine(Dw G i m _ _ O 0 lo (ek V) wr (by exact ag) h.o.dig (by have:=aa.o;have:=ak.o;omega) (by have:=aa.o;have:=a0.o;have:=HK.o;have:=ak.o;omega) (by exact a9) bC.o (fV _) oM bF.o (by rw[aJ.o];exact h.o.pre)).mono ?_;rw[aJ.o, <- hD];rintro e w8 ⟨rfl,bn,bc,b1,b6,be,bf,af⟩;have aX:Below w.heap.size w w8:=a4.grown af (by exact a4.size) (by simp;exact bU);have au:fA w8 gq q:=(af.block gq a7.lt (by simp;omega)).trans a7;have bm:U32 w8 (some ⟨O,0,none⟩) (ek V):=Cells.grownBy' a9 af oM;have hL:=h.o.step aP bE.o b6 b1 (fun j hj=>be j oM) bf;have aL:jL (2^y*a) V (m+2) (K+1) i bn (q.set i D):=by rw[hD];exact hL
     have ce:=au.cell aq;have ci:=au.free i;have c1:=lH aq;have HL:=lH aL;have az:=lH aX;have bG:=lH bm;have aF:=lH bc;clear b6 be bf hL aL hD aq aX bm bc af b1 ak a9 ag h a7 a4;go_wp2_with fail
     go_roundw
     case rel=>
      have bQ:=au.set i D (v:= .int .u32 (D:Nat)) rfl;have am:=grownBy_set w8 gq i (.int .u32 (D:Nat));refine⟨i,((i:Nat):Int)-1,bn,q.set i D,by simp,lH rfl,by omega,?_,bQ,HL,Cells.grownBy' bG.o am oM,az.o.grown am az.o.size (by simp;omega)⟩;exact(am.block G aF.o.lt (by simp;omega)).trans aF.o
     case measure=>exact mZ
end
section
open Go.RowKit
theorem DK(A B:Option Addr)(O R:Nat)(t lb:List Nat)(w:World)(ha:U32 w A t)(G:U32 w B lb)(a0:Dig t)(a1:Dig lb)(a8:t.length<17592186044416)(a9:lb.length<17592186044416):
  Calls prog 107 #[.slice A t.length O, .slice B lb.length R] w fun e w'=>∃g M,e= .returned (.slice (some ⟨g,0,none⟩) M.length M.length) /\ fA w' g M /\ Dig M /\ val M=val t+val lb /\ M.length=max t.length lb.length+1 /\ Below w.heap.size w w' /\ w.heap.size <= g:=by
 obtain⟨i0,ai,ap,aq,aE⟩:=info_parts mE
 obtain⟨X,W,r,Y,Z,C,hx,hy,af,ag,aC,al,an,ae⟩:∃X W r Y Z C,U32 w X r /\ U32 w Y C /\ Dig r /\ Dig C /\ r.length<17592186044416 /\ C.length <= r.length /\ Hid (max t.length lb.length=r.length) /\
   ((t.length<lb.length /\ Y=A /\ X=B /\ Z=O /\ W=R /\ C=t /\ r=lb) \/ (¬t.length<lb.length /\ X=A /\ Y=B /\ W=O /\ Z=R /\ r=t /\ C=lb)):=by
  by_cases h:t.length<lb.length
  ·exact⟨B,R,lb,A,O,t,G,ha,a1,a0,a9,by omega,by show max _ _=_;omega, .inl ⟨h,rfl,rfl,rfl,rfl,rfl,rfl⟩⟩
  ·exact⟨A,O,t,B,R,lb,ha,G,a0,a1,a8,by omega,by show max _ _=_;omega, .inr ⟨h,rfl,rfl,rfl,rfl,rfl,rfl⟩⟩
 clear ha G a0 a1 a8 a9
 rcases ae with ⟨am,rfl,rfl,rfl,rfl,rfl,rfl⟩ | ⟨am,rfl,rfl,rfl,rfl,rfl,rfl⟩
 all_goals
  go_enter func107,ntmps107
  go_wp2_with (at_make;refine nz _ rfl (.tmp 18) (.tmp 18) 36 rfl 169 i0 (.int .u32 0) underlying36 ai ap aq rfl _ _ _ rfl rfl rfl rfl ?_ ?_ ?_)
  ·omega
  ·unfold maxLen;omega
  intro w1 E ac aD;have hr:=fA.made E;clear E;have HR:=lH hr;clear hr;go_wp2_with fail
  go_loopw [6,22] (fun cv iv wr=>∃ (k c:Nat) (lo:List Nat),k <= r.length /\ cv= .int .u64 c /\ iv= .int .i64 k /\ fA wr w.heap.size lo /\ lo.length=r.length+1 /\ Dig lo /\ c <= 1 /\ Hid (val (lo.take k)+BB^k*c=val (r.take k)+val (C.take k)) /\ Below w.heap.size w wr)
   (fun _ iv _=>r.length-(intOf iv).toNat)
  case atStart=>exact⟨0,0,_,Nat.zero_le _,rfl,rfl,HR.o,List.length_replicate,Dig.replicate _,by omega,by show _=_;simp[val],ac⟩
  case round=>
   obtain⟨k,c,lo,hk,rfl,rfl,E,U,a7,az,a2,T⟩:=hrel;have V:=lH a7;have av:=lH U;clear a7;by_cases aj:k<r.length
   ·obtain⟨b,ar,rfl,G,a4⟩:=Cells.at_ hx oM;have a6:=a4 k aj;have ax:((dg r k:Nat):Int)<4294967296:=by have:=af k;omega
    have hg:=E.cell (j:=k) oM;have ah:=E.free k;have aA:=((fu T).1 b (ar+k) G).trans a6;have aw:b<w.heap.size:=G;clear a4 a6;by_cases ak:k<C.length
    ·obtain⟨b2,au,rfl,ad,a5⟩:=Cells.at_ hy oM;have aB:=((fu T).1 b2 (au+k) ad).trans (a5 k ak);have ay:((dg C k:Nat):Int)<4294967296:=by have:=ag k;omega
     clear a5;go_wp2_with fail
     go_roundw
     case rel=>
      refine⟨k+1,(c+dg r k+dg C k) / 4294967296,lo.set k ((c+dg r k+dg C k)%4294967296),by omega,by simp,by simp,E.set k _ (by simp),by rw[List.length_set];exact U,V.o.set _ _ (Nat.mod_lt _ oM),by omega,sG oM a2 rfl,T.setCell (Nat.le_refl _) _⟩
     case measure=>simp[intOf];omega
    ·have aa:dg C k=0:=mo oM;have ab:=lH aa;clear aa;go_wp2_with fail
     go_roundw
     case rel=>
      refine⟨k+1,(c+dg r k) / 4294967296,lo.set k ((c+dg r k)%4294967296),by omega,by simp,by simp,E.set k _ (by simp),by rw[List.length_set];exact U,V.o.set _ _ (Nat.mod_lt _ oM),by omega,sG oM a2 (by rw[ab.o];rfl),T.setCell (Nat.le_refl _) _⟩
     case measure=>simp[intOf];omega
   ·obtain rfl:k=r.length:=oM
    have ah:=E.free r.length;have hg:=E.cell (j:=r.length) oM;go_wp2_with fail
    go_returns;have ao:=E.set r.length c rfl;have a3:(lo.set r.length c).length=r.length+1:=by rw[List.length_set];exact U
    refine⟨w.heap.size,lo.set r.length c,by rw[a3];rfl,ao,V.o.set _ _ oM,?_,by rw[a3,an.o],T.setCell (Nat.le_refl _) _,Nat.le_refl _⟩;have h1:=kJ lo r.length c oM;rw[<- a3,jb (Nat.le_refl _),a2.o,jb (Nat.le_refl _),jb al] at h1;omega
end
section
open Go.RowKit
theorem xg(A B:Option Addr)(ca cb:Nat)(h lb:List Nat)(w:World)(ha:U32 w A h)(hb:U32 w B lb)(aa:Dig h)(ab:Dig lb)(aq:h.length<17592186044416)(af:lb.length <= h.length)(Z:val lb <= val h):
  Calls prog 109 #[.slice A h.length ca, .slice B lb.length cb] w fun e w'=>∃g t,e= .returned (.slice (some ⟨g,0,none⟩) t.length t.length) /\ fA w' g t /\ Dig t /\ val t=val h-val lb /\ t.length=h.length /\ Below w.heap.size w w' /\ w.heap.size <= g:=by
 obtain⟨i0,ac,ah,ai,aj⟩:=info_parts mE;have a1:=lH Z;clear Z;go_enter func109,ntmps109
 go_wp2_with (at_make;refine nz _ rfl (.tmp 11) (.tmp 11) 36 rfl 169 i0 (.int .u32 0) underlying36 ac ah ai rfl _ _ _ rfl rfl rfl rfl ?_ ?_ ?_)
 ·first | omega | (rw[aj];omega)
 ·unfold maxLen;omega
 intro w1 r a3 au;have hr:=fA.made r;clear r;have HR:=lH hr;clear hr;go_wp2_with fail
 go_loopw [6,15] (fun cv U wr=>∃ (k c:Nat) (lo:List Nat),k <= h.length /\ cv= .int .i64 c /\ U= .int .i64 k /\ fA wr w.heap.size lo /\ lo.length=h.length /\ Dig lo /\ c <= 1 /\ Hid (val (h.take k)+BB^k*c=val (lo.take k)+val (lb.take k)) /\ Below w.heap.size w wr)
  (fun _ U _=>h.length-(intOf U).toNat)
 case atStart=>exact⟨0,0,_,Nat.zero_le _,rfl,rfl,HR.o,List.length_replicate,Dig.replicate _,by omega,by show _=_;simp[val],a3⟩
 case round=>
  obtain⟨k,c,lo,hk,rfl,rfl,r,G,Y,a9,R,E⟩:=hrel;have M:=lH Y;clear Y;by_cases ad:k<h.length
  ·obtain⟨b,ak,rfl,a7,V⟩:=Cells.at_ ha oM;have X:=V k ad;have am:((dg h k:Nat):Int)<4294967296:=by have:=aa k;omega
   have hg:=r.cell (j:=k) oM;have ap:=r.free k;have an:=((fu E).1 b (ak+k) a7).trans X;clear V X;have a8:((dg lb k:Nat):Int)<4294967296:=by have:=ab k;omega
   by_cases ae:k<lb.length
   ·obtain⟨b2,al,rfl,a5,W⟩:=Cells.at_ hb oM;have ao:=((fu E).1 b2 (al+k) a5).trans (W k ae);clear W;obtain⟨C,ag⟩:∃n:Int,((dg h k:Nat):Int)-(c:Nat)=n:=⟨_,rfl⟩
    obtain⟨O,ar⟩:∃n:Int,C-((dg lb k:Nat):Int)=n:=⟨_,rfl⟩
    have a4: -4294967297<O:=oM
    have a6:O<4294967297:=oM
    by_cases T:O<0
    all_goals
     go_wp2_with fail
     go_roundw
     case rel=>
      refine⟨k+1,if O<0 then 1 else 0,lo.set k ((dg h k+4294967296-c-dg lb k)%4294967296),by omega,?_,by simp,r.set k _ ?_,by rw[List.length_set];exact G,M.o.set _ _ (Nat.mod_lt _ oM),by split <;> omega,sH oM R ?_,E.setCell (Nat.le_refl _) _⟩
      ·simp[T]
      ·refine congrArg (Value.int .u32) ?_;omega
      ·split <;> omega
     case measure=>simp[intOf];omega
   ·have a0:dg lb k=0:=mo oM;have a2:=lH a0;clear a0 a8;obtain⟨C,ag⟩:∃n:Int,((dg h k:Nat):Int)-(c:Nat)=n:=⟨_,rfl⟩
    have a4: -4294967297<C:=oM
    have a6:C<4294967297:=oM
    by_cases T:C<0
    all_goals
     go_wp2_with fail
     go_roundw
     case rel=>
      refine⟨k+1,if C<0 then 1 else 0,lo.set k ((dg h k+4294967296-c)%4294967296),by omega,?_,by simp,r.set k _ ?_,by rw[List.length_set];exact G,M.o.set _ _ (Nat.mod_lt _ oM),by split <;> omega,sH oM R ?_,E.setCell (Nat.le_refl _) _⟩
      ·simp[T]
      ·refine congrArg (Value.int .u32) ?_;omega
      ·rw[a2.o];split <;> omega
     case measure=>simp[intOf];omega
  ·obtain rfl:k=h.length:=oM
   go_wp2_with fail
   go_returns;refine⟨w.heap.size,lo,by rw[G];rfl,r,M.o,?_,G,E,Nat.le_refl _⟩;have h1:=R.o;rw[jb (Nat.le_refl _),jb oM,jb af] at h1;rw[<- G] at h1;exact vE M.o a1.o a9 h1
end
section
open Go.RowKit
theorem xh(A B:Option Addr)(C E:Nat)(s:Bool)(h lb:List Nat)(n:Int)(w:World)(a8:U32 w A h)(a9:U32 w B lb)(af:Dig h)(ag:Dig lb)(ak:h.length<8796093022208)(al:lb.length<8796093022208)
  (hn:sgn s (val h+val lb)=n):
  Calls prog 75 #[.agg #[.bool s, .slice A h.length C], .agg #[.bool s, .slice B lb.length E]] w fun e w'=>∃v,e= .returned v /\ eT w' v n /\ Below w.heap.size w w':=by
 have HN:=lH hn;clear hn;obtain⟨W,U⟩:=eX (((w.alloc (.cells #[.bool s, .slice A h.length C] 38)).alloc (.cells #[.bool s, .slice B lb.length E] 38)).alloc (.cells #[.bool false, .slice none 0 0] 38));obtain⟨M,V,X,Y,G⟩:=kX w (.cells #[.bool s, .slice A h.length C] 38) (.cells #[.bool s, .slice B lb.length E] 38) (.cells #[.bool false, .slice none 0 0] 38);rw[<- U] at M V X Y G;have M:Row W w.heap.size 38 [.bool s, .slice A h.length C]:=M;have V:Row W (w.heap.size+1) 38 [.bool s, .slice B lb.length E]:=V;have X:Row W (w.heap.size+1+1) 38 [.bool false, .slice none 0 0]:=X;have HA:=lH (U32.below a8 G);have HB:=lH (U32.below a9 G);have ad:=lH G;have T:=lH Y;clear a8 a9 G Y;go_enter func75,ntmps75;go_wp2_with fail
 rw[<- U];have HW:=lH U;clear U;have f1:=M.at_ 0 rfl;have f2:=M.at_ 1 rfl;have f3:=V.at_ 1 rfl
 go_region_held3 (fun w'=> w'.cell? ⟨w.heap.size,0,none⟩=some (.bool s) /\ w'.cell? ⟨w.heap.size,1,none⟩=some (.slice A h.length C) /\ w'.cell? ⟨w.heap.size+1,1,none⟩=some (.slice B lb.length E))
  (first | exact⟨f1,f2,f3⟩ | exact⟨a0,a2,a4⟩ | exact⟨a1,a3,a5⟩ | exact⟨(iG _ _ _ _ _ _ _ _ oM).trans a1,(iG _ _ _ _ _ _ _ _ oM).trans a3,(iG _ _ _ _ _ _ _ _ oM).trans a5⟩ | go_keep)
  (first
   | (go_at_call 107
      refine(DK A B C E h lb _ (by exact HA.o) (by exact HB.o) af ag oM oM).mono ?_;rintro e w1 ⟨g,Z,rfl,a7,ah,aa,a6,r,hg⟩;have r:Below W.heap.size W w1:=(Below.refl _ W).drew.trans r;have hg:W.heap.size <= g:=hg;have R:=T.o;have a0:=((fu r).1 w.heap.size 0 oM).trans f1;have a2:=((fu r).1 w.heap.size 1 oM).trans f2;have a4:=((fu r).1 (w.heap.size+1) 1 oM).trans f3;have ab:=lH a6;have ac:=lH aa
      clear a6 R aa)
   | (go_at_call 106
      refine(lL s _ Z _ (by exact⟨_,_,rfl,Nat.le_refl _,by have:=ab.o;unfold maxLen;omega,a7.u32,ah⟩)).mono ?_;rintro e w2 ⟨v,rfl,ai,t⟩;have t:Below w1.heap.size w1 w2:=t;have hz:=a7.lt;have R:=T.o;have a1:=((fu t).1 w.heap.size 0 oM).trans a0;have a3:=((fu t).1 w.heap.size 1 oM).trans a2;have a5:=((fu t).1 (w.heap.size+1) 1 oM).trans a4;have O:Row w2 (w.heap.size+1+1) 38 [.bool false, .slice none 0 0]:=Row.below (Row.below X r oM) t oM;have k1:=O.at_ 0 rfl;have k2:=O.at_ 1 rfl;have k3:=O.free 0;have k4:=O.free 1;obtain⟨A',c',rfl,h1,h2,h3⟩:=ai;have H3:=lH h3;have aj:=lH R
      clear h3 R))
 go_wp2_with fail
 refine bodyPost_ret (v:= .agg #[.bool (decide (sgn s (val Z)<0)), .slice A' (ek (sgn s (val Z)).natAbs).length c']) (by simp[results,results75,go_sem,k1,k2]) rfl ?_;have HV:=ac.o;rw[<- HN.o, <- HV];refine⟨_,rfl,⟨A',c',rfl,h1,h2,?_⟩,?_⟩
 ·exact H3.o.kept (iP _ _ _ _ _ _) O (by simp)
 ·have ae:Below w.heap.size w w2:=(ad.o.trans (r.mono (by have:=T.o;omega))).trans (t.mono (by have:=T.o;omega));exact(ae.setCell (p:=⟨w.heap.size+1+1,0,none⟩) (by simp;omega) _).setCell (p:=⟨w.heap.size+1+1,1,none⟩) (by simp;omega) _
end
section
open Go.RowKit
theorem xk(A B:Option Addr)(r t:Nat)(s:Bool)(x y:Nat)(h lb:List Nat)(V:h=ek x)(X:lb=ek y)(n:Int)(w:World)(aa:U32 w A h)(ab:U32 w B lb)(al:Dig h)(am:Dig lb)(au:h.length<8796093022208)(av:lb.length<8796093022208)
  (a7:y <= x) (hn:sgn (s) (val h-val lb)=n):
  Calls prog 75 #[.agg #[.bool s, .slice A h.length r], .agg #[.bool (!s), .slice B lb.length t]] w fun e w'=>∃v,e= .returned v /\ eT w' v n /\ Below w.heap.size w w':=by
 have HN:=lH hn;have ho:0 <= iE x y:=by unfold iE;split <;> (try split) <;> omega
 have af:=lH V;have ag:=lH X;have ad:val lb <= val h:=by rw[V,X,fC,fC];omega
 have aq:lb.length <= h.length:=by rw[V,X];exact jT a7
 have ai:=lH ad;clear hn V X a7 ad;obtain⟨W,U⟩:=eX (((w.alloc (.cells #[.bool s, .slice A h.length r] 38)).alloc (.cells #[.bool (!s), .slice B lb.length t] 38)).alloc (.cells #[.bool false, .slice none 0 0] 38));obtain⟨M,Y,Z,a0,G⟩:=kX w (.cells #[.bool s, .slice A h.length r] 38) (.cells #[.bool (!s), .slice B lb.length t] 38) (.cells #[.bool false, .slice none 0 0] 38);rw[<- U] at M Y Z a0 G;have M:Row W w.heap.size 38 [.bool s, .slice A h.length r]:=M;have Y:Row W (w.heap.size+1) 38 [.bool (!s), .slice B lb.length t]:=Y;have Z:Row W (w.heap.size+1+1) 38 [.bool false, .slice none 0 0]:=Z;have HA:=lH (U32.below aa G);have HB:=lH (U32.below ab G);have aj:=lH G;have T:=lH a0;clear aa ab G a0;go_enter func75,ntmps75;go_wp2_with fail
 rw[<- U];have HW:=lH U;clear U;have e1:=M.at_ 1 rfl;have e2:=Y.at_ 1 rfl;have f1:=M.at_ 0 rfl;go_wp2_with fail
 refine(qH A B r t x y h lb W af ag HA.o HB.o oM oM).mono ?_;rintro e wd ⟨rfl,ao⟩;obtain⟨nd,rfl⟩:=ao;go_wp2_with fail
 have aw:(W.drewN nd).heap.size=W.heap.size:=rfl
 go_region_held3 (fun w'=> w'.cell? ⟨w.heap.size,0,none⟩=some (.bool (s)) /\ w'.cell? ⟨w.heap.size,1,none⟩=some (.slice A h.length r) /\ w'.cell? ⟨w.heap.size+1,1,none⟩=some (.slice B lb.length t))
  (first | exact⟨f1,e1,e2⟩ | exact⟨a5,a1,a3⟩ | exact⟨a6,a2,a4⟩ | exact⟨(iG _ _ _ _ _ _ _ _ oM).trans a6,(iG _ _ _ _ _ _ _ _ oM).trans a2,(iG _ _ _ _ _ _ _ _ oM).trans a4⟩ | go_keep)
  (first
   | (go_at_call 109
      refine(xg A B r t h lb _ (by exact HA.o) (by exact HB.o) al am oM aq ai.o).mono ?_;rintro e w1 ⟨g,lr,rfl,a9,an,ac,a8,C,hg⟩;have C:Below W.heap.size W w1:=(below_drewN _ W nd).trans ((Below.refl _ (W.drewN nd)).drew.trans C);have hg:W.heap.size <= g:=hg;have R:=T.o;have a5:=((fu C).1 (w.heap.size) 0 oM).trans f1;have a1:=((fu C).1 w.heap.size 1 oM).trans e1;have a3:=((fu C).1 (w.heap.size+1) 1 oM).trans e2;have ae:=lH a8;have ah:=lH ac
      clear a8 R ac)
   | (go_at_call 106
      refine(lL (s) _ lr _ (by exact⟨_,_,rfl,Nat.le_refl _,by have:=ae.o;unfold maxLen;omega,a9.u32,an⟩)).mono ?_;rintro e w2 ⟨v,rfl,ap,E⟩;have E:Below w1.heap.size w1 w2:=E;have hz:=a9.lt;have R:=T.o;have a6:=((fu E).1 (w.heap.size) 0 oM).trans a5;have a2:=((fu E).1 w.heap.size 1 oM).trans a1;have a4:=((fu E).1 (w.heap.size+1) 1 oM).trans a3;have O:Row w2 (w.heap.size+1+1) 38 [.bool false, .slice none 0 0]:=Row.below (Row.below Z C oM) E oM;have k1:=O.at_ 0 rfl;have k2:=O.at_ 1 rfl;have k3:=O.free 0;have k4:=O.free 1;obtain⟨A',c',rfl,h1,h2,h3⟩:=ap;have H3:=lH h3;have ar:=lH R
      clear h3 R))
 go_wp2_with fail
 refine bodyPost_ret (v:= .agg #[.bool (decide (sgn (s) (val lr)<0)), .slice A' (ek (sgn (s) (val lr)).natAbs).length c']) (by simp[results,results75,go_sem,k1,k2]) rfl ?_;have HV:=ah.o;rw[<- HN.o, <- HV];refine⟨_,rfl,⟨A',c',rfl,h1,h2,?_⟩,?_⟩
 ·exact H3.o.kept (iP _ _ _ _ _ _) O (by simp)
 ·have ak:Below w.heap.size w w2:=(aj.o.trans (C.mono (by have:=T.o;omega))).trans (E.mono (by have:=T.o;omega));exact(ak.setCell (p:=⟨w.heap.size+1+1,0,none⟩) (by simp;omega) _).setCell (p:=⟨w.heap.size+1+1,1,none⟩) (by simp;omega) _
theorem add_lt(A B:Option Addr)(r t:Nat)(s:Bool)(x y:Nat)(h lb:List Nat)(V:h=ek x)(X:lb=ek y)(n:Int)(w:World)(aa:U32 w A h)(ab:U32 w B lb)(al:Dig h)(am:Dig lb)(au:h.length<8796093022208)(av:lb.length<8796093022208)
  (a7:x<y) (hn:sgn (!s) (val lb-val h)=n):
  Calls prog 75 #[.agg #[.bool s, .slice A h.length r], .agg #[.bool (!s), .slice B lb.length t]] w fun e w'=>∃v,e= .returned v /\ eT w' v n /\ Below w.heap.size w w':=by
 have HN:=lH hn;have ho:¬0 <= iE x y:=by unfold iE;split <;> (try split) <;> omega
 have af:=lH V;have ag:=lH X;have ad:val h <= val lb:=by rw[V,X,fC,fC];omega
 have aq:h.length <= lb.length:=by rw[V,X];exact jT (Nat.le_of_lt a7)
 have ai:=lH ad;clear hn V X a7 ad;obtain⟨W,U⟩:=eX (((w.alloc (.cells #[.bool s, .slice A h.length r] 38)).alloc (.cells #[.bool (!s), .slice B lb.length t] 38)).alloc (.cells #[.bool false, .slice none 0 0] 38));obtain⟨Y,M,Z,a0,G⟩:=kX w (.cells #[.bool s, .slice A h.length r] 38) (.cells #[.bool (!s), .slice B lb.length t] 38) (.cells #[.bool false, .slice none 0 0] 38);rw[<- U] at Y M Z a0 G;have Y:Row W w.heap.size 38 [.bool s, .slice A h.length r]:=Y;have M:Row W (w.heap.size+1) 38 [.bool (!s), .slice B lb.length t]:=M;have Z:Row W (w.heap.size+1+1) 38 [.bool false, .slice none 0 0]:=Z;have HA:=lH (U32.below aa G);have HB:=lH (U32.below ab G);have aj:=lH G;have T:=lH a0;clear aa ab G a0;go_enter func75,ntmps75;go_wp2_with fail
 rw[<- U];have HW:=lH U;clear U;have e1:=Y.at_ 1 rfl;have e2:=M.at_ 1 rfl;have f1:=M.at_ 0 rfl;go_wp2_with fail
 refine(qH A B r t x y h lb W af ag HA.o HB.o oM oM).mono ?_;rintro e wd ⟨rfl,ao⟩;obtain⟨nd,rfl⟩:=ao;go_wp2_with fail
 have aw:(W.drewN nd).heap.size=W.heap.size:=rfl
 go_region_held3 (fun w'=> w'.cell? ⟨w.heap.size+1,0,none⟩=some (.bool (!s)) /\ w'.cell? ⟨w.heap.size,1,none⟩=some (.slice A h.length r) /\ w'.cell? ⟨w.heap.size+1,1,none⟩=some (.slice B lb.length t))
  (first | exact⟨f1,e1,e2⟩ | exact⟨a5,a1,a3⟩ | exact⟨a6,a2,a4⟩ | exact⟨(iG _ _ _ _ _ _ _ _ oM).trans a6,(iG _ _ _ _ _ _ _ _ oM).trans a2,(iG _ _ _ _ _ _ _ _ oM).trans a4⟩ | go_keep)
  (first
   | (go_at_call 109
      refine(xg B A t r lb h _ (by exact HB.o) (by exact HA.o) am al oM aq ai.o).mono ?_;rintro e w1 ⟨g,lr,rfl,a9,an,ac,a8,C,hg⟩;have C:Below W.heap.size W w1:=(below_drewN _ W nd).trans ((Below.refl _ (W.drewN nd)).drew.trans C);have hg:W.heap.size <= g:=hg;have R:=T.o;have a5:=((fu C).1 (w.heap.size+1) 0 oM).trans f1;have a1:=((fu C).1 w.heap.size 1 oM).trans e1;have a3:=((fu C).1 (w.heap.size+1) 1 oM).trans e2;have ae:=lH a8;have ah:=lH ac
      clear a8 R ac)
   | (go_at_call 106
      refine(lL (!s) _ lr _ (by exact⟨_,_,rfl,Nat.le_refl _,by have:=ae.o;unfold maxLen;omega,a9.u32,an⟩)).mono ?_;rintro e w2 ⟨v,rfl,ap,E⟩;have E:Below w1.heap.size w1 w2:=E;have hz:=a9.lt;have R:=T.o;have a6:=((fu E).1 (w.heap.size+1) 0 oM).trans a5;have a2:=((fu E).1 w.heap.size 1 oM).trans a1;have a4:=((fu E).1 (w.heap.size+1) 1 oM).trans a3;have O:Row w2 (w.heap.size+1+1) 38 [.bool false, .slice none 0 0]:=Row.below (Row.below Z C oM) E oM;have k1:=O.at_ 0 rfl;have k2:=O.at_ 1 rfl;have k3:=O.free 0;have k4:=O.free 1;obtain⟨A',c',rfl,h1,h2,h3⟩:=ap;have H3:=lH h3;have ar:=lH R
      clear h3 R))
 go_wp2_with fail
 refine bodyPost_ret (v:= .agg #[.bool (decide (sgn (!s) (val lr)<0)), .slice A' (ek (sgn (!s) (val lr)).natAbs).length c']) (by simp[results,results75,go_sem,k1,k2]) rfl ?_;have HV:=ah.o;rw[<- HN.o, <- HV];refine⟨_,rfl,⟨A',c',rfl,h1,h2,?_⟩,?_⟩
 ·exact H3.o.kept (iP _ _ _ _ _ _) O (by simp)
 ·have ak:Below w.heap.size w w2:=(aj.o.trans (C.mono (by have:=T.o;omega))).trans (E.mono (by have:=T.o;omega));exact(ak.setCell (p:=⟨w.heap.size+1+1,0,none⟩) (by simp;omega) _).setCell (p:=⟨w.heap.size+1+1,1,none⟩) (by simp;omega) _
end
section
open Go.RowKit
theorem pq(R T:Value)(a b:Int)(w:World)(U:eT w R a)(V:eT w T b)(C:(ek a.natAbs).length<8796093022208)(E:(ek b.natAbs).length<8796093022208):
  Calls prog 75 #[R,T] w fun e w'=>∃v,e= .returned v /\ eT w' v (a+b) /\ Below w.heap.size w w':=by
 obtain⟨A,r,rfl,W,Y,G⟩:=U;obtain⟨B,t,rfl,X,Z,M⟩:=V;by_cases h1:a<0 <;> by_cases O:b<0
 ·rw[decide_eq_true h1,decide_eq_true O];exact xh A B r t true _ _ (a+b) w G M (fV _) (fV _) C E (by rw[fC,fC];simp[sgn];omega)
 ·rw[decide_eq_true h1,decide_eq_false O]
  rcases Nat.lt_or_ge a.natAbs b.natAbs with h | h
  ·exact add_lt A B r t true a.natAbs b.natAbs _ _ rfl rfl (a+b) w G M (fV _) (fV _) C E h (by rw[fC,fC];simp[sgn];omega)
  ·exact xk A B r t true a.natAbs b.natAbs _ _ rfl rfl (a+b) w G M (fV _) (fV _) C E h (by rw[fC,fC];simp[sgn];omega)
 ·rw[decide_eq_false h1,decide_eq_true O]
  rcases Nat.lt_or_ge a.natAbs b.natAbs with h | h
  ·exact add_lt A B r t false a.natAbs b.natAbs _ _ rfl rfl (a+b) w G M (fV _) (fV _) C E h (by rw[fC,fC];simp[sgn];omega)
  ·exact xk A B r t false a.natAbs b.natAbs _ _ rfl rfl (a+b) w G M (fV _) (fV _) C E h (by rw[fC,fC];simp[sgn];omega)
 ·rw[decide_eq_false h1,decide_eq_false O];exact xh A B r t false _ _ (a+b) w G M (fV _) (fV _) C E (by rw[fC,fC];simp[sgn];omega)
theorem qI(M:Value)(a:Int)(w:World)(U:eT w M a):
  Calls prog 87 #[M] w fun e w'=>∃v,e= .returned v /\ eT w' v (-a) /\ Below w.heap.size w w':=by
 obtain⟨A,h,rfl,C,E,G⟩:=U;have T:=lH G;have O:=lH C;have R:=lH E;clear G C E
 have V:∀s:Bool,Calls prog 87 #[.agg #[.bool s, .slice A (ek a.natAbs).length h]] w fun e w'=>e= .returned (.agg #[.bool (!s && decide (0<(ek a.natAbs).length)), .slice A (ek a.natAbs).length h]) /\ Below w.heap.size w w':=by
  intro s;generalize (ek a.natAbs).length=n;cases s
  all_goals
   go_enter func87,ntmps87;go_wp2_with fail
   go_returns;exact⟨by simp,by go_grown⟩
 refine(V _).mono ?_;rintro e w' ⟨rfl,t⟩;have r:(-a).natAbs=a.natAbs:=Int.natAbs_neg a;refine⟨_,rfl,⟨A,h,?_,by rw[r];exact O.o,R.o,by rw[r];exact U32.below T.o t⟩,t⟩;rw[r]
 have:(!decide (a<0) && decide (0<(ek a.natAbs).length))=decide (-a<0):=by
  rw[Bool.eq_iff_iff];simp only[Bool.and_eq_true,Bool.not_eq_true',decide_eq_true_eq,decide_eq_false_iff_not,kI];omega
 rw[this]
def sgI(a:Int):Int:=if a<0 then -1 else if a=0 then 0 else 1
theorem jU(C:Value)(a:Int)(w:World)(E:eT w C a):
  Calls prog 73 #[C] w fun e w'=>e= .returned (.int .i64 (sgI a)) /\ Below w.heap.size w w':=by
 obtain⟨A,U,rfl,G,M,R⟩:=E;clear R G M;obtain⟨r,h⟩:=eX (sgI a);rw[<- h];have t:=lH h;clear h;by_cases h0:a=0
 ·have h:=t.o;subst h0;subst h;rw[show(ek (0:Int).natAbs).length=0 from by simp[il]];go_enter func73,ntmps73;go_wp2_with fail
  go_returns;exact⟨rfl,by go_grown⟩
 ·have V:0<(ek a.natAbs).length:=kI.2 oM;have h:=t.o;unfold sgI at h;have T:=lH h0;by_cases h1:a<0
  ·rw[if_pos h1] at h;subst h;rw[decide_eq_true h1];clear t h0 h1;generalize (ek a.natAbs).length=n at*;have O:(((n:Nat):Int)==0)=false:=by simp;omega
   go_enter func73,ntmps73;go_wp2_with fail
   go_returns;exact⟨rfl,by go_grown⟩
  ·rw[if_neg h1,if_neg h0] at h;subst h;rw[decide_eq_false h1];clear t h0 h1;generalize (ek a.natAbs).length=n at*;have O:(((n:Nat):Int)==0)=false:=by simp;omega
   go_enter func73,ntmps73;go_wp2_with fail
   go_returns;exact⟨rfl,by go_grown⟩
end
section
open Go.RowKit
theorem DL(va vb:Value)(a b:Int)(w:World)(ha:eT w va a)(hb:eT w vb b)(ac:(ek a.natAbs).length<8796093022208)(ad:(ek b.natAbs).length<8796093022208):
  Calls prog 136 #[va,vb] w fun e w'=>∃v,e= .returned v /\ eT w' v (a-b) /\ Below w.heap.size w w':=by
 have a1:=ha;have a2:=hb;obtain⟨A,T,rfl, -, -, -⟩:=ha;obtain⟨B,U,rfl, -, -, -⟩:=hb;generalize decide (a<0)=s at*;generalize decide (b<0)=t at*;have ai:=lH ac;have aj:=lH ad;clear ac ad;obtain⟨X,ae⟩:=eX ((ek a.natAbs).length);obtain⟨Y,af⟩:=eX ((ek b.natAbs).length);rw[<- ae] at a1 ⊢;rw[<- af] at a2 ⊢;clear ae af;obtain⟨W,V⟩:=eX (((w.alloc (.cells #[.bool s, .slice A X T] 38)).alloc (.cells #[.bool t, .slice B Y U] 38)).alloc (.cells #[.bool false, .slice none 0 0] 38));obtain⟨E,G,Z,a0,C⟩:=kX w (.cells #[.bool s, .slice A X T] 38) (.cells #[.bool t, .slice B Y U] 38) (.cells #[.bool false, .slice none 0 0] 38);rw[<- V] at E G Z a0 C;have E:Row W w.heap.size 38 [.bool s, .slice A X T]:=E;have G:Row W (w.heap.size+1) 38 [.bool t, .slice B Y U]:=G;have Z:Row W (w.heap.size+1+1) 38 [.bool false, .slice none 0 0]:=Z;have HA:=lH (a1.below C);have HB:=lH (a2.below C);have ak:=lH C;have R:=lH a0;clear a1 a2 C a0;go_enter func136,ntmps136;go_wp2_with fail
 rw[<- V];have HW:=lH V;clear V;have e1:=E.at_ 0 rfl;have e2:=E.at_ 1 rfl;have e3:=G.at_ 0 rfl;have e4:=G.at_ 1 rfl
 go_region_held3 (fun w'=> w'.cell? ⟨w.heap.size,0,none⟩=some (.bool s) /\ w'.cell? ⟨w.heap.size,1,none⟩=some (.slice A X T) /\ w'.cell? ⟨w.heap.size+1,0,none⟩=some (.bool t) /\ w'.cell? ⟨w.heap.size+1,1,none⟩=some (.slice B Y U))
  (first | exact⟨e1,e2,e3,e4⟩ | exact⟨a3,a5,a7,a9⟩ | exact⟨a4,a6,a8,aa⟩ | exact⟨(iG _ _ _ _ _ _ _ _ oM).trans a4,(iG _ _ _ _ _ _ _ _ oM).trans a6,(iG _ _ _ _ _ _ _ _ oM).trans a8,(iG _ _ _ _ _ _ _ _ oM).trans aa⟩ | go_keep)
  (first
   | (go_at_call 87
      refine(qI _ b _ (by exact HB.o)).mono ?_;rintro e w1 ⟨v1,rfl,ab,h⟩;have h:Below W.heap.size W w1:=(Below.refl _ W).drew.trans h;have O:=R.o;have ao:=h.size;have a3:=((fu h).1 w.heap.size 0 oM).trans e1;have a5:=((fu h).1 w.heap.size 1 oM).trans e2;have a7:=((fu h).1 (w.heap.size+1) 0 oM).trans e3;have a9:=((fu h).1 (w.heap.size+1) 1 oM).trans e4;have ah:=lH ab;have ag:=lH (eT.below HA.o h)
      clear ab O)
   | (go_at_call 75
      refine(pq _ _ a (-b) _ (by exact ag.o) (by exact ah.o) ai.o (by rw[Int.natAbs_neg];exact aj.o)).mono ?_;rintro e w2 ⟨v,rfl,am,r⟩;have r:Below w1.heap.size w1 w2:=r;have O:=R.o;have a4:=((fu r).1 w.heap.size 0 oM).trans a3;have a6:=((fu r).1 w.heap.size 1 oM).trans a5;have a8:=((fu r).1 (w.heap.size+1) 0 oM).trans a7;have aa:=((fu r).1 (w.heap.size+1) 1 oM).trans a9;have M:Row w2 (w.heap.size+1+1) 38 [.bool false, .slice none 0 0]:=Row.below (Row.below Z h oM) r oM;have k1:=M.at_ 0 rfl;have k2:=M.at_ 1 rfl;have k3:=M.free 0;have k4:=M.free 1;obtain⟨A',c',rfl,h1,h2,h3⟩:=am;have H1:=lH h1;have H3:=lH h3;have an:=lH O
      clear h1 h3 O))
 go_wp2_with fail
 refine bodyPost_ret (v:= .agg #[.bool (decide (a+ -b<0)), .slice A' (ek (a+ -b).natAbs).length c']) (by simp[results,results136,go_sem,k1,k2]) rfl ?_;rw[show a-b=a+ -b from Int.sub_eq_add_neg];refine⟨_,rfl,⟨A',c',rfl,H1.o,h2,?_⟩,?_⟩
 ·exact H3.o.kept (iP _ _ _ _ _ _) M (by simp)
 ·have al:Below w.heap.size w w2:=(ak.o.trans (h.mono (by have:=R.o;omega))).trans (r.mono (by have:=R.o;omega));exact(al.setCell (p:=⟨w.heap.size+1+1,0,none⟩) (by simp;omega) _).setCell (p:=⟨w.heap.size+1+1,1,none⟩) (by simp;omega) _
def iD(a b:Int):Int:=if a<b then -1 else if a=b then 0 else 1
theorem jB(va vb:Value)(a b:Int)(w:World)(ha:eT w va a)(hb:eT w vb b)(a6:(ek a.natAbs).length<8796093022208)(a7:(ek b.natAbs).length<8796093022208):
  Calls prog 81 #[va,vb] w fun e w'=>e= .returned (.int .i64 (iD a b)) /\ Below w.heap.size w w':=by
 obtain⟨A,X,rfl, -, -,Z⟩:=ha;obtain⟨B,Y,rfl, -, -,a0⟩:=hb;obtain⟨r,hr⟩:=eX (iD a b);rw[<- hr];have V:=lH hr;clear hr
 have a8:∀ (s t:Bool) (r:Int),(s≠t -> r=if s=true then -1 else 1) -> (s=true -> t=true -> r=iE b.natAbs a.natAbs) -> (s=false -> t=false -> r=iE a.natAbs b.natAbs) ->
   Calls prog 81 #[.agg #[.bool s, .slice A (ek a.natAbs).length X], .agg #[.bool t, .slice B (ek b.natAbs).length Y]] w fun e w'=>e= .returned (.int .i64 r) /\ Below w.heap.size w w':=by
  intro s t r G T U;generalize hx:a.natAbs=x at*;generalize hy:b.natAbs=y at*;clear V hx hy a b;obtain⟨la,a2⟩:∃l,l=ek x:=⟨_,rfl⟩
  obtain⟨lb,a3⟩:∃l,l=ek y:=⟨_,rfl⟩
  rw[<- a2] at Z a6 ⊢;rw[<- a3] at a0 a7 ⊢;have a4:Hid (la=ek x):=lH a2;have a5:Hid (lb=ek y):=lH a3;clear a2 a3;have a9:=lH Z;have aa:=lH a0;obtain⟨W,M⟩:=eX ((w.alloc (.cells #[.bool s, .slice A la.length X] 38)).alloc (.cells #[.bool t, .slice B lb.length Y] 38));have E:Below w.heap.size w W:=by rw[M];go_grown
  have HA:=lH (U32.below Z E);have HB:=lH (U32.below a0 E);clear Z a0;cases s <;> cases t
  ·have q:=U rfl rfl;have HQ:=lH q;clear G T U q;go_enter func81,ntmps81;go_wp2_with fail
   rw[<- M];refine(qH A B X Y x y la lb W a4 a5 HA.o HB.o oM oM).mono ?_;rintro e wd ⟨rfl,R⟩;have O:=E.trans (R.below _);have a1:=lH O;clear M E O R;go_wp2_with fail
   go_returns;exact⟨by rw[HQ.o];rfl,a1.o⟩
  ·have q:=G (by simp);simp at q;subst q;clear G T U;go_enter func81,ntmps81;go_wp2_with fail
   go_returns;exact⟨rfl,by go_grown⟩
  ·have q:=G (by simp);simp at q;subst q;clear G T U;go_enter func81,ntmps81;go_wp2_with fail
   go_returns;exact⟨rfl,by go_grown⟩
  ·have q:=T rfl rfl;have HQ:=lH q;clear G T U q;go_enter func81,ntmps81;go_wp2_with fail
   rw[<- M];refine(qH B A Y X y x lb la W a5 a4 HB.o HA.o oM oM).mono ?_;rintro e wd ⟨rfl,R⟩;have O:=E.trans (R.below _);have a1:=lH O;clear M E O R;go_wp2_with fail
   go_returns;exact⟨by rw[HQ.o];rfl,a1.o⟩
 refine a8 _ _ _ ?_ ?_ ?_
 ·intro h;rw[V.o];unfold iD;by_cases h1:a<0 <;> by_cases C:b<0
  ·rw[decide_eq_true h1,decide_eq_true C] at h;exact absurd rfl h
  ·rw[decide_eq_true h1,if_pos oM];simp
  ·rw[decide_eq_false h1,if_neg oM,if_neg oM];simp
  ·rw[decide_eq_false h1,decide_eq_false C] at h;exact absurd rfl h
 ·intro h1 C;rw[V.o];simp only[decide_eq_true_eq] at h1 C;unfold iD iE;split <;> (try split) <;> (try split) <;> (try split) <;> omega
 ·intro h1 C;rw[V.o];simp only[decide_eq_false_iff_not] at h1 C;unfold iD iE;split <;> (try split) <;> (try split) <;> (try split) <;> omega
end
section
open Go.RowKit
theorem DN(x y:Nat):val [x,y]=x+4294967296*y:=by simp[val,iy]
theorem DR{x y:Nat}(h:x<4294967296)(r:y<4294967296):Dig [x,y]:=Dig.cons h (Dig.cons r Dig.nil)
theorem DT(m:Nat)(h:m<18446744073709551616):IntKind.u64.wrap ((m:Nat):Int)=((m:Nat):Int):=by
 rw[IntKind.wrap_u64];omega
theorem DU(m:Nat)(h:0<m)(r:m <= 9223372036854775808):IntKind.u64.wrap (-((m:Nat):Int))=((18446744073709551616-m:Nat):Int):=by
 rw[IntKind.wrap_u64];omega
theorem DV(m:Nat)(h:0<m)(r:m <= 9223372036854775808):IntKind.u64.wrap (-((18446744073709551616-m:Nat):Int))=((m:Nat):Int):=by
 rw[IntKind.wrap_u64];omega
theorem tN(n:Int)(w:World)(h1: -9223372036854775808 <= n)(h2:n <= 9223372036854775807):
  Calls prog 74 #[.int .i64 n] w fun e w'=>∃v,e= .returned v /\ eT w' v n /\ Below w.heap.size w w':=by
 have a5:∀ (neg:Bool) (m:Nat),(neg=true -> 0<m) -> m <= 9223372036854775808 -> (neg=false -> m<9223372036854775808) -> sgn neg m=n ->
   Calls prog 74 #[.int .i64 n] w fun e w'=>∃v,e= .returned v /\ eT w' v n /\ Below w.heap.size w w':=by
  intro neg m R Z a4 U;clear h1 h2;have Y:((m%4294967296:Nat):Int)=((m:Nat):Int)%4294967296:=oM
  have X:((m / 4294967296:Nat):Int)=((m:Nat):Int) / 4294967296:=oM
  have a3:((m:Nat):Int) / 4294967296%4294967296=((m / 4294967296:Nat):Int):=oM
  have a0:val [m%4294967296,m / 4294967296]=m:=by rw[DN];omega
  have V:Dig [m%4294967296,m / 4294967296]:=DR oM oM;obtain⟨x,hx⟩:=eX (m%4294967296);obtain⟨y,hy⟩:=eX (m / 4294967296);rw[<- hx, <- hy] at a0 V;rw[<- hx] at Y;rw[<- hy] at X a3;have a9:((m:Nat):Int)%4294967296=((x:Nat):Int):=Y.symm;have ab:((m:Nat):Int) / 4294967296=((y:Nat):Int):=X.symm;have aa:((y:Nat):Int)<4294967296:=oM
  have HV:=lH a0;have HD:=lH V;have HS:=lH U;cases neg
  ·have hw:IntKind.u64.wrap ((m:Nat):Int)=((m:Nat):Int):=DT m oM;obtain rfl:n=(m:Int):=by rw[<- U];simp[sgn]
   have a6:¬(((m:Nat):Int)<0):=oM
   clear hx hy Y X a3 a0 V U R Z a4;go_enter func74,ntmps74;go_wp2_with fail
   obtain⟨W,O⟩:=eX ((w.alloc (.cells #[.bool false, .slice none 0 0] 38)).alloc (.cells #[.int .u32 (x:Nat), .int .u32 (y:Nat)] 169));obtain⟨t,C,a2,E⟩:=qx w (.cells #[.bool false, .slice none 0 0] 38) (.cells #[.int .u32 (x:Nat), .int .u32 (y:Nat)] 169);rw[<- O] at t C a2 E ⊢;have t:Row W w.heap.size 38 [.bool false, .slice none 0 0]:=t;have C:fA W (w.heap.size+1) [x,y]:=C;have a1:=lH E;clear O E;refine(lL false _ [x,y] W (by exact⟨_,2,rfl,Nat.le_refl _,by unfold maxLen;omega,C.u32,HD.o⟩)).mono ?_;rintro e w2 ⟨v,rfl,r,G⟩;rw[HV.o,HS.o] at r;have h:Row w2 w.heap.size 38 [.bool false, .slice none 0 0]:=Row.below t G oM;have k1:=h.at_ 0 rfl;have k2:=h.at_ 1 rfl;have k3:=h.free 0;have k4:=h.free 1;obtain⟨sv,Av,lv,cv,rfl⟩:=r.shape;have T:=qy a1.o h (by simp) (by simp) (Nat.le_refl _) G r;have M:=lH T;clear T r G;go_wp2_with fail
   refine bodyPost_ret (v:= .agg #[.bool sv, .slice Av lv cv]) (by simp[results,results74,go_sem,k1,k2]) rfl ?_;exact⟨_,rfl,M.o.1,M.o.2⟩
  ·obtain rfl:n= -(m:Int):=by rw[<- U];simp[sgn]
   have R:=R rfl;have a7:=DU m R Z;have a8:=DV m R Z;obtain⟨u,hu⟩:=eX (18446744073709551616-m);rw[<- hu] at a7 a8;have a6: -((m:Nat):Int)<0:=oM
   clear hx hy Y X a3 a0 V U Z a4 hu;go_enter func74,ntmps74;go_wp2_with fail
   obtain⟨W,O⟩:=eX ((w.alloc (.cells #[.bool false, .slice none 0 0] 38)).alloc (.cells #[.int .u32 (x:Nat), .int .u32 (y:Nat)] 169));obtain⟨t,C,a2,E⟩:=qx w (.cells #[.bool false, .slice none 0 0] 38) (.cells #[.int .u32 (x:Nat), .int .u32 (y:Nat)] 169);rw[<- O] at t C a2 E ⊢;have t:Row W w.heap.size 38 [.bool false, .slice none 0 0]:=t;have C:fA W (w.heap.size+1) [x,y]:=C;have a1:=lH E;clear O E;refine(lL true _ [x,y] W (by exact⟨_,2,rfl,Nat.le_refl _,by unfold maxLen;omega,C.u32,HD.o⟩)).mono ?_;rintro e w2 ⟨v,rfl,r,G⟩;rw[HV.o,HS.o] at r;have h:Row w2 w.heap.size 38 [.bool false, .slice none 0 0]:=Row.below t G oM;have k1:=h.at_ 0 rfl;have k2:=h.at_ 1 rfl;have k3:=h.free 0;have k4:=h.free 1;obtain⟨sv,Av,lv,cv,rfl⟩:=r.shape;have T:=qy a1.o h (by simp) (by simp) (Nat.le_refl _) G r;have M:=lH T;clear T r G;go_wp2_with fail
   refine bodyPost_ret (v:= .agg #[.bool sv, .slice Av lv cv]) (by simp[results,results74,go_sem,k1,k2]) rfl ?_;exact⟨_,rfl,M.o.1,M.o.2⟩
 by_cases hn:n<0
 ·exact a5 true n.natAbs oM oM (by simp) (by unfold sgn;simp;omega)
 ·exact a5 false n.natAbs (by simp) oM oM (by unfold sgn;simp;omega)
end
section
theorem DW(a b:Int)(V:b≠0)(q r:Int)(h:q=sgn (decide (a<0) !=decide (b<0)) (a.natAbs / b.natAbs))(t:r=sgn (decide (a<0)) (a.natAbs%b.natAbs)):
  r+b*q=a /\ r.natAbs<b.natAbs:=by
 have h1:=Nat.div_add_mod a.natAbs b.natAbs;have U:=Nat.mod_lt a.natAbs (show 0<b.natAbs by omega);generalize W:a.natAbs / b.natAbs=x at*;generalize X:a.natAbs%b.natAbs=y at*;have O:((b.natAbs:Nat):Int)* (x:Nat)+ (y:Nat)=(a.natAbs:Nat):=by rw[<- h1];simp
 rcases Int.lt_or_le a 0 with R | R <;> rcases Int.lt_or_le b 0 with T | T
 ·have G:((a.natAbs:Nat):Int)= -a:=oM
  have M:((b.natAbs:Nat):Int)= -b:=oM
  rw[G,M,Int.neg_mul] at O;have C:decide (a<0)=true:=decide_eq_true R;have E:decide (b<0)=true:=decide_eq_true T;rw[C,E] at h;rw[C] at t;have h:q=(x:Nat):=h;have t:r= -((y:Nat):Int):=t;subst h t;exact⟨by omega,by omega⟩
 ·have G:((a.natAbs:Nat):Int)= -a:=oM
  have M:((b.natAbs:Nat):Int)=b:=oM
  rw[G,M] at O;have C:decide (a<0)=true:=decide_eq_true R;have E:decide (b<0)=false:=decide_eq_false oM;rw[C,E] at h;rw[C] at t;have h:q= -((x:Nat):Int):=h;have t:r= -((y:Nat):Int):=t;subst h t;rw[Int.mul_neg];exact⟨by omega,by omega⟩
 ·have G:((a.natAbs:Nat):Int)=a:=oM
  have M:((b.natAbs:Nat):Int)= -b:=oM
  rw[G,M,Int.neg_mul] at O;have C:decide (a<0)=false:=decide_eq_false oM;have E:decide (b<0)=true:=decide_eq_true T;rw[C,E] at h;rw[C] at t;have h:q= -((x:Nat):Int):=h;have t:r=((y:Nat):Int):=t;subst h t;rw[Int.mul_neg];exact⟨by omega,by omega⟩
 ·have G:((a.natAbs:Nat):Int)=a:=oM
  have M:((b.natAbs:Nat):Int)=b:=oM
  rw[G,M] at O;have C:decide (a<0)=false:=decide_eq_false oM;have E:decide (b<0)=false:=decide_eq_false oM;rw[C,E] at h;rw[C] at t;have h:q=((x:Nat):Int):=h;have t:r=((y:Nat):Int):=t;subst h t;exact⟨by omega,by omega⟩
theorem xn{a b q r:Int}(h:r+b*q=a)(C:(0 <= r /\ r<b) \/ (b<r /\ r <= 0)):a.fdiv b=q /\ a.fmod b=r:=by
 rcases C with ⟨h1,t⟩ | ⟨h1,t⟩
 ·exact(Int.fdiv_fmod_unique oM).2 ⟨h,h1,t⟩
 ·exact(Int.fdiv_fmod_unique' oM).2 ⟨h,h1,t⟩
theorem xq{a b q r:Int}(h:r+b*q=a /\ r.natAbs<b.natAbs)(t:r=0 \/ decide (r<0)=decide (b<0)):q=a.fdiv b /\ r=a.fmod b:=by
 have E:r=0 \/ (r<0↔b<0):=t.imp id (fun e=>by simpa using e);obtain⟨h1,C⟩:=h;have:=xn h1 oM;exact⟨this.1.symm,this.2.symm⟩
theorem DX{a b q r:Int}(h:r+b*q=a /\ r.natAbs<b.natAbs)(E:r≠0)(t:decide (r<0)≠decide (b<0)):q-1=a.fdiv b /\ r+b=a.fmod b:=by
 have G:¬(r<0↔b<0):=fun e=>t (by simpa using e)
 obtain⟨h1,C⟩:=h;have:=xn (a:=a) (b:=b) (q:=q-1) (r:=r+b) (by rw[Int.mul_sub,Int.mul_one];omega) oM;exact⟨this.1.symm,this.2.symm⟩
end
end Go.Proofs.YtokagbahdkfagaaGreatDoor
