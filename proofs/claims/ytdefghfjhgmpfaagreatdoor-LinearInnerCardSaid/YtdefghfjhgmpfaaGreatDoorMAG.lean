/- Parts of this proof: Divide Plus Minus Add AddGe Small SubCmp From Floor. -/
import Derived.Test.YtdefghfjhgmpfaaGreatDoorMAF
import Derived.Test.YtdefghfjhgmpfaaGreatDoorMAA
import Derived.Test.YtdefghfjhgmpfaaGreatDoorMAC
namespace Go.Proofs.YtdefghfjhgmpfaaGreatDoor
open Tryz
section
open Go.RowKit
set_option maxRecDepth 100000 in
set_option maxHeartbeats 1600000 in
theorem yo(A B:Option Addr)(E cb a b:Nat)(w:World)(R:U32 w A (ek a))(hb:U32 w B (ek b))(bI:(ek a).length <= E)(bJ:E <= maxLen)(cq:(ek a).length<17592186044410)(ct:(ek b).length<17592186044410)(aS:0<b):
  Calls prog 178 #[.slice A (ek a).length E, .slice B (ek b).length cb] w fun e w'=>∃q r,e= .returned (.tuple #[q,r]) /\ iQ w' q (a / b) /\ iQ w' r (a%b) /\ Below w.heap.size w w':=by
 obtain⟨i0,bO,bY,bZ,cA⟩:=info_parts mK;have aZ:0<(ek b).length:=kK.2 aS;obtain⟨n,hn⟩:∃n,(ek b).length=n+1:=⟨(ek b).length-1,by omega⟩
 obtain⟨bo,cB,rfl,cf,ae⟩:=Cells.at_ hb oM;have cv:(((ek b).length:Nat):Int)-1=(n:Nat):=oM
 have cw:(((ek b).length:Nat):Int) <= 17592186044410:=oM
 have cx:(0:Int)<(((ek b).length:Nat):Int):=oM
 have cy:((n:Nat):Int)<(((ek b).length:Nat):Int):=oM
 have c0:=ae 0 oM;have cn:=ae n oM;rw[Nat.add_zero] at c0;have HN:=lH hn;have HC:=lH ae;clear hn ae;have ch:((dg (ek b) 0:Nat):Int)<4294967296:=by have:=fF b 0;omega
 have ci:((dg (ek b) n:Nat):Int)<4294967296:=by have:=fF b n;omega
 by_cases F:a<b
 ·have ho:fM a b= -1:=if_pos F;have b9:fM a b<0:=oM
  clear ho;go_enter func178,ntmps178;go_wp2_with fail
  refine(rT A _ E cb a b _ (by exact R) (by exact hb) oM oM).mono ?_;rintro e w1 ⟨rfl,T⟩;obtain⟨Z,rfl⟩:=T;go_wp2_with fail
  go_returns;have hB:=below_drewN w.heap.size w Z;have aK:Below w.heap.size w ((w.drewN Z).drew):=hB.drew;refine⟨_,_,rfl,⟨none,0,?_,?_,?_,?_⟩,⟨A,E,?_,?_,bJ,?_⟩,?_⟩
  ·rw[Nat.div_eq_of_lt F,gJ];rfl
  ·rw[Nat.div_eq_of_lt F,gJ];exact Nat.le_refl _
  ·unfold maxLen;omega
  ·rw[Nat.div_eq_of_lt F,gJ];exact .inl rfl
  ·rw[Nat.mod_eq_of_lt F];rfl
  ·rw[Nat.mod_eq_of_lt F];exact bI
  ·rw[Nat.mod_eq_of_lt F];first | exact R.below hB | exact R.below aK
  ·first | exact hB | exact aK
 ·have b9:(0:Int) <= fM a b:=by unfold fM;rw[if_neg F];split <;> omega
  have cz:decide (fM a b<0)=false:=decide_eq_false oM;clear b9;by_cases h1:(((ek b).length:Nat):Int)==1
  ·have h0:0<dg (ek b) 0:=by
    have Y:(ek b).length=1:=by have:=eq_of_beq h1;omega
    have U:=(jY b).2 aZ;rw[Y] at U;exact Nat.pos_of_ne_zero U
   go_enter func178,ntmps178;go_wp2_with fail
   refine(rT A _ E cb a b _ (by exact R) (by exact hb) oM oM).mono ?_;rintro e w1 ⟨rfl,T⟩;obtain⟨Z,rfl⟩:=T;go_wp2_with fail
   obtain⟨X,ah⟩:=eX (val (ek a)%dg (ek b) 0);have bQ:X<4294967296:=by rw[ah];exact Nat.lt_of_le_of_lt (Nat.le_of_lt (Nat.mod_lt _ h0)) oM
   refine(ER A E (dg (ek b) 0) (ek a) _ (by exact R) (fF a) oM oM oM).mono ?_;rw[<- ah];have bx:=lH ah;clear ah;rintro e w2 ⟨v,rfl,hq,aU⟩;have HQ:=lH hq;have ay:=lH aU;clear hq aU;go_wp2_with fail
   obtain⟨t,bg,al⟩:=iV w2 (.cells #[.int .u32 ((X:Nat):Int)] 160);obtain⟨W,hW⟩:=eX (w2.alloc (.cells #[.int .u32 ((X:Nat):Int)] 160));rw[<- hW] at t bg al ⊢;clear hW bg;have t:fI W w2.heap.size [X]:=t;have b2:Dig [X]:=Dig.cons bQ Dig.nil;refine(mM (some ⟨w2.heap.size,0,none⟩) 1 1 [X] W rfl (Nat.le_refl _) (by unfold maxLen;omega) t.u32 b2).mono ?_;rintro e w4 ⟨rfl,a8,rfl⟩;go_wp2_with fail
   go_returns
   have aY:b=dg (ek b) 0:=by
    have Y:(ek b).length=0+1:=by have:=eq_of_beq h1;omega
    have:=mQ (ek b);rw[fu,Y,gK,yf,Nat.pow_zero,Nat.one_mul,Nat.zero_add] at this;exact this
   have bU:val [X]=a%b:=by
    rw[xg,xe,Nat.mul_zero,Nat.add_zero,bx.o,fu, <- aY]
   have hq:=HQ.o;rw[fu, <- aY] at hq;have hB:Below w.heap.size w W:=(below_drewN _ w Z).trans ((ay.o.mono (Nat.le_refl _)).trans (al.mono ay.o.size));have hu:=t.u32.trimmed b2;rw[bU] at hu a8 ⊢;exact⟨_,_,rfl,hq.below al,⟨_,1,rfl,a8,by unfold maxLen;omega,hu⟩,hB⟩
  ·have a5:=iO (Nat.le_of_not_lt F);obtain⟨K,hK⟩:∃K,(ek a).length=(ek b).length+K:=⟨(ek a).length-(ek b).length,by omega⟩
   have cm:(((ek a).length:Nat):Int)-(((ek b).length:Nat):Int)=(K:Nat):=oM
   have co:((K:Nat):Int) <= 17592186044410:=oM
   have HK:=lH hK;clear hK a5
   obtain⟨m,hm⟩:∃m,n=m+1:=⟨n-1,by
    have:(ek b).length≠1:=fun e=>h1 (by rw[e];rfl)
    have:=HN.o
    omega⟩
   have cu:((m:Nat):Int) <= 17592186044410:=oM
   have b8:((m:Nat):Int)+2=(((ek b).length:Nat):Int):=oM
   have HM:=lH hm;have a0:=lH b8;clear hm b8;have c9:((((ek b).length:Nat):Int)==1)=false:=by simpa using h1
   clear h1;obtain⟨y,aj,bX,av,aw⟩:=EL (d:=dg (ek b) n) (Nat.pos_of_ne_zero (by have:=(jY b).2 aZ;rwa [HN.o,Nat.add_sub_cancel] at this)) oM;go_enter func178,ntmps178;go_wp2_with fail
   refine(rT A _ E cb a b _ (by exact R) (by exact hb) oM oM).mono ?_;rintro e w1 ⟨rfl,T⟩;obtain⟨Z,rfl⟩:=T;go_wp2_with fail
   refine(Tryz.bits_LeadingZeros32 _ _ oM oM).mono ?_;rintro e w2 ⟨rfl,rfl⟩;rw[Int.toNat_natCast,bX];go_wp2_with fail
   refine(ym A E y (ek a) _ (by exact R) (fF a) oM aj).mono ?_;rintro e w3 ⟨G,l1,rfl,t,T,bj,Y,aV,bK⟩;have bB:=lH bj;have br:=lH Y;clear bj Y;have a2:Below w.heap.size w w3:=(below_drewN _ w Z).trans aV;go_wp2_with fail
   refine(ym _ cb y (ek b) _ (by exact hb.below a2) (fF b) oM aj).mono ?_;rintro e w4 ⟨O,l2,rfl,r2,b0,bk,b5,a3,bL⟩;have cp:l2.length<17592186044416:=oM
   have aH:=lH bk;have c1:=lH b5;clear bk b5;go_wp2_with fail
   refine(mM _ l2.length l2.length l2 _ rfl (Nat.le_refl _) (by unfold maxLen;omega) r2.u32 b0).mono ?_;rintro e w5 ⟨rfl,a8,rfl⟩;rw[aH.o,fu];have ap:=EO HN.o aj av aw;have ao:(ek (2^y*b)).length=m+2:=by rw[ap.1,HM.o]
   rw[ao];have c2:=lH ao;have aC:=lH ap;have c5:=lH a8;have c7:=lH av;have c8:=lH aw;clear ao ap a8 av aw
   go_wp2_with (at_make;refine lM _ rfl (.tmp 51) (.tmp 51) 101 rfl 160 i0 (.int .u32 0) underlying101 bO bY bZ rfl _ _ _ rfl rfl rfl rfl ?_ ?_ ?_)
   ·omega
   ·unfold maxLen;omega
   intro w6 bd ad bS;have hr:=fI.made bd;clear bd;have HR:=lH hr;clear hr;go_wp2_with fail
   have aW:Below w.heap.size w w6:=a2.trans ((a3.mono a2.size).trans (ad.mono (Nat.le_trans a2.size a3.size)));have bb:fI w6 G l1:=(t.below a3 t.lt).below ad (Nat.lt_of_lt_of_le t.lt a3.size);have ar:fI w6 O l2:=r2.below ad r2.lt;have ck:G<O:=Nat.lt_of_lt_of_le t.lt bL;have bM:O<w4.heap.size:=r2.lt;have bW:w.heap.size <= G:=bK;obtain⟨V,hV⟩:=eX (2^y*b)
   have bl:U32 w6 (some ⟨O,0,none⟩) (ek V):=by
    have:=ar.u32.trimmed b0
    rwa [aH.o,fu, <- hV] at this
   have bp:=lH aW;have bw:=lH bb;have c4:=lH ar;have bC:=lH bl;have a1:=lH hV;clear aW bb ar bl hV t r2 aV a2 a3 ad;have ac:(ek V).length=m+2:=by rw[a1.o,aC.o.1,HM.o]
   have aR:2147483648 <= dg (ek V) (m+1):=by rw[a1.o, <- HM.o];exact aC.o.2
   have aQ:sv (ek V) 0 (m+2)=V:=by rw[<- ac, <- mQ,fu]
   have aP:0<V:=by rw[a1.o];exact Nat.mul_pos (Nat.pow_pos dC) aS
   have aO:V<BB^ (m+2):=by have:=mI V;rwa [ac] at this
   have an:l1.length=K+1+ (m+2):=by rw[br.o,HK.o];have:=a0.o;omega
   have aN:jT (2^y*a) V (m+2) (K+1) (K+1) l1 (List.replicate (K+1) 0):=
    jT.start an T (by rw[bB.o,fu]) (by rw[a1.o];exact EP (n:=m+1) (by rw[HK.o];have:=a0.o;omega) (by have:=a0.o;omega))
   have bu:=lH aN;have bE:=lH ac;have bG:=lH aR;have aJ:=lH aQ;have bF:=lH aO;have aA:=lH an;clear aN ac aR aQ aO an;obtain⟨gq,b4⟩:=eX (w4.heap.size);rw[<- b4] at HR bM ⊢;clear b4 bS;obtain⟨M,ab⟩:=eX (l1.length);rw[<- ab];have bs:=lH ab;have aM:((M:Nat):Int)=(K:Nat)+1+ ((m:Nat)+2):=by rw[ab,aA.o];simp
   have aa:=lH aM;clear ab aM
   go_loopw [11] (fun iv wr=>∃ (k:Nat) (z:Int) (lo q:List Nat),iv= .int .i64 z /\ Hid (z=(k:Nat)-1) /\ k <= K+1 /\ fI wr G lo /\ fI wr gq q /\ Hid (jT (2^y*a) V (m+2) (K+1) k lo q) /\ U32 wr (some ⟨O,0,none⟩) (ek V) /\ Below w.heap.size w wr)
    (fun iv _=>(intOf iv+1).toNat)
   case atStart=>exact⟨K+1,(K:Nat),l1,_,rfl,lH oM,Nat.le_refl _,bw.o,HR.o,bu,bC.o,bp.o⟩
   case round=>
    obtain⟨k,z,lo,q,rfl,U,hk,ag,a7,h,a9,a4⟩:=hrel
    rcases k with _ | i
    ·obtain rfl:z= -1:=by have:=U.o;omega
     have aE:=lH ag;have aG:=lH a7;have c6:=lH a9;have ba:K+1=q.length:=h.o.qlen.symm;have b7:M=lo.length:=by rw[h.o.len,bs.o,aA.o]
     have aD:=lH ba;have aB:=lH b7;clear ag a7 a9 ba b7 U;have b3:=h.o.done;have HF:=lH b3;clear b3;have cd:M<17592186044416:=by have h1:=aa.o;have h2:=a0.o;have h3:=HK.o;omega
     go_wp2_with fail
     refine(mM (some ⟨gq,0,none⟩) (K+1) (K+1) q _ aD.o (Nat.le_refl _) (by unfold maxLen;omega) (by exact aG.o.u32) (by exact h.o.qdig)).mono ?_;rintro e w8 ⟨rfl,ai,rfl⟩;have bA:=lH ai;clear ai;go_wp2_with fail
     refine(mM (some ⟨G,0,none⟩) M M lo _ aB.o (Nat.le_refl _) (by unfold maxLen;omega) (by exact aE.o.u32) (by exact h.o.dig)).mono ?_;rintro e w9 ⟨rfl,bh,rfl⟩;have bz:=lH bh;clear bh;go_wp2_with fail
     refine(ES G 0 M y (ek (val lo)) _ (by exact aE.o.u32.trimmed h.o.dig) (fF _) (by have:=bz.o;have:=aB.o;omega) aj).mono ?_;rintro e cC ⟨v,rfl,a6,aT⟩;have bv:=lH a6;have ax:=lH aT;clear a6 aT;go_wp2_with fail
     go_returns;have a5:=EQ (a:=a) (b:=b) (y:=y);rw[<- a1.o] at a5;have a6:=bv.o;rw[fu,HF.o.1,a5.2] at a6;have bP:=HF.o.2.trans a5.1;have bi:=aG.o.u32.trimmed h.o.qdig;have ai:=bA.o;rw[bP] at bi ai ⊢;exact⟨_,v,rfl,⟨_,K+1,rfl,by have:=aD.o;omega,by unfold maxLen;omega,bi.below ax.o⟩,a6,a4.trans (ax.o.mono a4.size)⟩
    ·obtain rfl:z=(i:Nat):=by have:=U.o;omega
     clear U;have ce:((i:Nat):Int)<(K:Nat)+1:=oM
     have cl:((i:Nat):Int)+ ((m:Nat)+2)+1 <= (M:Nat):=by have:=aa.o;omega
     go_wp2_with fail
     rw[show i+ (m+2)+1-i=m+3 by omega];have aq:i<q.length:=by rw[h.o.qlen];omega
     have ak:=lH h.o.len;obtain⟨D,hD⟩:=eX (sv lo i (m+3) / V)
     have cc:D<4294967296:=by
      rw[hD,Nat.div_lt_iff_lt_mul aP];exact h.o.pre
     refine(EK G i m _ _ O 0 lo (ek V) wr (by exact ag) h.o.dig (by have:=aa.o;have:=ak.o;omega) (by have:=aa.o;have:=a0.o;have:=HK.o;have:=ak.o;omega) (by exact a9) bE.o (fF _) oM bG.o (by rw[aJ.o];exact h.o.pre)).mono ?_;rw[aJ.o, <- hD];rintro e w8 ⟨rfl,bn,bc,b1,b6,be,bf,af⟩;have aX:Below w.heap.size w w8:=a4.grown af (by exact a4.size) (by simp;exact bW);have au:fI w8 gq q:=(af.block gq a7.lt (by simp;omega)).trans a7;have bm:U32 w8 (some ⟨O,0,none⟩) (ek V):=Cells.grownBy' a9 af oM;have hL:=h.o.step aP bF.o b6 b1 (fun j hj=>be j oM) bf;have aL:jT (2^y*a) V (m+2) (K+1) i bn (q.set i D):=by rw[hD];exact hL
     have cg:=au.cell aq;have cj:=au.free i;have c3:=lH aq;have HL:=lH aL;have az:=lH aX;have bH:=lH bm;have aF:=lH bc;clear b6 be bf hL aL hD aq aX bm bc af b1 ak a9 ag h a7 a4;go_wp2_with fail
     go_roundw
     case rel=>
      have bR:=au.set i D (v:= .int .u32 (D:Nat)) rfl;have am:=grownBy_set w8 gq i (.int .u32 (D:Nat));refine⟨i,((i:Nat):Int)-1,bn,q.set i D,by simp,lH rfl,by omega,?_,bR,HL,Cells.grownBy' bH.o am oM,az.o.grown am az.o.size (by simp;omega)⟩;exact(am.block G aF.o.lt (by simp;omega)).trans aF.o
     case measure=>exact mZ
end
section
open Go.RowKit
theorem ET(A B:Option Addr)(R T:Nat)(E lb:List Nat)(w:World)(ha:U32 w A E)(M:U32 w B lb)(a1:Dig E)(a2:Dig lb)(a9:E.length<17592186044416)(aa:lb.length<17592186044416):
  Calls prog 185 #[.slice A E.length R, .slice B lb.length T] w fun e w'=>∃g O,e= .returned (.slice (some ⟨g,0,none⟩) O.length O.length) /\ fI w' g O /\ Dig O /\ val O=val E+val lb /\ O.length=max E.length lb.length+1 /\ Below w.heap.size w w' /\ w.heap.size <= g:=by
 obtain⟨i0,aj,aq,ar,aF⟩:=info_parts mK
 obtain⟨X,cX,t,Y,cY,F,hx,hy,ag,ah,aD,am,ao,af⟩:∃X cX t Y cY F,U32 w X t /\ U32 w Y F /\ Dig t /\ Dig F /\ t.length<17592186044416 /\ F.length <= t.length /\ Hid (max E.length lb.length=t.length) /\
   ((E.length<lb.length /\ Y=A /\ X=B /\ cY=R /\ cX=T /\ F=E /\ t=lb) \/ (¬E.length<lb.length /\ X=A /\ Y=B /\ cX=R /\ cY=T /\ t=E /\ F=lb)):=by
  by_cases h:E.length<lb.length
  ·exact⟨B,T,lb,A,R,E,M,ha,a2,a1,aa,by omega,by show max _ _=_;omega, .inl ⟨h,rfl,rfl,rfl,rfl,rfl,rfl⟩⟩
  ·exact⟨A,R,E,B,T,lb,ha,M,a1,a2,a9,by omega,by show max _ _=_;omega, .inr ⟨h,rfl,rfl,rfl,rfl,rfl,rfl⟩⟩
 clear ha M a1 a2 a9 aa
 rcases af with ⟨an,rfl,rfl,rfl,rfl,rfl,rfl⟩ | ⟨an,rfl,rfl,rfl,rfl,rfl,rfl⟩
 all_goals
  go_enter func185,ntmps185
  go_wp2_with (at_make;refine lM _ rfl (.tmp 18) (.tmp 18) 101 rfl 160 i0 (.int .u32 0) underlying101 aj aq ar rfl _ _ _ rfl rfl rfl rfl ?_ ?_ ?_)
  ·omega
  ·unfold maxLen;omega
  intro w1 G ad aE;have hr:=fI.made G;clear G;have HR:=lH hr;clear hr;go_wp2_with fail
  go_loopw [6,22] (fun cv iv wr=>∃ (k c:Nat) (lo:List Nat),k <= t.length /\ cv= .int .u64 c /\ iv= .int .i64 k /\ fI wr w.heap.size lo /\ lo.length=t.length+1 /\ Dig lo /\ c <= 1 /\ Hid (val (lo.take k)+BB^k*c=val (t.take k)+val (F.take k)) /\ Below w.heap.size w wr)
   (fun _ iv _=>t.length-(intOf iv).toNat)
  case atStart=>exact⟨0,0,_,Nat.zero_le _,rfl,rfl,HR.o,List.length_replicate,Dig.replicate _,by omega,by show _=_;simp[val],ad⟩
  case round=>
   obtain⟨k,c,lo,hk,rfl,rfl,G,Z,a8,aA,a3,U⟩:=hrel;have a0:=lH a8;have aw:=lH Z;clear a8;by_cases ak:k<t.length
   ·obtain⟨b,au,rfl,M,a5⟩:=Cells.at_ hx oM;have a7:=a5 k ak;have ay:((dg t k:Nat):Int)<4294967296:=by have:=ag k;omega
    have hg:=G.cell (j:=k) oM;have ai:=G.free k;have aB:=((fw U).1 b (au+k) M).trans a7;have ax:b<w.heap.size:=M;clear a5 a7;by_cases al:k<F.length
    ·obtain⟨b2,av,rfl,ae,a6⟩:=Cells.at_ hy oM;have aC:=((fw U).1 b2 (av+k) ae).trans (a6 k al);have az:((dg F k:Nat):Int)<4294967296:=by have:=ah k;omega
     clear a6;go_wp2_with fail
     go_roundw
     case rel=>
      refine⟨k+1,(c+dg t k+dg F k) / 4294967296,lo.set k ((c+dg t k+dg F k)%4294967296),by omega,by simp,by simp,G.set k _ (by simp),by rw[List.length_set];exact Z,a0.o.set _ _ (Nat.mod_lt _ oM),by omega,uC oM a3 rfl,U.setCell (Nat.le_refl _) _⟩
     case measure=>simp[intOf];omega
    ·have ab:dg F k=0:=jm oM;have ac:=lH ab;clear ab;go_wp2_with fail
     go_roundw
     case rel=>
      refine⟨k+1,(c+dg t k) / 4294967296,lo.set k ((c+dg t k)%4294967296),by omega,by simp,by simp,G.set k _ (by simp),by rw[List.length_set];exact Z,a0.o.set _ _ (Nat.mod_lt _ oM),by omega,uC oM a3 (by rw[ac.o];rfl),U.setCell (Nat.le_refl _) _⟩
     case measure=>simp[intOf];omega
   ·obtain rfl:k=t.length:=oM
    have ai:=G.free t.length;have hg:=G.cell (j:=t.length) oM;go_wp2_with fail
    go_returns;have ap:=G.set t.length c rfl;have a4:(lo.set t.length c).length=t.length+1:=by rw[List.length_set];exact Z
    refine⟨w.heap.size,lo.set t.length c,by rw[a4];rfl,ap,a0.o.set _ _ oM,?_,by rw[a4,ao.o],U.setCell (Nat.le_refl _) _,Nat.le_refl _⟩;have h1:=kM lo t.length c oM;rw[<- a4,iF (Nat.le_refl _),a3.o,iF (Nat.le_refl _),iF am] at h1;omega
end
section
open Go.RowKit
theorem yt(A B:Option Addr)(ca cb:Nat)(h lb:List Nat)(w:World)(ha:U32 w A h)(hb:U32 w B lb)(ad:Dig h)(ae:Dig lb)(av:h.length<17592186044416)(ai:lb.length <= h.length)(a2:val lb <= val h):
  Calls prog 186 #[.slice A h.length ca, .slice B lb.length cb] w fun e w'=>∃g E,e= .returned (.slice (some ⟨g,0,none⟩) E.length E.length) /\ fI w' g E /\ Dig E /\ val E=val h-val lb /\ E.length=h.length /\ Below w.heap.size w w' /\ w.heap.size <= g:=by
 obtain⟨i0,af,ak,al,am⟩:=info_parts mK;have a4:=lH a2;clear a2;go_enter func186,ntmps186
 go_wp2_with (at_make;refine lM _ rfl (.tmp 11) (.tmp 11) 101 rfl 160 i0 (.int .u32 0) underlying101 af ak al rfl _ _ _ rfl rfl rfl rfl ?_ ?_ ?_)
 ·first | omega | (rw[am];omega)
 ·unfold maxLen;omega
 intro w1 t a6 ax;have hr:=fI.made t;clear t;have HR:=lH hr;clear hr;go_wp2_with fail
 go_loopw [6,15] (fun cv X wr=>∃ (k c:Nat) (lo:List Nat),k <= h.length /\ cv= .int .i64 c /\ X= .int .i64 k /\ fI wr w.heap.size lo /\ lo.length=h.length /\ Dig lo /\ c <= 1 /\ Hid (val (h.take k)+BB^k*c=val (lo.take k)+val (lb.take k)) /\ Below w.heap.size w wr)
  (fun _ X _=>h.length-(intOf X).toNat)
 case atStart=>exact⟨0,0,_,Nat.zero_le _,rfl,rfl,HR.o,List.length_replicate,Dig.replicate _,by omega,by show _=_;simp[val],a6⟩
 case round=>
  obtain⟨k,c,lo,hk,rfl,rfl,t,M,a1,ac,T,G⟩:=hrel;have O:=lH a1;clear a1;by_cases ag:k<h.length
  ·obtain⟨b,an,rfl,aa,Y⟩:=Cells.at_ ha oM;have a0:=Y k ag;have ap:((dg h k:Nat):Int)<4294967296:=by have:=ad k;omega
   have hg:=t.cell (j:=k) oM;have au:=t.free k;have aq:=((fw G).1 b (an+k) aa).trans a0;clear Y a0;have ab:((dg lb k:Nat):Int)<4294967296:=by have:=ae k;omega
   by_cases ah:k<lb.length
   ·obtain⟨b2,ao,rfl,a8,Z⟩:=Cells.at_ hb oM;have ar:=((fw G).1 b2 (ao+k) a8).trans (Z k ah);clear Z;obtain⟨F,aj⟩:∃n:Int,((dg h k:Nat):Int)-(c:Nat)=n:=⟨_,rfl⟩
    obtain⟨R,aw⟩:∃n:Int,F-((dg lb k:Nat):Int)=n:=⟨_,rfl⟩
    have a7: -4294967297<R:=oM
    have a9:R<4294967297:=oM
    by_cases U:R<0
    all_goals
     go_wp2_with fail
     go_roundw
     case rel=>
      refine⟨k+1,if R<0 then 1 else 0,lo.set k ((dg h k+4294967296-c-dg lb k)%4294967296),by omega,?_,by simp,t.set k _ ?_,by rw[List.length_set];exact M,O.o.set _ _ (Nat.mod_lt _ oM),by split <;> omega,uD oM T ?_,G.setCell (Nat.le_refl _) _⟩
      ·simp[U]
      ·refine congrArg (Value.int .u32) ?_;omega
      ·split <;> omega
     case measure=>simp[intOf];omega
   ·have a3:dg lb k=0:=jm oM;have a5:=lH a3;clear a3 ab;obtain⟨F,aj⟩:∃n:Int,((dg h k:Nat):Int)-(c:Nat)=n:=⟨_,rfl⟩
    have a7: -4294967297<F:=oM
    have a9:F<4294967297:=oM
    by_cases U:F<0
    all_goals
     go_wp2_with fail
     go_roundw
     case rel=>
      refine⟨k+1,if F<0 then 1 else 0,lo.set k ((dg h k+4294967296-c)%4294967296),by omega,?_,by simp,t.set k _ ?_,by rw[List.length_set];exact M,O.o.set _ _ (Nat.mod_lt _ oM),by split <;> omega,uD oM T ?_,G.setCell (Nat.le_refl _) _⟩
      ·simp[U]
      ·refine congrArg (Value.int .u32) ?_;omega
      ·rw[a5.o];split <;> omega
     case measure=>simp[intOf];omega
  ·obtain rfl:k=h.length:=oM
   go_wp2_with fail
   go_returns;refine⟨w.heap.size,lo,by rw[M];rfl,t,O.o,?_,M,G,Nat.le_refl _⟩;have h1:=T.o;rw[iF (Nat.le_refl _),iF oM,iF ai] at h1;rw[<- M] at h1;exact uE O.o a4.o ac h1
end
section
open Go.RowKit
theorem yu(A B:Option Addr)(F G:Nat)(s:Bool)(h lb:List Nat)(n:Int)(w:World)(a9:U32 w A h)(aa:U32 w B lb)(ag:Dig h)(ah:Dig lb)(al:h.length<8796093022208)(am:lb.length<8796093022208)
  (hn:sgn s (val h+val lb)=n):
  Calls prog 163 #[.agg #[.bool s, .slice A h.length F], .agg #[.bool s, .slice B lb.length G]] w fun e w'=>∃v,e= .returned v /\ eQ w' v n /\ Below w.heap.size w w':=by
 have HN:=lH hn;clear hn;obtain⟨W,X⟩:=eX (((w.alloc (.cells #[.bool s, .slice A h.length F] 103)).alloc (.cells #[.bool s, .slice B lb.length G] 103)).alloc (.cells #[.bool false, .slice none 0 0] 103));obtain⟨O,Y,Z,a0,M⟩:=kQ w (.cells #[.bool s, .slice A h.length F] 103) (.cells #[.bool s, .slice B lb.length G] 103) (.cells #[.bool false, .slice none 0 0] 103);rw[<- X] at O Y Z a0 M;have O:Row W w.heap.size 103 [.bool s, .slice A h.length F]:=O;have Y:Row W (w.heap.size+1) 103 [.bool s, .slice B lb.length G]:=Y;have Z:Row W (w.heap.size+1+1) 103 [.bool false, .slice none 0 0]:=Z;have HA:=lH (U32.below a9 M);have HB:=lH (U32.below aa M);have ae:=lH M;have U:=lH a0;clear a9 aa M a0;go_enter func163,ntmps163;go_wp2_with fail
 rw[<- X];have HW:=lH X;clear X;have f1:=O.at_ 0 rfl;have f2:=O.at_ 1 rfl;have f3:=Y.at_ 1 rfl
 go_region_held3 (fun w'=> w'.cell? ⟨w.heap.size,0,none⟩=some (.bool s) /\ w'.cell? ⟨w.heap.size,1,none⟩=some (.slice A h.length F) /\ w'.cell? ⟨w.heap.size+1,1,none⟩=some (.slice B lb.length G))
  (first | exact⟨f1,f2,f3⟩ | exact⟨a1,a3,a5⟩ | exact⟨a2,a4,a6⟩ | exact⟨(iP _ _ _ _ _ _ _ _ oM).trans a2,(iP _ _ _ _ _ _ _ _ oM).trans a4,(iP _ _ _ _ _ _ _ _ oM).trans a6⟩ | go_keep)
  (first
   | (go_at_call 185
      refine(ET A B F G h lb _ (by exact HA.o) (by exact HB.o) ag ah oM oM).mono ?_;rintro e w1 ⟨g,lr,rfl,a8,ai,ab,a7,t,hg⟩;have t:Below W.heap.size W w1:=(Below.refl _ W).drew.trans t;have hg:W.heap.size <= g:=hg;have T:=U.o;have a1:=((fw t).1 w.heap.size 0 oM).trans f1;have a3:=((fw t).1 w.heap.size 1 oM).trans f2;have a5:=((fw t).1 (w.heap.size+1) 1 oM).trans f3;have ac:=lH a7;have ad:=lH ab
      clear a7 T ab)
   | (go_at_call 140
      refine(lN s _ lr _ (by exact⟨_,_,rfl,Nat.le_refl _,by have:=ac.o;unfold maxLen;omega,a8.u32,ai⟩)).mono ?_;rintro e w2 ⟨v,rfl,aj,E⟩;have E:Below w1.heap.size w1 w2:=E;have hz:=a8.lt;have T:=U.o;have a2:=((fw E).1 w.heap.size 0 oM).trans a1;have a4:=((fw E).1 w.heap.size 1 oM).trans a3;have a6:=((fw E).1 (w.heap.size+1) 1 oM).trans a5;have R:Row w2 (w.heap.size+1+1) 103 [.bool false, .slice none 0 0]:=Row.below (Row.below Z t oM) E oM;have k1:=R.at_ 0 rfl;have k2:=R.at_ 1 rfl;have k3:=R.free 0;have k4:=R.free 1;obtain⟨A',c',rfl,h1,h2,h3⟩:=aj;have H3:=lH h3;have ak:=lH T
      clear h3 T))
 go_wp2_with fail
 refine bodyPost_ret (v:= .agg #[.bool (decide (sgn s (val lr)<0)), .slice A' (ek (sgn s (val lr)).natAbs).length c']) (by simp[results,results163,go_sem,k1,k2]) rfl ?_;have HV:=ad.o;rw[<- HN.o, <- HV];refine⟨_,rfl,⟨A',c',rfl,h1,h2,?_⟩,?_⟩
 ·exact H3.o.kept (je _ _ _ _ _ _) R (by simp)
 ·have af:Below w.heap.size w w2:=(ae.o.trans (t.mono (by have:=U.o;omega))).trans (E.mono (by have:=U.o;omega));exact(af.setCell (p:=⟨w.heap.size+1+1,0,none⟩) (by simp;omega) _).setCell (p:=⟨w.heap.size+1+1,1,none⟩) (by simp;omega) _
end
section
open Go.RowKit
theorem yw(A B:Option Addr)(t E:Nat)(s:Bool)(x y:Nat)(h lb:List Nat)(Y:h=ek x)(Z:lb=ek y)(n:Int)(w:World)(aa:U32 w A h)(ab:U32 w B lb)(al:Dig h)(am:Dig lb)(au:h.length<8796093022208)(av:lb.length<8796093022208)
  (a7:y <= x) (hn:sgn (s) (val h-val lb)=n):
  Calls prog 163 #[.agg #[.bool s, .slice A h.length t], .agg #[.bool (!s), .slice B lb.length E]] w fun e w'=>∃v,e= .returned v /\ eQ w' v n /\ Below w.heap.size w w':=by
 have HN:=lH hn;have ho:0 <= fM x y:=by unfold fM;split <;> (try split) <;> omega
 have af:=lH Y;have ag:=lH Z;have ad:val lb <= val h:=by rw[Y,Z,fu,fu];omega
 have aq:lb.length <= h.length:=by rw[Y,Z];exact iO a7
 have ai:=lH ad;clear hn Y Z a7 ad;obtain⟨W,X⟩:=eX (((w.alloc (.cells #[.bool s, .slice A h.length t] 103)).alloc (.cells #[.bool (!s), .slice B lb.length E] 103)).alloc (.cells #[.bool false, .slice none 0 0] 103));obtain⟨O,r2,r3,a0,M⟩:=kQ w (.cells #[.bool s, .slice A h.length t] 103) (.cells #[.bool (!s), .slice B lb.length E] 103) (.cells #[.bool false, .slice none 0 0] 103);rw[<- X] at O r2 r3 a0 M;have O:Row W w.heap.size 103 [.bool s, .slice A h.length t]:=O;have r2:Row W (w.heap.size+1) 103 [.bool (!s), .slice B lb.length E]:=r2;have r3:Row W (w.heap.size+1+1) 103 [.bool false, .slice none 0 0]:=r3;have HA:=lH (U32.below aa M);have HB:=lH (U32.below ab M);have aj:=lH M;have U:=lH a0;clear aa ab M a0;go_enter func163,ntmps163;go_wp2_with fail
 rw[<- X];have HW:=lH X;clear X;have e1:=O.at_ 1 rfl;have e2:=r2.at_ 1 rfl;have f1:=O.at_ 0 rfl;go_wp2_with fail
 refine(rU A B t E x y h lb W af ag HA.o HB.o oM oM).mono ?_;rintro e wd ⟨rfl,ao⟩;obtain⟨nd,rfl⟩:=ao;go_wp2_with fail
 have aw:(W.drewN nd).heap.size=W.heap.size:=rfl
 go_region_held3 (fun w'=> w'.cell? ⟨w.heap.size,0,none⟩=some (.bool (s)) /\ w'.cell? ⟨w.heap.size,1,none⟩=some (.slice A h.length t) /\ w'.cell? ⟨w.heap.size+1,1,none⟩=some (.slice B lb.length E))
  (first | exact⟨f1,e1,e2⟩ | exact⟨a5,a1,a3⟩ | exact⟨a6,a2,a4⟩ | exact⟨(iP _ _ _ _ _ _ _ _ oM).trans a6,(iP _ _ _ _ _ _ _ _ oM).trans a2,(iP _ _ _ _ _ _ _ _ oM).trans a4⟩ | go_keep)
  (first
   | (go_at_call 186
      refine(yt A B t E h lb _ (by exact HA.o) (by exact HB.o) al am oM aq ai.o).mono ?_;rintro e w1 ⟨g,lr,rfl,a9,an,ac,a8,F,hg⟩;have F:Below W.heap.size W w1:=(below_drewN _ W nd).trans ((Below.refl _ (W.drewN nd)).drew.trans F);have hg:W.heap.size <= g:=hg;have T:=U.o;have a5:=((fw F).1 (w.heap.size) 0 oM).trans f1;have a1:=((fw F).1 w.heap.size 1 oM).trans e1;have a3:=((fw F).1 (w.heap.size+1) 1 oM).trans e2;have ae:=lH a8;have ah:=lH ac
      clear a8 T ac)
   | (go_at_call 140
      refine(lN (s) _ lr _ (by exact⟨_,_,rfl,Nat.le_refl _,by have:=ae.o;unfold maxLen;omega,a9.u32,an⟩)).mono ?_;rintro e w2 ⟨v,rfl,ap,G⟩;have G:Below w1.heap.size w1 w2:=G;have hz:=a9.lt;have T:=U.o;have a6:=((fw G).1 (w.heap.size) 0 oM).trans a5;have a2:=((fw G).1 w.heap.size 1 oM).trans a1;have a4:=((fw G).1 (w.heap.size+1) 1 oM).trans a3;have R:Row w2 (w.heap.size+1+1) 103 [.bool false, .slice none 0 0]:=Row.below (Row.below r3 F oM) G oM;have k1:=R.at_ 0 rfl;have k2:=R.at_ 1 rfl;have k3:=R.free 0;have k4:=R.free 1;obtain⟨A',c',rfl,h1,h2,h3⟩:=ap;have H3:=lH h3;have ar:=lH T
      clear h3 T))
 go_wp2_with fail
 refine bodyPost_ret (v:= .agg #[.bool (decide (sgn (s) (val lr)<0)), .slice A' (ek (sgn (s) (val lr)).natAbs).length c']) (by simp[results,results163,go_sem,k1,k2]) rfl ?_;have HV:=ah.o;rw[<- HN.o, <- HV];refine⟨_,rfl,⟨A',c',rfl,h1,h2,?_⟩,?_⟩
 ·exact H3.o.kept (je _ _ _ _ _ _) R (by simp)
 ·have ak:Below w.heap.size w w2:=(aj.o.trans (F.mono (by have:=U.o;omega))).trans (G.mono (by have:=U.o;omega));exact(ak.setCell (p:=⟨w.heap.size+1+1,0,none⟩) (by simp;omega) _).setCell (p:=⟨w.heap.size+1+1,1,none⟩) (by simp;omega) _
theorem add_lt(A B:Option Addr)(t E:Nat)(s:Bool)(x y:Nat)(h lb:List Nat)(Y:h=ek x)(Z:lb=ek y)(n:Int)(w:World)(aa:U32 w A h)(ab:U32 w B lb)(al:Dig h)(am:Dig lb)(au:h.length<8796093022208)(av:lb.length<8796093022208)
  (a7:x<y) (hn:sgn (!s) (val lb-val h)=n):
  Calls prog 163 #[.agg #[.bool s, .slice A h.length t], .agg #[.bool (!s), .slice B lb.length E]] w fun e w'=>∃v,e= .returned v /\ eQ w' v n /\ Below w.heap.size w w':=by
 have HN:=lH hn;have ho:¬0 <= fM x y:=by unfold fM;split <;> (try split) <;> omega
 have af:=lH Y;have ag:=lH Z;have ad:val h <= val lb:=by rw[Y,Z,fu,fu];omega
 have aq:h.length <= lb.length:=by rw[Y,Z];exact iO (Nat.le_of_lt a7)
 have ai:=lH ad;clear hn Y Z a7 ad;obtain⟨W,X⟩:=eX (((w.alloc (.cells #[.bool s, .slice A h.length t] 103)).alloc (.cells #[.bool (!s), .slice B lb.length E] 103)).alloc (.cells #[.bool false, .slice none 0 0] 103));obtain⟨r1,O,r3,a0,M⟩:=kQ w (.cells #[.bool s, .slice A h.length t] 103) (.cells #[.bool (!s), .slice B lb.length E] 103) (.cells #[.bool false, .slice none 0 0] 103);rw[<- X] at r1 O r3 a0 M;have r1:Row W w.heap.size 103 [.bool s, .slice A h.length t]:=r1;have O:Row W (w.heap.size+1) 103 [.bool (!s), .slice B lb.length E]:=O;have r3:Row W (w.heap.size+1+1) 103 [.bool false, .slice none 0 0]:=r3;have HA:=lH (U32.below aa M);have HB:=lH (U32.below ab M);have aj:=lH M;have U:=lH a0;clear aa ab M a0;go_enter func163,ntmps163;go_wp2_with fail
 rw[<- X];have HW:=lH X;clear X;have e1:=r1.at_ 1 rfl;have e2:=O.at_ 1 rfl;have f1:=O.at_ 0 rfl;go_wp2_with fail
 refine(rU A B t E x y h lb W af ag HA.o HB.o oM oM).mono ?_;rintro e wd ⟨rfl,ao⟩;obtain⟨nd,rfl⟩:=ao;go_wp2_with fail
 have aw:(W.drewN nd).heap.size=W.heap.size:=rfl
 go_region_held3 (fun w'=> w'.cell? ⟨w.heap.size+1,0,none⟩=some (.bool (!s)) /\ w'.cell? ⟨w.heap.size,1,none⟩=some (.slice A h.length t) /\ w'.cell? ⟨w.heap.size+1,1,none⟩=some (.slice B lb.length E))
  (first | exact⟨f1,e1,e2⟩ | exact⟨a5,a1,a3⟩ | exact⟨a6,a2,a4⟩ | exact⟨(iP _ _ _ _ _ _ _ _ oM).trans a6,(iP _ _ _ _ _ _ _ _ oM).trans a2,(iP _ _ _ _ _ _ _ _ oM).trans a4⟩ | go_keep)
  (first
   | (go_at_call 186
      refine(yt B A E t lb h _ (by exact HB.o) (by exact HA.o) am al oM aq ai.o).mono ?_;rintro e w1 ⟨g,lr,rfl,a9,an,ac,a8,F,hg⟩;have F:Below W.heap.size W w1:=(below_drewN _ W nd).trans ((Below.refl _ (W.drewN nd)).drew.trans F);have hg:W.heap.size <= g:=hg;have T:=U.o;have a5:=((fw F).1 (w.heap.size+1) 0 oM).trans f1;have a1:=((fw F).1 w.heap.size 1 oM).trans e1;have a3:=((fw F).1 (w.heap.size+1) 1 oM).trans e2;have ae:=lH a8;have ah:=lH ac
      clear a8 T ac)
   | (go_at_call 140
      refine(lN (!s) _ lr _ (by exact⟨_,_,rfl,Nat.le_refl _,by have:=ae.o;unfold maxLen;omega,a9.u32,an⟩)).mono ?_;rintro e w2 ⟨v,rfl,ap,G⟩;have G:Below w1.heap.size w1 w2:=G;have hz:=a9.lt;have T:=U.o;have a6:=((fw G).1 (w.heap.size+1) 0 oM).trans a5;have a2:=((fw G).1 w.heap.size 1 oM).trans a1;have a4:=((fw G).1 (w.heap.size+1) 1 oM).trans a3;have R:Row w2 (w.heap.size+1+1) 103 [.bool false, .slice none 0 0]:=Row.below (Row.below r3 F oM) G oM;have k1:=R.at_ 0 rfl;have k2:=R.at_ 1 rfl;have k3:=R.free 0;have k4:=R.free 1;obtain⟨A',c',rfl,h1,h2,h3⟩:=ap;have H3:=lH h3;have ar:=lH T
      clear h3 T))
 go_wp2_with fail
 refine bodyPost_ret (v:= .agg #[.bool (decide (sgn (!s) (val lr)<0)), .slice A' (ek (sgn (!s) (val lr)).natAbs).length c']) (by simp[results,results163,go_sem,k1,k2]) rfl ?_;have HV:=ah.o;rw[<- HN.o, <- HV];refine⟨_,rfl,⟨A',c',rfl,h1,h2,?_⟩,?_⟩
 ·exact H3.o.kept (je _ _ _ _ _ _) R (by simp)
 ·have ak:Below w.heap.size w w2:=(aj.o.trans (F.mono (by have:=U.o;omega))).trans (G.mono (by have:=U.o;omega));exact(ak.setCell (p:=⟨w.heap.size+1+1,0,none⟩) (by simp;omega) _).setCell (p:=⟨w.heap.size+1+1,1,none⟩) (by simp;omega) _
end
section
open Go.RowKit
theorem qC(T U:Value)(a b:Int)(w:World)(X:eQ w T a)(Y:eQ w U b)(F:(ek a.natAbs).length<8796093022208)(G:(ek b.natAbs).length<8796093022208):
  Calls prog 163 #[T,U] w fun e w'=>∃v,e= .returned v /\ eQ w' v (a+b) /\ Below w.heap.size w w':=by
 obtain⟨A,t,rfl,Z,a1,M⟩:=X;obtain⟨B,E,rfl,a0,a2,O⟩:=Y;by_cases h1:a<0 <;> by_cases R:b<0
 ·rw[decide_eq_true h1,decide_eq_true R];exact yu A B t E true _ _ (a+b) w M O (fF _) (fF _) F G (by rw[fu,fu];simp[sgn];omega)
 ·rw[decide_eq_true h1,decide_eq_false R]
  rcases Nat.lt_or_ge a.natAbs b.natAbs with h | h
  ·exact add_lt A B t E true a.natAbs b.natAbs _ _ rfl rfl (a+b) w M O (fF _) (fF _) F G h (by rw[fu,fu];simp[sgn];omega)
  ·exact yw A B t E true a.natAbs b.natAbs _ _ rfl rfl (a+b) w M O (fF _) (fF _) F G h (by rw[fu,fu];simp[sgn];omega)
 ·rw[decide_eq_false h1,decide_eq_true R]
  rcases Nat.lt_or_ge a.natAbs b.natAbs with h | h
  ·exact add_lt A B t E false a.natAbs b.natAbs _ _ rfl rfl (a+b) w M O (fF _) (fF _) F G h (by rw[fu,fu];simp[sgn];omega)
  ·exact yw A B t E false a.natAbs b.natAbs _ _ rfl rfl (a+b) w M O (fF _) (fF _) F G h (by rw[fu,fu];simp[sgn];omega)
 ·rw[decide_eq_false h1,decide_eq_false R];exact yu A B t E false _ _ (a+b) w M O (fF _) (fF _) F G (by rw[fu,fu];simp[sgn];omega)
theorem rV(O:Value)(a:Int)(w:World)(X:eQ w O a):
  Calls prog 108 #[O] w fun e w'=>∃v,e= .returned v /\ eQ w' v (-a) /\ Below w.heap.size w w':=by
 obtain⟨A,h,rfl,F,G,M⟩:=X;have U:=lH M;have R:=lH F;have T:=lH G;clear M F G
 have Y:∀s:Bool,Calls prog 108 #[.agg #[.bool s, .slice A (ek a.natAbs).length h]] w fun e w'=>e= .returned (.agg #[.bool (!s && decide (0<(ek a.natAbs).length)), .slice A (ek a.natAbs).length h]) /\ Below w.heap.size w w':=by
  intro s;generalize (ek a.natAbs).length=n;cases s
  all_goals
   go_enter func108,ntmps108;go_wp2_with fail
   go_returns;exact⟨by simp,by go_grown⟩
 refine(Y _).mono ?_;rintro e w' ⟨rfl,E⟩;have t:(-a).natAbs=a.natAbs:=Int.natAbs_neg a;refine⟨_,rfl,⟨A,h,?_,by rw[t];exact R.o,T.o,by rw[t];exact U32.below U.o E⟩,E⟩;rw[t]
 have:(!decide (a<0) && decide (0<(ek a.natAbs).length))=decide (-a<0):=by
  rw[Bool.eq_iff_iff];simp only[Bool.and_eq_true,Bool.not_eq_true',decide_eq_true_eq,decide_eq_false_iff_not,kK];omega
 rw[this]
def sgI(a:Int):Int:=if a<0 then -1 else if a=0 then 0 else 1
theorem ko(E:Value)(a:Int)(w:World)(F:eQ w E a):
  Calls prog 113 #[E] w fun e w'=>e= .returned (.int .i64 (sgI a)) /\ Below w.heap.size w w':=by
 obtain⟨A,U,rfl,G,M,R⟩:=F;clear R G M;obtain⟨r,h⟩:=eX (sgI a);rw[<- h];have t:=lH h;clear h;by_cases h0:a=0
 ·have h:=t.o;subst h0;subst h;rw[show(ek (0:Int).natAbs).length=0 from by simp[gJ]];go_enter func113,ntmps113;go_wp2_with fail
  go_returns;exact⟨rfl,by go_grown⟩
 ·have X:0<(ek a.natAbs).length:=kK.2 oM;have h:=t.o;unfold sgI at h;have T:=lH h0;by_cases h1:a<0
  ·rw[if_pos h1] at h;subst h;rw[decide_eq_true h1];clear t h0 h1;generalize (ek a.natAbs).length=n at*;have O:(((n:Nat):Int)==0)=false:=by simp;omega
   go_enter func113,ntmps113;go_wp2_with fail
   go_returns;exact⟨rfl,by go_grown⟩
  ·rw[if_neg h1,if_neg h0] at h;subst h;rw[decide_eq_false h1];clear t h0 h1;generalize (ek a.natAbs).length=n at*;have O:(((n:Nat):Int)==0)=false:=by simp;omega
   go_enter func113,ntmps113;go_wp2_with fail
   go_returns;exact⟨rfl,by go_grown⟩
end
section
open Go.RowKit
theorem EU(va vb:Value)(a b:Int)(w:World)(ha:eQ w va a)(hb:eQ w vb b)(ac:(ek a.natAbs).length<8796093022208)(ad:(ek b.natAbs).length<8796093022208):
  Calls prog 200 #[va,vb] w fun e w'=>∃v,e= .returned v /\ eQ w' v (a-b) /\ Below w.heap.size w w':=by
 have a1:=ha;have a2:=hb;obtain⟨A,U,rfl, -, -, -⟩:=ha;obtain⟨B,X,rfl, -, -, -⟩:=hb;generalize decide (a<0)=s at*;generalize decide (b<0)=t at*;have ai:=lH ac;have aj:=lH ad;clear ac ad;obtain⟨Z,ae⟩:=eX ((ek a.natAbs).length);obtain⟨nb,af⟩:=eX ((ek b.natAbs).length);rw[<- ae] at a1 ⊢;rw[<- af] at a2 ⊢;clear ae af;obtain⟨W,Y⟩:=eX (((w.alloc (.cells #[.bool s, .slice A Z U] 103)).alloc (.cells #[.bool t, .slice B nb X] 103)).alloc (.cells #[.bool false, .slice none 0 0] 103));obtain⟨G,M,r3,a0,F⟩:=kQ w (.cells #[.bool s, .slice A Z U] 103) (.cells #[.bool t, .slice B nb X] 103) (.cells #[.bool false, .slice none 0 0] 103);rw[<- Y] at G M r3 a0 F;have G:Row W w.heap.size 103 [.bool s, .slice A Z U]:=G;have M:Row W (w.heap.size+1) 103 [.bool t, .slice B nb X]:=M;have r3:Row W (w.heap.size+1+1) 103 [.bool false, .slice none 0 0]:=r3;have HA:=lH (a1.below F);have HB:=lH (a2.below F);have ak:=lH F;have T:=lH a0;clear a1 a2 F a0;go_enter func200,ntmps200;go_wp2_with fail
 rw[<- Y];have HW:=lH Y;clear Y;have e1:=G.at_ 0 rfl;have e2:=G.at_ 1 rfl;have e3:=M.at_ 0 rfl;have e4:=M.at_ 1 rfl
 go_region_held3 (fun w'=> w'.cell? ⟨w.heap.size,0,none⟩=some (.bool s) /\ w'.cell? ⟨w.heap.size,1,none⟩=some (.slice A Z U) /\ w'.cell? ⟨w.heap.size+1,0,none⟩=some (.bool t) /\ w'.cell? ⟨w.heap.size+1,1,none⟩=some (.slice B nb X))
  (first | exact⟨e1,e2,e3,e4⟩ | exact⟨a3,a5,a7,a9⟩ | exact⟨a4,a6,a8,aa⟩ | exact⟨(iP _ _ _ _ _ _ _ _ oM).trans a4,(iP _ _ _ _ _ _ _ _ oM).trans a6,(iP _ _ _ _ _ _ _ _ oM).trans a8,(iP _ _ _ _ _ _ _ _ oM).trans aa⟩ | go_keep)
  (first
   | (go_at_call 108
      refine(rV _ b _ (by exact HB.o)).mono ?_;rintro e w1 ⟨v1,rfl,ab,h⟩;have h:Below W.heap.size W w1:=(Below.refl _ W).drew.trans h;have R:=T.o;have ao:=h.size;have a3:=((fw h).1 w.heap.size 0 oM).trans e1;have a5:=((fw h).1 w.heap.size 1 oM).trans e2;have a7:=((fw h).1 (w.heap.size+1) 0 oM).trans e3;have a9:=((fw h).1 (w.heap.size+1) 1 oM).trans e4;have ah:=lH ab;have ag:=lH (eQ.below HA.o h)
      clear ab R)
   | (go_at_call 163
      refine(qC _ _ a (-b) _ (by exact ag.o) (by exact ah.o) ai.o (by rw[Int.natAbs_neg];exact aj.o)).mono ?_;rintro e w2 ⟨v,rfl,am,E⟩;have E:Below w1.heap.size w1 w2:=E;have R:=T.o;have a4:=((fw E).1 w.heap.size 0 oM).trans a3;have a6:=((fw E).1 w.heap.size 1 oM).trans a5;have a8:=((fw E).1 (w.heap.size+1) 0 oM).trans a7;have aa:=((fw E).1 (w.heap.size+1) 1 oM).trans a9;have O:Row w2 (w.heap.size+1+1) 103 [.bool false, .slice none 0 0]:=Row.below (Row.below r3 h oM) E oM;have k1:=O.at_ 0 rfl;have k2:=O.at_ 1 rfl;have k3:=O.free 0;have k4:=O.free 1;obtain⟨A',c',rfl,h1,h2,h3⟩:=am;have H1:=lH h1;have H3:=lH h3;have an:=lH R
      clear h1 h3 R))
 go_wp2_with fail
 refine bodyPost_ret (v:= .agg #[.bool (decide (a+ -b<0)), .slice A' (ek (a+ -b).natAbs).length c']) (by simp[results,results200,go_sem,k1,k2]) rfl ?_;rw[show a-b=a+ -b from Int.sub_eq_add_neg];refine⟨_,rfl,⟨A',c',rfl,H1.o,h2,?_⟩,?_⟩
 ·exact H3.o.kept (je _ _ _ _ _ _) O (by simp)
 ·have al:Below w.heap.size w w2:=(ak.o.trans (h.mono (by have:=T.o;omega))).trans (E.mono (by have:=T.o;omega));exact(al.setCell (p:=⟨w.heap.size+1+1,0,none⟩) (by simp;omega) _).setCell (p:=⟨w.heap.size+1+1,1,none⟩) (by simp;omega) _
def gI(a b:Int):Int:=if a<b then -1 else if a=b then 0 else 1
theorem jK(va vb:Value)(a b:Int)(w:World)(ha:eQ w va a)(hb:eQ w vb b)(a7:(ek a.natAbs).length<8796093022208)(a8:(ek b.natAbs).length<8796093022208):
  Calls prog 133 #[va,vb] w fun e w'=>e= .returned (.int .i64 (gI a b)) /\ Below w.heap.size w w':=by
 obtain⟨A,Y,rfl, -, -,a0⟩:=ha;obtain⟨B,Z,rfl, -, -,a1⟩:=hb;obtain⟨r,hr⟩:=eX (gI a b);rw[<- hr];have X:=lH hr;clear hr
 have a9:∀ (s t:Bool) (r:Int),(s≠t -> r=if s=true then -1 else 1) -> (s=true -> t=true -> r=fM b.natAbs a.natAbs) -> (s=false -> t=false -> r=fM a.natAbs b.natAbs) ->
   Calls prog 133 #[.agg #[.bool s, .slice A (ek a.natAbs).length Y], .agg #[.bool t, .slice B (ek b.natAbs).length Z]] w fun e w'=>e= .returned (.int .i64 r) /\ Below w.heap.size w w':=by
  intro s t r G T U;generalize hx:a.natAbs=x at*;generalize hy:b.natAbs=y at*;clear X hx hy a b;obtain⟨la,a3⟩:∃l,l=ek x:=⟨_,rfl⟩
  obtain⟨lb,a4⟩:∃l,l=ek y:=⟨_,rfl⟩
  rw[<- a3] at a0 a7 ⊢;rw[<- a4] at a1 a8 ⊢;have a5:Hid (la=ek x):=lH a3;have a6:Hid (lb=ek y):=lH a4;clear a3 a4;have aa:=lH a0;have ab:=lH a1;obtain⟨W,M⟩:=eX ((w.alloc (.cells #[.bool s, .slice A la.length Y] 103)).alloc (.cells #[.bool t, .slice B lb.length Z] 103));have F:Below w.heap.size w W:=by rw[M];go_grown
  have HA:=lH (U32.below a0 F);have HB:=lH (U32.below a1 F);clear a0 a1;cases s <;> cases t
  ·have q:=U rfl rfl;have HQ:=lH q;clear G T U q;go_enter func133,ntmps133;go_wp2_with fail
   rw[<- M];refine(rU A B Y Z x y la lb W a5 a6 HA.o HB.o oM oM).mono ?_;rintro e wd ⟨rfl,R⟩;have O:=F.trans (R.below _);have a2:=lH O;clear M F O R;go_wp2_with fail
   go_returns;exact⟨by rw[HQ.o];rfl,a2.o⟩
  ·have q:=G (by simp);simp at q;subst q;clear G T U;go_enter func133,ntmps133;go_wp2_with fail
   go_returns;exact⟨rfl,by go_grown⟩
  ·have q:=G (by simp);simp at q;subst q;clear G T U;go_enter func133,ntmps133;go_wp2_with fail
   go_returns;exact⟨rfl,by go_grown⟩
  ·have q:=T rfl rfl;have HQ:=lH q;clear G T U q;go_enter func133,ntmps133;go_wp2_with fail
   rw[<- M];refine(rU B A Z Y y x lb la W a6 a5 HB.o HA.o oM oM).mono ?_;rintro e wd ⟨rfl,R⟩;have O:=F.trans (R.below _);have a2:=lH O;clear M F O R;go_wp2_with fail
   go_returns;exact⟨by rw[HQ.o];rfl,a2.o⟩
 refine a9 _ _ _ ?_ ?_ ?_
 ·intro h;rw[X.o];unfold gI;by_cases h1:a<0 <;> by_cases E:b<0
  ·rw[decide_eq_true h1,decide_eq_true E] at h;exact absurd rfl h
  ·rw[decide_eq_true h1,if_pos oM];simp
  ·rw[decide_eq_false h1,if_neg oM,if_neg oM];simp
  ·rw[decide_eq_false h1,decide_eq_false E] at h;exact absurd rfl h
 ·intro h1 E;rw[X.o];simp only[decide_eq_true_eq] at h1 E;unfold gI fM;split <;> (try split) <;> (try split) <;> (try split) <;> omega
 ·intro h1 E;rw[X.o];simp only[decide_eq_false_iff_not] at h1 E;unfold gI fM;split <;> (try split) <;> (try split) <;> (try split) <;> omega
end
section
open Go.RowKit
theorem EW(x y:Nat):val [x,y]=x+4294967296*y:=by simp[val,ik]
theorem EX{x y:Nat}(h:x<4294967296)(t:y<4294967296):Dig [x,y]:=Dig.cons h (Dig.cons t Dig.nil)
theorem EY(m:Nat)(h:m<18446744073709551616):IntKind.u64.wrap ((m:Nat):Int)=((m:Nat):Int):=by
 rw[IntKind.wrap_u64];omega
theorem EZ(m:Nat)(h:0<m)(t:m <= 9223372036854775808):IntKind.u64.wrap (-((m:Nat):Int))=((18446744073709551616-m:Nat):Int):=by
 rw[IntKind.wrap_u64];omega
theorem F6(m:Nat)(h:0<m)(t:m <= 9223372036854775808):IntKind.u64.wrap (-((18446744073709551616-m:Nat):Int))=((m:Nat):Int):=by
 rw[IntKind.wrap_u64];omega
theorem uS(n:Int)(w:World)(h1: -9223372036854775808 <= n)(h2:n <= 9223372036854775807):
  Calls prog 112 #[.int .i64 n] w fun e w'=>∃v,e= .returned v /\ eQ w' v n /\ Below w.heap.size w w':=by
 have a6:∀ (neg:Bool) (m:Nat),(neg=true -> 0<m) -> m <= 9223372036854775808 -> (neg=false -> m<9223372036854775808) -> sgn neg m=n ->
   Calls prog 112 #[.int .i64 n] w fun e w'=>∃v,e= .returned v /\ eQ w' v n /\ Below w.heap.size w w':=by
  intro neg m T hm a5 X;clear h1 h2;have a0:((m%4294967296:Nat):Int)=((m:Nat):Int)%4294967296:=oM
  have Z:((m / 4294967296:Nat):Int)=((m:Nat):Int) / 4294967296:=oM
  have a4:((m:Nat):Int) / 4294967296%4294967296=((m / 4294967296:Nat):Int):=oM
  have a1:val [m%4294967296,m / 4294967296]=m:=by rw[EW];omega
  have Y:Dig [m%4294967296,m / 4294967296]:=EX oM oM;obtain⟨x,hx⟩:=eX (m%4294967296);obtain⟨y,hy⟩:=eX (m / 4294967296);rw[<- hx, <- hy] at a1 Y;rw[<- hx] at a0;rw[<- hy] at Z a4;have aa:((m:Nat):Int)%4294967296=((x:Nat):Int):=a0.symm;have ac:((m:Nat):Int) / 4294967296=((y:Nat):Int):=Z.symm;have ab:((y:Nat):Int)<4294967296:=oM
  have HV:=lH a1;have HD:=lH Y;have HS:=lH X;cases neg
  ·have hw:IntKind.u64.wrap ((m:Nat):Int)=((m:Nat):Int):=EY m oM;obtain rfl:n=(m:Int):=by rw[<- X];simp[sgn]
   have a7:¬(((m:Nat):Int)<0):=oM
   clear hx hy a0 Z a4 a1 Y X T hm a5;go_enter func112,ntmps112;go_wp2_with fail
   obtain⟨W,R⟩:=eX ((w.alloc (.cells #[.bool false, .slice none 0 0] 103)).alloc (.cells #[.int .u32 (x:Nat), .int .u32 (y:Nat)] 160));obtain⟨E,F,a3,G⟩:=rA w (.cells #[.bool false, .slice none 0 0] 103) (.cells #[.int .u32 (x:Nat), .int .u32 (y:Nat)] 160);rw[<- R] at E F a3 G ⊢;have E:Row W w.heap.size 103 [.bool false, .slice none 0 0]:=E;have F:fI W (w.heap.size+1) [x,y]:=F;have a2:=lH G;clear R G;refine(lN false _ [x,y] W (by exact⟨_,2,rfl,Nat.le_refl _,by unfold maxLen;omega,F.u32,HD.o⟩)).mono ?_;rintro e w2 ⟨v,rfl,t,M⟩;rw[HV.o,HS.o] at t;have h:Row w2 w.heap.size 103 [.bool false, .slice none 0 0]:=Row.below E M oM;have k1:=h.at_ 0 rfl;have k2:=h.at_ 1 rfl;have k3:=h.free 0;have k4:=h.free 1;obtain⟨sv,Av,lv,cv,rfl⟩:=t.shape;have U:=rC a2.o h (by simp) (by simp) (Nat.le_refl _) M t;have O:=lH U;clear U t M;go_wp2_with fail
   refine bodyPost_ret (v:= .agg #[.bool sv, .slice Av lv cv]) (by simp[results,results112,go_sem,k1,k2]) rfl ?_;exact⟨_,rfl,O.o.1,O.o.2⟩
  ·obtain rfl:n= -(m:Int):=by rw[<- X];simp[sgn]
   have T:=T rfl;have a8:=EZ m T hm;have a9:=F6 m T hm;obtain⟨u,hu⟩:=eX (18446744073709551616-m);rw[<- hu] at a8 a9;have a7: -((m:Nat):Int)<0:=oM
   clear hx hy a0 Z a4 a1 Y X hm a5 hu;go_enter func112,ntmps112;go_wp2_with fail
   obtain⟨W,R⟩:=eX ((w.alloc (.cells #[.bool false, .slice none 0 0] 103)).alloc (.cells #[.int .u32 (x:Nat), .int .u32 (y:Nat)] 160));obtain⟨E,F,a3,G⟩:=rA w (.cells #[.bool false, .slice none 0 0] 103) (.cells #[.int .u32 (x:Nat), .int .u32 (y:Nat)] 160);rw[<- R] at E F a3 G ⊢;have E:Row W w.heap.size 103 [.bool false, .slice none 0 0]:=E;have F:fI W (w.heap.size+1) [x,y]:=F;have a2:=lH G;clear R G;refine(lN true _ [x,y] W (by exact⟨_,2,rfl,Nat.le_refl _,by unfold maxLen;omega,F.u32,HD.o⟩)).mono ?_;rintro e w2 ⟨v,rfl,t,M⟩;rw[HV.o,HS.o] at t;have h:Row w2 w.heap.size 103 [.bool false, .slice none 0 0]:=Row.below E M oM;have k1:=h.at_ 0 rfl;have k2:=h.at_ 1 rfl;have k3:=h.free 0;have k4:=h.free 1;obtain⟨sv,Av,lv,cv,rfl⟩:=t.shape;have U:=rC a2.o h (by simp) (by simp) (Nat.le_refl _) M t;have O:=lH U;clear U t M;go_wp2_with fail
   refine bodyPost_ret (v:= .agg #[.bool sv, .slice Av lv cv]) (by simp[results,results112,go_sem,k1,k2]) rfl ?_;exact⟨_,rfl,O.o.1,O.o.2⟩
 by_cases hn:n<0
 ·exact a6 true n.natAbs oM oM (by simp) (by unfold sgn;simp;omega)
 ·exact a6 false n.natAbs (by simp) oM oM (by unfold sgn;simp;omega)
end
section
theorem yx(a b:Int)(X:b≠0)(q r:Int)(h:q=sgn (decide (a<0) !=decide (b<0)) (a.natAbs / b.natAbs))(t:r=sgn (decide (a<0)) (a.natAbs%b.natAbs)):
  r+b*q=a /\ r.natAbs<b.natAbs:=by
 have h1:=Nat.div_add_mod a.natAbs b.natAbs;have U:=Nat.mod_lt a.natAbs (show 0<b.natAbs by omega);generalize Y:a.natAbs / b.natAbs=x at*;generalize Z:a.natAbs%b.natAbs=y at*;have O:((b.natAbs:Nat):Int)* (x:Nat)+ (y:Nat)=(a.natAbs:Nat):=by rw[<- h1];simp
 rcases Int.lt_or_le a 0 with R | R <;> rcases Int.lt_or_le b 0 with T | T
 ·have G:((a.natAbs:Nat):Int)= -a:=oM
  have M:((b.natAbs:Nat):Int)= -b:=oM
  rw[G,M,Int.neg_mul] at O;have E:decide (a<0)=true:=decide_eq_true R;have F:decide (b<0)=true:=decide_eq_true T;rw[E,F] at h;rw[E] at t;have h:q=(x:Nat):=h;have t:r= -((y:Nat):Int):=t;subst h t;exact⟨by omega,by omega⟩
 ·have G:((a.natAbs:Nat):Int)= -a:=oM
  have M:((b.natAbs:Nat):Int)=b:=oM
  rw[G,M] at O;have E:decide (a<0)=true:=decide_eq_true R;have F:decide (b<0)=false:=decide_eq_false oM;rw[E,F] at h;rw[E] at t;have h:q= -((x:Nat):Int):=h;have t:r= -((y:Nat):Int):=t;subst h t;rw[Int.mul_neg];exact⟨by omega,by omega⟩
 ·have G:((a.natAbs:Nat):Int)=a:=oM
  have M:((b.natAbs:Nat):Int)= -b:=oM
  rw[G,M,Int.neg_mul] at O;have E:decide (a<0)=false:=decide_eq_false oM;have F:decide (b<0)=true:=decide_eq_true T;rw[E,F] at h;rw[E] at t;have h:q= -((x:Nat):Int):=h;have t:r=((y:Nat):Int):=t;subst h t;rw[Int.mul_neg];exact⟨by omega,by omega⟩
 ·have G:((a.natAbs:Nat):Int)=a:=oM
  have M:((b.natAbs:Nat):Int)=b:=oM
  rw[G,M] at O;have E:decide (a<0)=false:=decide_eq_false oM;have F:decide (b<0)=false:=decide_eq_false oM;rw[E,F] at h;rw[E] at t;have h:q=((x:Nat):Int):=h;have t:r=((y:Nat):Int):=t;subst h t;exact⟨by omega,by omega⟩
theorem yz{a b q r:Int}(h:r+b*q=a)(E:(0 <= r /\ r<b) \/ (b<r /\ r <= 0)):a.fdiv b=q /\ a.fmod b=r:=by
 rcases E with ⟨h1,t⟩ | ⟨h1,t⟩
 ·exact(Int.fdiv_fmod_unique oM).2 ⟨h,h1,t⟩
 ·exact(Int.fdiv_fmod_unique' oM).2 ⟨h,h1,t⟩
theorem rX{a b q r:Int}(h:r+b*q=a /\ r.natAbs<b.natAbs)(t:r=0 \/ decide (r<0)=decide (b<0)):q=a.fdiv b /\ r=a.fmod b:=by
 have F:r=0 \/ (r<0↔b<0):=t.imp id (fun e=>by simpa using e);obtain⟨h1,E⟩:=h;have:=yz h1 oM;exact⟨this.1.symm,this.2.symm⟩
theorem yA{a b q r:Int}(h:r+b*q=a /\ r.natAbs<b.natAbs)(F:r≠0)(t:decide (r<0)≠decide (b<0)):q-1=a.fdiv b /\ r+b=a.fmod b:=by
 have G:¬(r<0↔b<0):=fun e=>t (by simpa using e)
 obtain⟨h1,E⟩:=h;have:=yz (a:=a) (b:=b) (q:=q-1) (r:=r+b) (by rw[Int.mul_sub,Int.mul_one];omega) oM;exact⟨this.1.symm,this.2.symm⟩
end
end Go.Proofs.YtdefghfjhgmpfaaGreatDoor
