/- Parts of this proof: Divide Plus Minus Add AddGe Small SubCmp From Floor. -/
import Derived.Test.YtdefghfjhgmpfaaGreatDoorMAF
import Derived.Test.YtdefghfjhgmpfaaGreatDoorMAA
import Derived.Test.YtdefghfjhgmpfaaGreatDoorMAC
namespace Go.Proofs.YtdefghfjhgmpfaaGreatDoor
open Tryz
section
open Go.RowKit
set_option maxRecDepth 100000 in
set_option maxHeartbeats 1600000 in
theorem yo(A B:Option Addr)(C cb a b:Nat)(w:World)(O:U32 w A (ek a))(hb:U32 w B (ek b))(bG:(ek a).length <= C)(bH:C <= maxLen)(co:(ek a).length<17592186044410)(cp:(ek b).length<17592186044410)(aR:0<b):
  Calls prog 178 #[.slice A (ek a).length C, .slice B (ek b).length cb] w fun e w'=>∃q r,e= .returned (.tuple #[q,r]) /\ iQ w' q (a / b) /\ iQ w' r (a%b) /\ Below w.heap.size w w':=by
 obtain⟨i0,bL,bW,bX,cy⟩:=info_parts mK;have aY:0<(ek b).length:=kK.2 aR;obtain⟨n,hn⟩:∃n,(ek b).length=n+1:=⟨(ek b).length-1,by omega⟩
 obtain⟨bo,cz,rfl,cd,ad⟩:=Cells.at_ hb oM;have ct:(((ek b).length:Nat):Int)-1=(n:Nat):=oM
 have cu:(((ek b).length:Nat):Int) <= 17592186044410:=oM
 have cv:(0:Int)<(((ek b).length:Nat):Int):=oM
 have cw:((n:Nat):Int)<(((ek b).length:Nat):Int):=oM
 have c0:=ad 0 oM;have cn:=ad n oM;rw[Nat.add_zero] at c0;have HN:=lH hn;have HC:=lH ad;clear hn ad;have cf:((dg (ek b) 0:Nat):Int)<4294967296:=by have:=fF b 0;omega
 have cg:((dg (ek b) n:Nat):Int)<4294967296:=by have:=fF b n;omega
 by_cases E:a<b
 ·have ho:fM a b= -1:=if_pos E;have b8:fM a b<0:=oM
  clear ho;go_enter func178,ntmps178;go_wp2_with fail
  refine(rT A _ C cb a b _ (by exact O) (by exact hb) oM oM).mono ?_;rintro e w1 ⟨rfl,R⟩;obtain⟨Y,rfl⟩:=R;go_wp2_with fail
  go_returns;have hB:=below_drewN w.heap.size w Y;have aJ:Below w.heap.size w ((w.drewN Y).drew):=hB.drew;refine⟨_,_,rfl,⟨none,0,?_,?_,?_,?_⟩,⟨A,C,?_,?_,bH,?_⟩,?_⟩
  ·rw[Nat.div_eq_of_lt E,gJ];rfl
  ·rw[Nat.div_eq_of_lt E,gJ];exact Nat.le_refl _
  ·unfold maxLen;omega
  ·rw[Nat.div_eq_of_lt E,gJ];exact .inl rfl
  ·rw[Nat.mod_eq_of_lt E];rfl
  ·rw[Nat.mod_eq_of_lt E];exact bG
  ·rw[Nat.mod_eq_of_lt E];first | exact O.below hB | exact O.below aJ
  ·first | exact hB | exact aJ
 ·have b8:(0:Int) <= fM a b:=by unfold fM;rw[if_neg E];split <;> omega
  have cx:decide (fM a b<0)=false:=decide_eq_false oM;clear b8;by_cases h1:(((ek b).length:Nat):Int)==1
  ·have h0:0<dg (ek b) 0:=by
    have X:(ek b).length=1:=by have:=eq_of_beq h1;omega
    have T:=(jY b).2 aY;rw[X] at T;exact Nat.pos_of_ne_zero T
   go_enter func178,ntmps178;go_wp2_with fail
   refine(rT A _ C cb a b _ (by exact O) (by exact hb) oM oM).mono ?_;rintro e w1 ⟨rfl,R⟩;obtain⟨Y,rfl⟩:=R;go_wp2_with fail
   obtain⟨U,ag⟩:=eX (val (ek a)%dg (ek b) 0);have bO:U<4294967296:=by rw[ag];exact Nat.lt_of_le_of_lt (Nat.le_of_lt (Nat.mod_lt _ h0)) oM
   refine(ER A C (dg (ek b) 0) (ek a) _ (by exact O) (fF a) oM oM oM).mono ?_;rw[<- ag];have bv:=lH ag;clear ag;rintro e w2 ⟨v,rfl,hq,aT⟩;have HQ:=lH hq;have ax:=lH aT;clear hq aT;go_wp2_with fail
   obtain⟨t,bf,ak⟩:=iV w2 (.cells #[.int .u32 ((U:Nat):Int)] 160);obtain⟨W,hW⟩:=eX (w2.alloc (.cells #[.int .u32 ((U:Nat):Int)] 160));rw[<- hW] at t bf ak ⊢;clear hW bf;have t:fI W w2.heap.size [U]:=t;have b1:Dig [U]:=Dig.cons bO Dig.nil;refine(mM (some ⟨w2.heap.size,0,none⟩) 1 1 [U] W rfl (Nat.le_refl _) (by unfold maxLen;omega) t.u32 b1).mono ?_;rintro e w4 ⟨rfl,a7,rfl⟩;go_wp2_with fail
   go_returns
   have aX:b=dg (ek b) 0:=by
    have X:(ek b).length=0+1:=by have:=eq_of_beq h1;omega
    have:=mQ (ek b);rw[fu,X,gK,yf,Nat.pow_zero,Nat.one_mul,Nat.zero_add] at this;exact this
   have bR:val [U]=a%b:=by
    rw[xg,xe,Nat.mul_zero,Nat.add_zero,bv.o,fu, <- aX]
   have hq:=HQ.o;rw[fu, <- aX] at hq;have hB:Below w.heap.size w W:=(below_drewN _ w Y).trans ((ax.o.mono (Nat.le_refl _)).trans (ak.mono ax.o.size));have hu:=t.u32.trimmed b1;rw[bR] at hu a7 ⊢;exact⟨_,_,rfl,hq.below ak,⟨_,1,rfl,a7,by unfold maxLen;omega,hu⟩,hB⟩
  ·have a4:=iO (Nat.le_of_not_lt E);obtain⟨K,hK⟩:∃K,(ek a).length=(ek b).length+K:=⟨(ek a).length-(ek b).length,by omega⟩
   have ck:(((ek a).length:Nat):Int)-(((ek b).length:Nat):Int)=(K:Nat):=oM
   have cl:((K:Nat):Int) <= 17592186044410:=oM
   have HK:=lH hK;clear hK a4
   obtain⟨m,hm⟩:∃m,n=m+1:=⟨n-1,by
    have:(ek b).length≠1:=fun e=>h1 (by rw[e];rfl)
    have:=HN.o
    omega⟩
   have cq:((m:Nat):Int) <= 17592186044410:=oM
   have b7:((m:Nat):Int)+2=(((ek b).length:Nat):Int):=oM
   have HM:=lH hm;have Z:=lH b7;clear hm b7;have c7:((((ek b).length:Nat):Int)==1)=false:=by simpa using h1
   clear h1;obtain⟨y,ai,bU,au,av⟩:=EL (d:=dg (ek b) n) (Nat.pos_of_ne_zero (by have:=(jY b).2 aY;rwa [HN.o,Nat.add_sub_cancel] at this)) oM;go_enter func178,ntmps178;go_wp2_with fail
   refine(rT A _ C cb a b _ (by exact O) (by exact hb) oM oM).mono ?_;rintro e w1 ⟨rfl,R⟩;obtain⟨Y,rfl⟩:=R;go_wp2_with fail
   refine(Tryz.bits_LeadingZeros32 _ _ oM oM).mono ?_;rintro e w2 ⟨rfl,rfl⟩;rw[Int.toNat_natCast,bU];go_wp2_with fail
   refine(ym A C y (ek a) _ (by exact O) (fF a) oM ai).mono ?_;rintro e w3 ⟨F,l1,rfl,t,R,bi,X,aU,bI⟩;have bz:=lH bi;have bp:=lH X;clear bi X;have a1:Below w.heap.size w w3:=(below_drewN _ w Y).trans aU;go_wp2_with fail
   refine(ym _ cb y (ek b) _ (by exact hb.below a1) (fF b) oM ai).mono ?_;rintro e w4 ⟨M,l2,rfl,r2,aZ,bj,b4,a2,bJ⟩;have cm:l2.length<17592186044416:=oM
   have aG:=lH bj;have bY:=lH b4;clear bj b4;go_wp2_with fail
   refine(mM _ l2.length l2.length l2 _ rfl (Nat.le_refl _) (by unfold maxLen;omega) r2.u32 aZ).mono ?_;rintro e w5 ⟨rfl,a7,rfl⟩;rw[aG.o,fu];have ao:=EO HN.o ai au av;have an:(ek (2^y*b)).length=m+2:=by rw[ao.1,HM.o]
   rw[an];have bZ:=lH an;have aB:=lH ao;have c3:=lH a7;have c5:=lH au;have c6:=lH av;clear an ao a7 au av
   go_wp2_with (at_make;refine lM _ rfl (.tmp 51) (.tmp 51) 101 rfl 160 i0 (.int .u32 0) underlying101 bL bW bX rfl _ _ _ rfl rfl rfl rfl ?_ ?_ ?_)
   ·omega
   ·unfold maxLen;omega
   intro w6 bc ac bQ;have hr:=fI.made bc;clear bc;have HR:=lH hr;clear hr;go_wp2_with fail
   have aV:Below w.heap.size w w6:=a1.trans ((a2.mono a1.size).trans (ac.mono (Nat.le_trans a1.size a2.size)));have ba:fI w6 F l1:=(t.below a2 t.lt).below ac (Nat.lt_of_lt_of_le t.lt a2.size);have aq:fI w6 M l2:=r2.below ac r2.lt;have ci:F<M:=Nat.lt_of_lt_of_le t.lt bJ;have bK:M<w4.heap.size:=r2.lt;have bS:w.heap.size <= F:=bI;obtain⟨V,hV⟩:=eX (2^y*b)
   have bk:U32 w6 (some ⟨M,0,none⟩) (ek V):=by
    have:=aq.u32.trimmed aZ
    rwa [aG.o,fu, <- hV] at this
   have bn:=lH aV;have bu:=lH ba;have c2:=lH aq;have bA:=lH bk;have a0:=lH hV;clear aV ba aq bk hV t r2 aU a1 a2 ac;have ab:(ek V).length=m+2:=by rw[a0.o,aB.o.1,HM.o]
   have aQ:2147483648 <= dg (ek V) (m+1):=by rw[a0.o, <- HM.o];exact aB.o.2
   have aP:sv (ek V) 0 (m+2)=V:=by rw[<- ab, <- mQ,fu]
   have aO:0<V:=by rw[a0.o];exact Nat.mul_pos (Nat.pow_pos dC) aR
   have aN:V<BB^ (m+2):=by have:=mI V;rwa [ab] at this
   have am:l1.length=K+1+ (m+2):=by rw[bp.o,HK.o];have:=Z.o;omega
   have aM:jT (2^y*a) V (m+2) (K+1) (K+1) l1 (List.replicate (K+1) 0):=
    jT.start am R (by rw[bz.o,fu]) (by rw[a0.o];exact EP (n:=m+1) (by rw[HK.o];have:=Z.o;omega) (by have:=Z.o;omega))
   have br:=lH aM;have bB:=lH ab;have bE:=lH aQ;have aH:=lH aP;have bC:=lH aN;have az:=lH am;clear aM ab aQ aP aN am;obtain⟨gq,b3⟩:=eX (w4.heap.size);rw[<- b3] at HR bK ⊢;clear b3 bQ;obtain⟨G,aa⟩:=eX (l1.length);rw[<- aa];have bq:=lH aa;have aL:((G:Nat):Int)=(K:Nat)+1+ ((m:Nat)+2):=by rw[aa,az.o];simp
   have a9:=lH aL;clear aa aL
   go_loopw [11] (fun iv wr=>∃ (k:Nat) (z:Int) (lo q:List Nat),iv= .int .i64 z /\ Hid (z=(k:Nat)-1) /\ k <= K+1 /\ fI wr F lo /\ fI wr gq q /\ Hid (jT (2^y*a) V (m+2) (K+1) k lo q) /\ U32 wr (some ⟨M,0,none⟩) (ek V) /\ Below w.heap.size w wr)
    (fun iv _=>(intOf iv+1).toNat)
   case atStart=>exact⟨K+1,(K:Nat),l1,_,rfl,lH oM,Nat.le_refl _,bu.o,HR.o,br,bA.o,bn.o⟩
   case round=>
    obtain⟨k,z,lo,q,rfl,T,hk,af,a6,h,a8,a3⟩:=hrel
    rcases k with _ | i
    ·obtain rfl:z= -1:=by have:=T.o;omega
     have aD:=lH af;have aF:=lH a6;have c4:=lH a8;have b9:K+1=q.length:=h.o.qlen.symm;have b6:G=lo.length:=by rw[h.o.len,bq.o,az.o]
     have aC:=lH b9;have aA:=lH b6;clear af a6 a8 b9 b6 T;have b2:=h.o.done;have HF:=lH b2;clear b2;have c9:G<17592186044416:=by have h1:=a9.o;have h2:=Z.o;have h3:=HK.o;omega
     go_wp2_with fail
     refine(mM (some ⟨gq,0,none⟩) (K+1) (K+1) q _ aC.o (Nat.le_refl _) (by unfold maxLen;omega) (by exact aF.o.u32) (by exact h.o.qdig)).mono ?_;rintro e w8 ⟨rfl,ah,rfl⟩;have bx:=lH ah;clear ah;go_wp2_with fail
     refine(mM (some ⟨F,0,none⟩) G G lo _ aA.o (Nat.le_refl _) (by unfold maxLen;omega) (by exact aD.o.u32) (by exact h.o.dig)).mono ?_;rintro e w9 ⟨rfl,bg,rfl⟩;have bw:=lH bg;clear bg;go_wp2_with fail
     refine(ES F 0 G y (ek (val lo)) _ (by exact aD.o.u32.trimmed h.o.dig) (fF _) (by have:=bw.o;have:=aA.o;omega) ai).mono ?_;rintro e cA ⟨v,rfl,a5,aS⟩;have bs:=lH a5;have aw:=lH aS;clear a5 aS;go_wp2_with fail
     go_returns;have a4:=EQ (a:=a) (b:=b) (y:=y);rw[<- a0.o] at a4;have a5:=bs.o;rw[fu,HF.o.1,a4.2] at a5;have bM:=HF.o.2.trans a4.1;have bh:=aF.o.u32.trimmed h.o.qdig;have ah:=bx.o;rw[bM] at bh ah ⊢;exact⟨_,v,rfl,⟨_,K+1,rfl,by have:=aC.o;omega,by unfold maxLen;omega,bh.below aw.o⟩,a5,a3.trans (aw.o.mono a3.size)⟩
    ·obtain rfl:z=(i:Nat):=by have:=T.o;omega
     clear T;have cc:((i:Nat):Int)<(K:Nat)+1:=oM
     have cj:((i:Nat):Int)+ ((m:Nat)+2)+1 <= (G:Nat):=by have:=a9.o;omega
     go_wp2_with fail
     rw[show i+ (m+2)+1-i=m+3 by omega];have ap:i<q.length:=by rw[h.o.qlen];omega
     have aj:=lH h.o.len;obtain⟨D,hD⟩:=eX (sv lo i (m+3) / V)
     have c8:D<4294967296:=by
      rw[hD,Nat.div_lt_iff_lt_mul aO];exact h.o.pre
     refine(EK F i m _ _ M 0 lo (ek V) wr (by exact af) h.o.dig (by have:=a9.o;have:=aj.o;omega) (by have:=a9.o;have:=Z.o;have:=HK.o;have:=aj.o;omega) (by exact a8) bB.o (fF _) oM bE.o (by rw[aH.o];exact h.o.pre)).mono ?_;rw[aH.o, <- hD];rintro e w8 ⟨rfl,bm,bb,b0,b5,bd,be,ae⟩;have aW:Below w.heap.size w w8:=a3.grown ae (by exact a3.size) (by simp;exact bS);have ar:fI w8 gq q:=(ae.block gq a6.lt (by simp;omega)).trans a6;have bl:U32 w8 (some ⟨M,0,none⟩) (ek V):=Cells.grownBy' a8 ae oM;have hL:=h.o.step aO bC.o b5 b0 (fun j hj=>bd j oM) be;have aK:jT (2^y*a) V (m+2) (K+1) i bm (q.set i D):=by rw[hD];exact hL
     have ce:=ar.cell ap;have ch:=ar.free i;have c1:=lH ap;have HL:=lH aK;have ay:=lH aW;have bF:=lH bl;have aE:=lH bb;clear b5 bd be hL aK hD ap aW bl bb ae b0 aj a8 af h a6 a3;go_wp2_with fail
     go_roundw
     case rel=>
      have bP:=ar.set i D (v:= .int .u32 (D:Nat)) rfl;have al:=grownBy_set w8 gq i (.int .u32 (D:Nat));refine⟨i,((i:Nat):Int)-1,bm,q.set i D,by simp,lH rfl,by omega,?_,bP,HL,Cells.grownBy' bF.o al oM,ay.o.grown al ay.o.size (by simp;omega)⟩;exact(al.block F aE.o.lt (by simp;omega)).trans aE.o
     case measure=>exact mZ
end
section
open Go.RowKit
theorem ET(A B:Option Addr)(M O:Nat)(t lb:List Nat)(w:World)(Z:U32 w A t)(F:U32 w B lb)(a0:Dig t)(a1:Dig lb)(a8:t.length<17592186044416)(a9:lb.length<17592186044416):
  Calls prog 185 #[.slice A t.length M, .slice B lb.length O] w fun e w'=>∃g G,e= .returned (.slice (some ⟨g,0,none⟩) G.length G.length) /\ fI w' g G /\ Dig G /\ val G=val t+val lb /\ G.length=max t.length lb.length+1 /\ Below w.heap.size w w' /\ w.heap.size <= g:=by
 obtain⟨i0,ai,ap,aq,aE⟩:=info_parts mK
 obtain⟨X,V,r,Y,W,C,hx,hy,af,ag,aC,al,an,ae⟩:∃X V r Y W C,U32 w X r /\ U32 w Y C /\ Dig r /\ Dig C /\ r.length<17592186044416 /\ C.length <= r.length /\ Hid (max t.length lb.length=r.length) /\
   ((t.length<lb.length /\ Y=A /\ X=B /\ W=M /\ V=O /\ C=t /\ r=lb) \/ (¬t.length<lb.length /\ X=A /\ Y=B /\ V=M /\ W=O /\ r=t /\ C=lb)):=by
  by_cases h:t.length<lb.length
  ·exact⟨B,O,lb,A,M,t,F,Z,a1,a0,a9,by omega,by show max _ _=_;omega, .inl ⟨h,rfl,rfl,rfl,rfl,rfl,rfl⟩⟩
  ·exact⟨A,M,t,B,O,lb,Z,F,a0,a1,a8,by omega,by show max _ _=_;omega, .inr ⟨h,rfl,rfl,rfl,rfl,rfl,rfl⟩⟩
 clear Z F a0 a1 a8 a9
 rcases ae with ⟨am,rfl,rfl,rfl,rfl,rfl,rfl⟩ | ⟨am,rfl,rfl,rfl,rfl,rfl,rfl⟩
 all_goals
  go_enter func185,ntmps185
  go_wp2_with (at_make;refine lM _ rfl (.tmp 18) (.tmp 18) 101 rfl 160 i0 (.int .u32 0) underlying101 ai ap aq rfl _ _ _ rfl rfl rfl rfl ?_ ?_ ?_)
  ·omega
  ·unfold maxLen;omega
  intro w1 E ac aD;have hr:=fI.made E;clear E;have HR:=lH hr;clear hr;go_wp2_with fail
  go_loopw [6,22] (fun cv iv wr=>∃ (k c:Nat) (lo:List Nat),k <= r.length /\ cv= .int .u64 c /\ iv= .int .i64 k /\ fI wr w.heap.size lo /\ lo.length=r.length+1 /\ Dig lo /\ c <= 1 /\ Hid (val (lo.take k)+BB^k*c=val (r.take k)+val (C.take k)) /\ Below w.heap.size w wr)
   (fun _ iv _=>r.length-(intOf iv).toNat)
  case atStart=>exact⟨0,0,_,Nat.zero_le _,rfl,rfl,HR.o,List.length_replicate,Dig.replicate _,by omega,by show _=_;simp[val],ac⟩
  case round=>
   obtain⟨k,c,lo,hk,rfl,rfl,E,T,a7,az,a2,R⟩:=hrel;have U:=lH a7;have av:=lH T;clear a7;by_cases aj:k<r.length
   ·obtain⟨b,ar,rfl,F,a4⟩:=Cells.at_ hx oM;have a6:=a4 k aj;have ax:((dg r k:Nat):Int)<4294967296:=by have:=af k;omega
    have hg:=E.cell (j:=k) oM;have ah:=E.free k;have aA:=((fw R).1 b (ar+k) F).trans a6;have aw:b<w.heap.size:=F;clear a4 a6;by_cases ak:k<C.length
    ·obtain⟨b2,au,rfl,ad,a5⟩:=Cells.at_ hy oM;have aB:=((fw R).1 b2 (au+k) ad).trans (a5 k ak);have ay:((dg C k:Nat):Int)<4294967296:=by have:=ag k;omega
     clear a5;go_wp2_with fail
     go_roundw
     case rel=>
      refine⟨k+1,(c+dg r k+dg C k) / 4294967296,lo.set k ((c+dg r k+dg C k)%4294967296),by omega,by simp,by simp,E.set k _ (by simp),by rw[List.length_set];exact T,U.o.set _ _ (Nat.mod_lt _ oM),by omega,uC oM a2 rfl,R.setCell (Nat.le_refl _) _⟩
     case measure=>simp[intOf];omega
    ·have aa:dg C k=0:=jm oM;have ab:=lH aa;clear aa;go_wp2_with fail
     go_roundw
     case rel=>
      refine⟨k+1,(c+dg r k) / 4294967296,lo.set k ((c+dg r k)%4294967296),by omega,by simp,by simp,E.set k _ (by simp),by rw[List.length_set];exact T,U.o.set _ _ (Nat.mod_lt _ oM),by omega,uC oM a2 (by rw[ab.o];rfl),R.setCell (Nat.le_refl _) _⟩
     case measure=>simp[intOf];omega
   ·obtain rfl:k=r.length:=oM
    have ah:=E.free r.length;have hg:=E.cell (j:=r.length) oM;go_wp2_with fail
    go_returns;have ao:=E.set r.length c rfl;have a3:(lo.set r.length c).length=r.length+1:=by rw[List.length_set];exact T
    refine⟨w.heap.size,lo.set r.length c,by rw[a3];rfl,ao,U.o.set _ _ oM,?_,by rw[a3,an.o],R.setCell (Nat.le_refl _) _,Nat.le_refl _⟩;have h1:=kM lo r.length c oM;rw[<- a3,iF (Nat.le_refl _),a2.o,iF (Nat.le_refl _),iF al] at h1;omega
end
section
open Go.RowKit
theorem yt(A B:Option Addr)(ca cb:Nat)(h lb:List Nat)(w:World)(ha:U32 w A h)(hb:U32 w B lb)(aa:Dig h)(ab:Dig lb)(aq:h.length<17592186044416)(af:lb.length <= h.length)(Y:val lb <= val h):
  Calls prog 186 #[.slice A h.length ca, .slice B lb.length cb] w fun e w'=>∃g t,e= .returned (.slice (some ⟨g,0,none⟩) t.length t.length) /\ fI w' g t /\ Dig t /\ val t=val h-val lb /\ t.length=h.length /\ Below w.heap.size w w' /\ w.heap.size <= g:=by
 obtain⟨i0,ac,ah,ai,aj⟩:=info_parts mK;have a1:=lH Y;clear Y;go_enter func186,ntmps186
 go_wp2_with (at_make;refine lM _ rfl (.tmp 11) (.tmp 11) 101 rfl 160 i0 (.int .u32 0) underlying101 ac ah ai rfl _ _ _ rfl rfl rfl rfl ?_ ?_ ?_)
 ·first | omega | (rw[aj];omega)
 ·unfold maxLen;omega
 intro w1 r a3 au;have Z:=fI.made r;clear r;have HR:=lH Z;clear Z;go_wp2_with fail
 go_loopw [6,15] (fun cv T wr=>∃ (k c:Nat) (lo:List Nat),k <= h.length /\ cv= .int .i64 c /\ T= .int .i64 k /\ fI wr w.heap.size lo /\ lo.length=h.length /\ Dig lo /\ c <= 1 /\ Hid (val (h.take k)+BB^k*c=val (lo.take k)+val (lb.take k)) /\ Below w.heap.size w wr)
  (fun _ T _=>h.length-(intOf T).toNat)
 case atStart=>exact⟨0,0,_,Nat.zero_le _,rfl,rfl,HR.o,List.length_replicate,Dig.replicate _,by omega,by show _=_;simp[val],a3⟩
 case round=>
  obtain⟨k,c,lo,hk,rfl,rfl,r,F,X,a9,O,E⟩:=hrel;have G:=lH X;clear X;by_cases ad:k<h.length
  ·obtain⟨b,ak,rfl,a7,U⟩:=Cells.at_ ha oM;have W:=U k ad;have am:((dg h k:Nat):Int)<4294967296:=by have:=aa k;omega
   have hg:=r.cell (j:=k) oM;have ap:=r.free k;have an:=((fw E).1 b (ak+k) a7).trans W;clear U W;have a8:((dg lb k:Nat):Int)<4294967296:=by have:=ab k;omega
   by_cases ae:k<lb.length
   ·obtain⟨b2,al,rfl,a5,V⟩:=Cells.at_ hb oM;have ao:=((fw E).1 b2 (al+k) a5).trans (V k ae);clear V;obtain⟨C,ag⟩:∃n:Int,((dg h k:Nat):Int)-(c:Nat)=n:=⟨_,rfl⟩
    obtain⟨M,ar⟩:∃n:Int,C-((dg lb k:Nat):Int)=n:=⟨_,rfl⟩
    have a4: -4294967297<M:=oM
    have a6:M<4294967297:=oM
    by_cases R:M<0
    all_goals
     go_wp2_with fail
     go_roundw
     case rel=>
      refine⟨k+1,if M<0 then 1 else 0,lo.set k ((dg h k+4294967296-c-dg lb k)%4294967296),by omega,?_,by simp,r.set k _ ?_,by rw[List.length_set];exact F,G.o.set _ _ (Nat.mod_lt _ oM),by split <;> omega,uD oM O ?_,E.setCell (Nat.le_refl _) _⟩
      ·simp[R]
      ·refine congrArg (Value.int .u32) ?_;omega
      ·split <;> omega
     case measure=>simp[intOf];omega
   ·have a0:dg lb k=0:=jm oM;have a2:=lH a0;clear a0 a8;obtain⟨C,ag⟩:∃n:Int,((dg h k:Nat):Int)-(c:Nat)=n:=⟨_,rfl⟩
    have a4: -4294967297<C:=oM
    have a6:C<4294967297:=oM
    by_cases R:C<0
    all_goals
     go_wp2_with fail
     go_roundw
     case rel=>
      refine⟨k+1,if C<0 then 1 else 0,lo.set k ((dg h k+4294967296-c)%4294967296),by omega,?_,by simp,r.set k _ ?_,by rw[List.length_set];exact F,G.o.set _ _ (Nat.mod_lt _ oM),by split <;> omega,uD oM O ?_,E.setCell (Nat.le_refl _) _⟩
      ·simp[R]
      ·refine congrArg (Value.int .u32) ?_;omega
      ·rw[a2.o];split <;> omega
     case measure=>simp[intOf];omega
  ·obtain rfl:k=h.length:=oM
   go_wp2_with fail
   go_returns;refine⟨w.heap.size,lo,by rw[F];rfl,r,G.o,?_,F,E,Nat.le_refl _⟩;have h1:=O.o;rw[iF (Nat.le_refl _),iF oM,iF af] at h1;rw[<- F] at h1;exact uE G.o a1.o a9 h1
end
section
open Go.RowKit
theorem yu(A B:Option Addr)(C E:Nat)(s:Bool)(h lb:List Nat)(n:Int)(w:World)(a8:U32 w A h)(a9:U32 w B lb)(af:Dig h)(ag:Dig lb)(ak:h.length<8796093022208)(al:lb.length<8796093022208)
  (hn:sgn s (val h+val lb)=n):
  Calls prog 163 #[.agg #[.bool s, .slice A h.length C], .agg #[.bool s, .slice B lb.length E]] w fun e w'=>∃v,e= .returned v /\ eQ w' v n /\ Below w.heap.size w w':=by
 have HN:=lH hn;clear hn;obtain⟨W,T⟩:=eX (((w.alloc (.cells #[.bool s, .slice A h.length C] 103)).alloc (.cells #[.bool s, .slice B lb.length E] 103)).alloc (.cells #[.bool false, .slice none 0 0] 103));obtain⟨G,U,V,X,F⟩:=kQ w (.cells #[.bool s, .slice A h.length C] 103) (.cells #[.bool s, .slice B lb.length E] 103) (.cells #[.bool false, .slice none 0 0] 103);rw[<- T] at G U V X F;have G:Row W w.heap.size 103 [.bool s, .slice A h.length C]:=G;have U:Row W (w.heap.size+1) 103 [.bool s, .slice B lb.length E]:=U;have V:Row W (w.heap.size+1+1) 103 [.bool false, .slice none 0 0]:=V;have HA:=lH (U32.below a8 F);have HB:=lH (U32.below a9 F);have ad:=lH F;have R:=lH X;clear a8 a9 F X;go_enter func163,ntmps163;go_wp2_with fail
 rw[<- T];have HW:=lH T;clear T;have f1:=G.at_ 0 rfl;have f2:=G.at_ 1 rfl;have f3:=U.at_ 1 rfl
 go_region_held3 (fun w'=> w'.cell? ⟨w.heap.size,0,none⟩=some (.bool s) /\ w'.cell? ⟨w.heap.size,1,none⟩=some (.slice A h.length C) /\ w'.cell? ⟨w.heap.size+1,1,none⟩=some (.slice B lb.length E))
  (first | exact⟨f1,f2,f3⟩ | exact⟨a0,a2,a4⟩ | exact⟨a1,a3,a5⟩ | exact⟨(iP _ _ _ _ _ _ _ _ oM).trans a1,(iP _ _ _ _ _ _ _ _ oM).trans a3,(iP _ _ _ _ _ _ _ _ oM).trans a5⟩ | go_keep)
  (first
   | (go_at_call 185
      refine(ET A B C E h lb _ (by exact HA.o) (by exact HB.o) af ag oM oM).mono ?_;rintro e Z ⟨g,Y,rfl,a7,ah,aa,a6,r,hg⟩;have r:Below W.heap.size W Z:=(Below.refl _ W).drew.trans r;have hg:W.heap.size <= g:=hg;have O:=R.o;have a0:=((fw r).1 w.heap.size 0 oM).trans f1;have a2:=((fw r).1 w.heap.size 1 oM).trans f2;have a4:=((fw r).1 (w.heap.size+1) 1 oM).trans f3;have ab:=lH a6;have ac:=lH aa
      clear a6 O aa)
   | (go_at_call 140
      refine(lN s _ Y _ (by exact⟨_,_,rfl,Nat.le_refl _,by have:=ab.o;unfold maxLen;omega,a7.u32,ah⟩)).mono ?_;rintro e w2 ⟨v,rfl,ai,t⟩;have t:Below Z.heap.size Z w2:=t;have hz:=a7.lt;have O:=R.o;have a1:=((fw t).1 w.heap.size 0 oM).trans a0;have a3:=((fw t).1 w.heap.size 1 oM).trans a2;have a5:=((fw t).1 (w.heap.size+1) 1 oM).trans a4;have M:Row w2 (w.heap.size+1+1) 103 [.bool false, .slice none 0 0]:=Row.below (Row.below V r oM) t oM;have k1:=M.at_ 0 rfl;have k2:=M.at_ 1 rfl;have k3:=M.free 0;have k4:=M.free 1;obtain⟨A',c',rfl,h1,h2,h3⟩:=ai;have H3:=lH h3;have aj:=lH O
      clear h3 O))
 go_wp2_with fail
 refine bodyPost_ret (v:= .agg #[.bool (decide (sgn s (val Y)<0)), .slice A' (ek (sgn s (val Y)).natAbs).length c']) (by simp[results,results163,go_sem,k1,k2]) rfl ?_;have HV:=ac.o;rw[<- HN.o, <- HV];refine⟨_,rfl,⟨A',c',rfl,h1,h2,?_⟩,?_⟩
 ·exact H3.o.kept (je _ _ _ _ _ _) M (by simp)
 ·have ae:Below w.heap.size w w2:=(ad.o.trans (r.mono (by have:=R.o;omega))).trans (t.mono (by have:=R.o;omega));exact(ae.setCell (p:=⟨w.heap.size+1+1,0,none⟩) (by simp;omega) _).setCell (p:=⟨w.heap.size+1+1,1,none⟩) (by simp;omega) _
end
section
open Go.RowKit
theorem yw(A B:Option Addr)(r t:Nat)(s:Bool)(x y:Nat)(h lb:List Nat)(U:h=ek x)(V:lb=ek y)(n:Int)(w:World)(a9:U32 w A h)(aa:U32 w B lb)(ak:Dig h)(al:Dig lb)(ar:h.length<8796093022208)(au:lb.length<8796093022208)
  (a6:y <= x) (hn:sgn (s) (val h-val lb)=n):
  Calls prog 163 #[.agg #[.bool s, .slice A h.length r], .agg #[.bool (!s), .slice B lb.length t]] w fun e w'=>∃v,e= .returned v /\ eQ w' v n /\ Below w.heap.size w w':=by
 have HN:=lH hn;have ho:0 <= fM x y:=by unfold fM;split <;> (try split) <;> omega
 have ae:=lH U;have af:=lH V;have ac:val lb <= val h:=by rw[U,V,fu,fu];omega
 have ap:lb.length <= h.length:=by rw[U,V];exact iO a6
 have ah:=lH ac;clear hn U V a6 ac;obtain⟨W,T⟩:=eX (((w.alloc (.cells #[.bool s, .slice A h.length r] 103)).alloc (.cells #[.bool (!s), .slice B lb.length t] 103)).alloc (.cells #[.bool false, .slice none 0 0] 103));obtain⟨G,X,Y,Z,F⟩:=kQ w (.cells #[.bool s, .slice A h.length r] 103) (.cells #[.bool (!s), .slice B lb.length t] 103) (.cells #[.bool false, .slice none 0 0] 103);rw[<- T] at G X Y Z F;have G:Row W w.heap.size 103 [.bool s, .slice A h.length r]:=G;have X:Row W (w.heap.size+1) 103 [.bool (!s), .slice B lb.length t]:=X;have Y:Row W (w.heap.size+1+1) 103 [.bool false, .slice none 0 0]:=Y;have HA:=lH (U32.below a9 F);have HB:=lH (U32.below aa F);have ai:=lH F;have R:=lH Z;clear a9 aa F Z;go_enter func163,ntmps163;go_wp2_with fail
 rw[<- T];have HW:=lH T;clear T;have e1:=G.at_ 1 rfl;have e2:=X.at_ 1 rfl;have f1:=G.at_ 0 rfl;go_wp2_with fail
 refine(rU A B r t x y h lb W ae af HA.o HB.o oM oM).mono ?_;rintro e wd ⟨rfl,an⟩;obtain⟨nd,rfl⟩:=an;go_wp2_with fail
 have av:(W.drewN nd).heap.size=W.heap.size:=rfl
 go_region_held3 (fun w'=> w'.cell? ⟨w.heap.size,0,none⟩=some (.bool (s)) /\ w'.cell? ⟨w.heap.size,1,none⟩=some (.slice A h.length r) /\ w'.cell? ⟨w.heap.size+1,1,none⟩=some (.slice B lb.length t))
  (first | exact⟨f1,e1,e2⟩ | exact⟨a4,a0,a2⟩ | exact⟨a5,a1,a3⟩ | exact⟨(iP _ _ _ _ _ _ _ _ oM).trans a5,(iP _ _ _ _ _ _ _ _ oM).trans a1,(iP _ _ _ _ _ _ _ _ oM).trans a3⟩ | go_keep)
  (first
   | (go_at_call 186
      refine(yt A B r t h lb _ (by exact HA.o) (by exact HB.o) ak al oM ap ah.o).mono ?_;rintro e w1 ⟨g,lr,rfl,a8,am,ab,a7,C,hg⟩;have C:Below W.heap.size W w1:=(below_drewN _ W nd).trans ((Below.refl _ (W.drewN nd)).drew.trans C);have hg:W.heap.size <= g:=hg;have O:=R.o;have a4:=((fw C).1 (w.heap.size) 0 oM).trans f1;have a0:=((fw C).1 w.heap.size 1 oM).trans e1;have a2:=((fw C).1 (w.heap.size+1) 1 oM).trans e2;have ad:=lH a7;have ag:=lH ab
      clear a7 O ab)
   | (go_at_call 140
      refine(lN (s) _ lr _ (by exact⟨_,_,rfl,Nat.le_refl _,by have:=ad.o;unfold maxLen;omega,a8.u32,am⟩)).mono ?_;rintro e w2 ⟨v,rfl,ao,E⟩;have E:Below w1.heap.size w1 w2:=E;have hz:=a8.lt;have O:=R.o;have a5:=((fw E).1 (w.heap.size) 0 oM).trans a4;have a1:=((fw E).1 w.heap.size 1 oM).trans a0;have a3:=((fw E).1 (w.heap.size+1) 1 oM).trans a2;have M:Row w2 (w.heap.size+1+1) 103 [.bool false, .slice none 0 0]:=Row.below (Row.below Y C oM) E oM;have k1:=M.at_ 0 rfl;have k2:=M.at_ 1 rfl;have k3:=M.free 0;have k4:=M.free 1;obtain⟨A',c',rfl,h1,h2,h3⟩:=ao;have H3:=lH h3;have aq:=lH O
      clear h3 O))
 go_wp2_with fail
 refine bodyPost_ret (v:= .agg #[.bool (decide (sgn (s) (val lr)<0)), .slice A' (ek (sgn (s) (val lr)).natAbs).length c']) (by simp[results,results163,go_sem,k1,k2]) rfl ?_;have HV:=ag.o;rw[<- HN.o, <- HV];refine⟨_,rfl,⟨A',c',rfl,h1,h2,?_⟩,?_⟩
 ·exact H3.o.kept (je _ _ _ _ _ _) M (by simp)
 ·have aj:Below w.heap.size w w2:=(ai.o.trans (C.mono (by have:=R.o;omega))).trans (E.mono (by have:=R.o;omega));exact(aj.setCell (p:=⟨w.heap.size+1+1,0,none⟩) (by simp;omega) _).setCell (p:=⟨w.heap.size+1+1,1,none⟩) (by simp;omega) _
theorem add_lt(A B:Option Addr)(r t:Nat)(s:Bool)(x y:Nat)(h lb:List Nat)(U:h=ek x)(V:lb=ek y)(n:Int)(w:World)(a9:U32 w A h)(aa:U32 w B lb)(ak:Dig h)(al:Dig lb)(ar:h.length<8796093022208)(au:lb.length<8796093022208)
  (a6:x<y) (hn:sgn (!s) (val lb-val h)=n):
  Calls prog 163 #[.agg #[.bool s, .slice A h.length r], .agg #[.bool (!s), .slice B lb.length t]] w fun e w'=>∃v,e= .returned v /\ eQ w' v n /\ Below w.heap.size w w':=by
 have HN:=lH hn;have ho:¬0 <= fM x y:=by unfold fM;split <;> (try split) <;> omega
 have ae:=lH U;have af:=lH V;have ac:val h <= val lb:=by rw[U,V,fu,fu];omega
 have ap:h.length <= lb.length:=by rw[U,V];exact iO (Nat.le_of_lt a6)
 have ah:=lH ac;clear hn U V a6 ac;obtain⟨W,T⟩:=eX (((w.alloc (.cells #[.bool s, .slice A h.length r] 103)).alloc (.cells #[.bool (!s), .slice B lb.length t] 103)).alloc (.cells #[.bool false, .slice none 0 0] 103));obtain⟨X,G,Y,Z,F⟩:=kQ w (.cells #[.bool s, .slice A h.length r] 103) (.cells #[.bool (!s), .slice B lb.length t] 103) (.cells #[.bool false, .slice none 0 0] 103);rw[<- T] at X G Y Z F;have X:Row W w.heap.size 103 [.bool s, .slice A h.length r]:=X;have G:Row W (w.heap.size+1) 103 [.bool (!s), .slice B lb.length t]:=G;have Y:Row W (w.heap.size+1+1) 103 [.bool false, .slice none 0 0]:=Y;have HA:=lH (U32.below a9 F);have HB:=lH (U32.below aa F);have ai:=lH F;have R:=lH Z;clear a9 aa F Z;go_enter func163,ntmps163;go_wp2_with fail
 rw[<- T];have HW:=lH T;clear T;have e1:=X.at_ 1 rfl;have e2:=G.at_ 1 rfl;have f1:=G.at_ 0 rfl;go_wp2_with fail
 refine(rU A B r t x y h lb W ae af HA.o HB.o oM oM).mono ?_;rintro e wd ⟨rfl,an⟩;obtain⟨nd,rfl⟩:=an;go_wp2_with fail
 have av:(W.drewN nd).heap.size=W.heap.size:=rfl
 go_region_held3 (fun w'=> w'.cell? ⟨w.heap.size+1,0,none⟩=some (.bool (!s)) /\ w'.cell? ⟨w.heap.size,1,none⟩=some (.slice A h.length r) /\ w'.cell? ⟨w.heap.size+1,1,none⟩=some (.slice B lb.length t))
  (first | exact⟨f1,e1,e2⟩ | exact⟨a4,a0,a2⟩ | exact⟨a5,a1,a3⟩ | exact⟨(iP _ _ _ _ _ _ _ _ oM).trans a5,(iP _ _ _ _ _ _ _ _ oM).trans a1,(iP _ _ _ _ _ _ _ _ oM).trans a3⟩ | go_keep)
  (first
   | (go_at_call 186
      refine(yt B A t r lb h _ (by exact HB.o) (by exact HA.o) al ak oM ap ah.o).mono ?_;rintro e w1 ⟨g,lr,rfl,a8,am,ab,a7,C,hg⟩;have C:Below W.heap.size W w1:=(below_drewN _ W nd).trans ((Below.refl _ (W.drewN nd)).drew.trans C);have hg:W.heap.size <= g:=hg;have O:=R.o;have a4:=((fw C).1 (w.heap.size+1) 0 oM).trans f1;have a0:=((fw C).1 w.heap.size 1 oM).trans e1;have a2:=((fw C).1 (w.heap.size+1) 1 oM).trans e2;have ad:=lH a7;have ag:=lH ab
      clear a7 O ab)
   | (go_at_call 140
      refine(lN (!s) _ lr _ (by exact⟨_,_,rfl,Nat.le_refl _,by have:=ad.o;unfold maxLen;omega,a8.u32,am⟩)).mono ?_;rintro e w2 ⟨v,rfl,ao,E⟩;have E:Below w1.heap.size w1 w2:=E;have hz:=a8.lt;have O:=R.o;have a5:=((fw E).1 (w.heap.size+1) 0 oM).trans a4;have a1:=((fw E).1 w.heap.size 1 oM).trans a0;have a3:=((fw E).1 (w.heap.size+1) 1 oM).trans a2;have M:Row w2 (w.heap.size+1+1) 103 [.bool false, .slice none 0 0]:=Row.below (Row.below Y C oM) E oM;have k1:=M.at_ 0 rfl;have k2:=M.at_ 1 rfl;have k3:=M.free 0;have k4:=M.free 1;obtain⟨A',c',rfl,h1,h2,h3⟩:=ao;have H3:=lH h3;have aq:=lH O
      clear h3 O))
 go_wp2_with fail
 refine bodyPost_ret (v:= .agg #[.bool (decide (sgn (!s) (val lr)<0)), .slice A' (ek (sgn (!s) (val lr)).natAbs).length c']) (by simp[results,results163,go_sem,k1,k2]) rfl ?_;have HV:=ag.o;rw[<- HN.o, <- HV];refine⟨_,rfl,⟨A',c',rfl,h1,h2,?_⟩,?_⟩
 ·exact H3.o.kept (je _ _ _ _ _ _) M (by simp)
 ·have aj:Below w.heap.size w w2:=(ai.o.trans (C.mono (by have:=R.o;omega))).trans (E.mono (by have:=R.o;omega));exact(aj.setCell (p:=⟨w.heap.size+1+1,0,none⟩) (by simp;omega) _).setCell (p:=⟨w.heap.size+1+1,1,none⟩) (by simp;omega) _
end
section
open Go.RowKit
theorem qC(O R:Value)(a b:Int)(w:World)(T:eQ w O a)(U:eQ w R b)(C:(ek a.natAbs).length<8796093022208)(E:(ek b.natAbs).length<8796093022208):
  Calls prog 163 #[O,R] w fun e w'=>∃v,e= .returned v /\ eQ w' v (a+b) /\ Below w.heap.size w w':=by
 obtain⟨A,r,rfl,V,X,F⟩:=T;obtain⟨B,t,rfl,W,Y,G⟩:=U;by_cases h1:a<0 <;> by_cases M:b<0
 ·rw[decide_eq_true h1,decide_eq_true M];exact yu A B r t true _ _ (a+b) w F G (fF _) (fF _) C E (by rw[fu,fu];simp[sgn];omega)
 ·rw[decide_eq_true h1,decide_eq_false M]
  rcases Nat.lt_or_ge a.natAbs b.natAbs with h | h
  ·exact add_lt A B r t true a.natAbs b.natAbs _ _ rfl rfl (a+b) w F G (fF _) (fF _) C E h (by rw[fu,fu];simp[sgn];omega)
  ·exact yw A B r t true a.natAbs b.natAbs _ _ rfl rfl (a+b) w F G (fF _) (fF _) C E h (by rw[fu,fu];simp[sgn];omega)
 ·rw[decide_eq_false h1,decide_eq_true M]
  rcases Nat.lt_or_ge a.natAbs b.natAbs with h | h
  ·exact add_lt A B r t false a.natAbs b.natAbs _ _ rfl rfl (a+b) w F G (fF _) (fF _) C E h (by rw[fu,fu];simp[sgn];omega)
  ·exact yw A B r t false a.natAbs b.natAbs _ _ rfl rfl (a+b) w F G (fF _) (fF _) C E h (by rw[fu,fu];simp[sgn];omega)
 ·rw[decide_eq_false h1,decide_eq_false M];exact yu A B r t false _ _ (a+b) w F G (fF _) (fF _) C E (by rw[fu,fu];simp[sgn];omega)
theorem rV(G:Value)(a:Int)(w:World)(T:eQ w G a):
  Calls prog 108 #[G] w fun e w'=>∃v,e= .returned v /\ eQ w' v (-a) /\ Below w.heap.size w w':=by
 obtain⟨A,h,rfl,C,E,F⟩:=T;have R:=lH F;have M:=lH C;have O:=lH E;clear F C E
 have U:∀s:Bool,Calls prog 108 #[.agg #[.bool s, .slice A (ek a.natAbs).length h]] w fun e w'=>e= .returned (.agg #[.bool (!s && decide (0<(ek a.natAbs).length)), .slice A (ek a.natAbs).length h]) /\ Below w.heap.size w w':=by
  intro s;generalize (ek a.natAbs).length=n;cases s
  all_goals
   go_enter func108,ntmps108;go_wp2_with fail
   go_returns;exact⟨by simp,by go_grown⟩
 refine(U _).mono ?_;rintro e w' ⟨rfl,t⟩;have r:(-a).natAbs=a.natAbs:=Int.natAbs_neg a;refine⟨_,rfl,⟨A,h,?_,by rw[r];exact M.o,O.o,by rw[r];exact U32.below R.o t⟩,t⟩;rw[r]
 have:(!decide (a<0) && decide (0<(ek a.natAbs).length))=decide (-a<0):=by
  rw[Bool.eq_iff_iff];simp only[Bool.and_eq_true,Bool.not_eq_true',decide_eq_true_eq,decide_eq_false_iff_not,kK];omega
 rw[this]
def sgI(a:Int):Int:=if a<0 then -1 else if a=0 then 0 else 1
theorem ko(C:Value)(a:Int)(w:World)(E:eQ w C a):
  Calls prog 113 #[C] w fun e w'=>e= .returned (.int .i64 (sgI a)) /\ Below w.heap.size w w':=by
 obtain⟨A,T,rfl,F,G,O⟩:=E;clear O F G;obtain⟨r,h⟩:=eX (sgI a);rw[<- h];have t:=lH h;clear h;by_cases h0:a=0
 ·have h:=t.o;subst h0;subst h;rw[show(ek (0:Int).natAbs).length=0 from by simp[gJ]];go_enter func113,ntmps113;go_wp2_with fail
  go_returns;exact⟨rfl,by go_grown⟩
 ·have U:0<(ek a.natAbs).length:=kK.2 oM;have h:=t.o;unfold sgI at h;have R:=lH h0;by_cases h1:a<0
  ·rw[if_pos h1] at h;subst h;rw[decide_eq_true h1];clear t h0 h1;generalize (ek a.natAbs).length=n at*;have M:(((n:Nat):Int)==0)=false:=by simp;omega
   go_enter func113,ntmps113;go_wp2_with fail
   go_returns;exact⟨rfl,by go_grown⟩
  ·rw[if_neg h1,if_neg h0] at h;subst h;rw[decide_eq_false h1];clear t h0 h1;generalize (ek a.natAbs).length=n at*;have M:(((n:Nat):Int)==0)=false:=by simp;omega
   go_enter func113,ntmps113;go_wp2_with fail
   go_returns;exact⟨rfl,by go_grown⟩
end
section
open Go.RowKit
theorem EU(va vb:Value)(a b:Int)(w:World)(ha:eQ w va a)(hb:eQ w vb b)(ab:(ek a.natAbs).length<8796093022208)(ac:(ek b.natAbs).length<8796093022208):
  Calls prog 200 #[va,vb] w fun e w'=>∃v,e= .returned v /\ eQ w' v (a-b) /\ Below w.heap.size w w':=by
 have a0:=ha;have a1:=hb;obtain⟨A,R,rfl, -, -, -⟩:=ha;obtain⟨B,T,rfl, -, -, -⟩:=hb;generalize decide (a<0)=s at*;generalize decide (b<0)=t at*;have ah:=lH ab;have ai:=lH ac;clear ab ac;obtain⟨V,ad⟩:=eX ((ek a.natAbs).length);obtain⟨X,ae⟩:=eX ((ek b.natAbs).length);rw[<- ad] at a0 ⊢;rw[<- ae] at a1 ⊢;clear ad ae;obtain⟨W,U⟩:=eX (((w.alloc (.cells #[.bool s, .slice A V R] 103)).alloc (.cells #[.bool t, .slice B X T] 103)).alloc (.cells #[.bool false, .slice none 0 0] 103));obtain⟨E,F,Y,Z,C⟩:=kQ w (.cells #[.bool s, .slice A V R] 103) (.cells #[.bool t, .slice B X T] 103) (.cells #[.bool false, .slice none 0 0] 103);rw[<- U] at E F Y Z C;have E:Row W w.heap.size 103 [.bool s, .slice A V R]:=E;have F:Row W (w.heap.size+1) 103 [.bool t, .slice B X T]:=F;have Y:Row W (w.heap.size+1+1) 103 [.bool false, .slice none 0 0]:=Y;have HA:=lH (a0.below C);have HB:=lH (a1.below C);have aj:=lH C;have O:=lH Z;clear a0 a1 C Z;go_enter func200,ntmps200;go_wp2_with fail
 rw[<- U];have HW:=lH U;clear U;have e1:=E.at_ 0 rfl;have e2:=E.at_ 1 rfl;have e3:=F.at_ 0 rfl;have e4:=F.at_ 1 rfl
 go_region_held3 (fun w'=> w'.cell? ⟨w.heap.size,0,none⟩=some (.bool s) /\ w'.cell? ⟨w.heap.size,1,none⟩=some (.slice A V R) /\ w'.cell? ⟨w.heap.size+1,0,none⟩=some (.bool t) /\ w'.cell? ⟨w.heap.size+1,1,none⟩=some (.slice B X T))
  (first | exact⟨e1,e2,e3,e4⟩ | exact⟨a2,a4,a6,a8⟩ | exact⟨a3,a5,a7,a9⟩ | exact⟨(iP _ _ _ _ _ _ _ _ oM).trans a3,(iP _ _ _ _ _ _ _ _ oM).trans a5,(iP _ _ _ _ _ _ _ _ oM).trans a7,(iP _ _ _ _ _ _ _ _ oM).trans a9⟩ | go_keep)
  (first
   | (go_at_call 108
      refine(rV _ b _ (by exact HB.o)).mono ?_;rintro e w1 ⟨v1,rfl,aa,h⟩;have h:Below W.heap.size W w1:=(Below.refl _ W).drew.trans h;have M:=O.o;have an:=h.size;have a2:=((fw h).1 w.heap.size 0 oM).trans e1;have a4:=((fw h).1 w.heap.size 1 oM).trans e2;have a6:=((fw h).1 (w.heap.size+1) 0 oM).trans e3;have a8:=((fw h).1 (w.heap.size+1) 1 oM).trans e4;have ag:=lH aa;have af:=lH (eQ.below HA.o h)
      clear aa M)
   | (go_at_call 163
      refine(qC _ _ a (-b) _ (by exact af.o) (by exact ag.o) ah.o (by rw[Int.natAbs_neg];exact ai.o)).mono ?_;rintro e w2 ⟨v,rfl,al,r⟩;have r:Below w1.heap.size w1 w2:=r;have M:=O.o;have a3:=((fw r).1 w.heap.size 0 oM).trans a2;have a5:=((fw r).1 w.heap.size 1 oM).trans a4;have a7:=((fw r).1 (w.heap.size+1) 0 oM).trans a6;have a9:=((fw r).1 (w.heap.size+1) 1 oM).trans a8;have G:Row w2 (w.heap.size+1+1) 103 [.bool false, .slice none 0 0]:=Row.below (Row.below Y h oM) r oM;have k1:=G.at_ 0 rfl;have k2:=G.at_ 1 rfl;have k3:=G.free 0;have k4:=G.free 1;obtain⟨A',c',rfl,h1,h2,h3⟩:=al;have H1:=lH h1;have H3:=lH h3;have am:=lH M
      clear h1 h3 M))
 go_wp2_with fail
 refine bodyPost_ret (v:= .agg #[.bool (decide (a+ -b<0)), .slice A' (ek (a+ -b).natAbs).length c']) (by simp[results,results200,go_sem,k1,k2]) rfl ?_;rw[show a-b=a+ -b from Int.sub_eq_add_neg];refine⟨_,rfl,⟨A',c',rfl,H1.o,h2,?_⟩,?_⟩
 ·exact H3.o.kept (je _ _ _ _ _ _) G (by simp)
 ·have ak:Below w.heap.size w w2:=(aj.o.trans (h.mono (by have:=O.o;omega))).trans (r.mono (by have:=O.o;omega));exact(ak.setCell (p:=⟨w.heap.size+1+1,0,none⟩) (by simp;omega) _).setCell (p:=⟨w.heap.size+1+1,1,none⟩) (by simp;omega) _
def gI(a b:Int):Int:=if a<b then -1 else if a=b then 0 else 1
theorem jK(va vb:Value)(a b:Int)(w:World)(ha:eQ w va a)(hb:eQ w vb b)(a5:(ek a.natAbs).length<8796093022208)(a6:(ek b.natAbs).length<8796093022208):
  Calls prog 133 #[va,vb] w fun e w'=>e= .returned (.int .i64 (gI a b)) /\ Below w.heap.size w w':=by
 obtain⟨A,V,rfl, -, -,Y⟩:=ha;obtain⟨B,X,rfl, -, -,Z⟩:=hb;obtain⟨r,hr⟩:=eX (gI a b);rw[<- hr];have U:=lH hr;clear hr
 have a7:∀ (s t:Bool) (r:Int),(s≠t -> r=if s=true then -1 else 1) -> (s=true -> t=true -> r=fM b.natAbs a.natAbs) -> (s=false -> t=false -> r=fM a.natAbs b.natAbs) ->
   Calls prog 133 #[.agg #[.bool s, .slice A (ek a.natAbs).length V], .agg #[.bool t, .slice B (ek b.natAbs).length X]] w fun e w'=>e= .returned (.int .i64 r) /\ Below w.heap.size w w':=by
  intro s t r F R T;generalize hx:a.natAbs=x at*;generalize hy:b.natAbs=y at*;clear U hx hy a b;obtain⟨la,a1⟩:∃l,l=ek x:=⟨_,rfl⟩
  obtain⟨lb,a2⟩:∃l,l=ek y:=⟨_,rfl⟩
  rw[<- a1] at Y a5 ⊢;rw[<- a2] at Z a6 ⊢;have a3:Hid (la=ek x):=lH a1;have a4:Hid (lb=ek y):=lH a2;clear a1 a2;have a8:=lH Y;have a9:=lH Z;obtain⟨W,G⟩:=eX ((w.alloc (.cells #[.bool s, .slice A la.length V] 103)).alloc (.cells #[.bool t, .slice B lb.length X] 103));have E:Below w.heap.size w W:=by rw[G];go_grown
  have HA:=lH (U32.below Y E);have HB:=lH (U32.below Z E);clear Y Z;cases s <;> cases t
  ·have q:=T rfl rfl;have HQ:=lH q;clear F R T q;go_enter func133,ntmps133;go_wp2_with fail
   rw[<- G];refine(rU A B V X x y la lb W a3 a4 HA.o HB.o oM oM).mono ?_;rintro e wd ⟨rfl,O⟩;have M:=E.trans (O.below _);have a0:=lH M;clear G E M O;go_wp2_with fail
   go_returns;exact⟨by rw[HQ.o];rfl,a0.o⟩
  ·have q:=F (by simp);simp at q;subst q;clear F R T;go_enter func133,ntmps133;go_wp2_with fail
   go_returns;exact⟨rfl,by go_grown⟩
  ·have q:=F (by simp);simp at q;subst q;clear F R T;go_enter func133,ntmps133;go_wp2_with fail
   go_returns;exact⟨rfl,by go_grown⟩
  ·have q:=R rfl rfl;have HQ:=lH q;clear F R T q;go_enter func133,ntmps133;go_wp2_with fail
   rw[<- G];refine(rU B A X V y x lb la W a4 a3 HB.o HA.o oM oM).mono ?_;rintro e wd ⟨rfl,O⟩;have M:=E.trans (O.below _);have a0:=lH M;clear G E M O;go_wp2_with fail
   go_returns;exact⟨by rw[HQ.o];rfl,a0.o⟩
 refine a7 _ _ _ ?_ ?_ ?_
 ·intro h;rw[U.o];unfold gI;by_cases h1:a<0 <;> by_cases C:b<0
  ·rw[decide_eq_true h1,decide_eq_true C] at h;exact absurd rfl h
  ·rw[decide_eq_true h1,if_pos oM];simp
  ·rw[decide_eq_false h1,if_neg oM,if_neg oM];simp
  ·rw[decide_eq_false h1,decide_eq_false C] at h;exact absurd rfl h
 ·intro h1 C;rw[U.o];simp only[decide_eq_true_eq] at h1 C;unfold gI fM;split <;> (try split) <;> (try split) <;> (try split) <;> omega
 ·intro h1 C;rw[U.o];simp only[decide_eq_false_iff_not] at h1 C;unfold gI fM;split <;> (try split) <;> (try split) <;> (try split) <;> omega
end
section
open Go.RowKit
theorem EW(x y:Nat):val [x,y]=x+4294967296*y:=by simp[val,ik]
theorem EX{x y:Nat}(h:x<4294967296)(r:y<4294967296):Dig [x,y]:=Dig.cons h (Dig.cons r Dig.nil)
theorem EY(m:Nat)(h:m<18446744073709551616):IntKind.u64.wrap ((m:Nat):Int)=((m:Nat):Int):=by
 rw[IntKind.wrap_u64];omega
theorem EZ(m:Nat)(h:0<m)(r:m <= 9223372036854775808):IntKind.u64.wrap (-((m:Nat):Int))=((18446744073709551616-m:Nat):Int):=by
 rw[IntKind.wrap_u64];omega
theorem F6(m:Nat)(h:0<m)(r:m <= 9223372036854775808):IntKind.u64.wrap (-((18446744073709551616-m:Nat):Int))=((m:Nat):Int):=by
 rw[IntKind.wrap_u64];omega
theorem uS(n:Int)(w:World)(h1: -9223372036854775808 <= n)(h2:n <= 9223372036854775807):
  Calls prog 112 #[.int .i64 n] w fun e w'=>∃v,e= .returned v /\ eQ w' v n /\ Below w.heap.size w w':=by
 have a4:∀ (neg:Bool) (m:Nat),(neg=true -> 0<m) -> m <= 9223372036854775808 -> (neg=false -> m<9223372036854775808) -> sgn neg m=n ->
   Calls prog 112 #[.int .i64 n] w fun e w'=>∃v,e= .returned v /\ eQ w' v n /\ Below w.heap.size w w':=by
  intro neg m O Y a3 T;clear h1 h2;have X:((m%4294967296:Nat):Int)=((m:Nat):Int)%4294967296:=oM
  have V:((m / 4294967296:Nat):Int)=((m:Nat):Int) / 4294967296:=oM
  have a2:((m:Nat):Int) / 4294967296%4294967296=((m / 4294967296:Nat):Int):=oM
  have Z:val [m%4294967296,m / 4294967296]=m:=by rw[EW];omega
  have U:Dig [m%4294967296,m / 4294967296]:=EX oM oM;obtain⟨x,hx⟩:=eX (m%4294967296);obtain⟨y,hy⟩:=eX (m / 4294967296);rw[<- hx, <- hy] at Z U;rw[<- hx] at X;rw[<- hy] at V a2;have a8:((m:Nat):Int)%4294967296=((x:Nat):Int):=X.symm;have aa:((m:Nat):Int) / 4294967296=((y:Nat):Int):=V.symm;have a9:((y:Nat):Int)<4294967296:=oM
  have HV:=lH Z;have HD:=lH U;have HS:=lH T;cases neg
  ·have hw:IntKind.u64.wrap ((m:Nat):Int)=((m:Nat):Int):=EY m oM;obtain rfl:n=(m:Int):=by rw[<- T];simp[sgn]
   have a5:¬(((m:Nat):Int)<0):=oM
   clear hx hy X V a2 Z U T O Y a3;go_enter func112,ntmps112;go_wp2_with fail
   obtain⟨W,M⟩:=eX ((w.alloc (.cells #[.bool false, .slice none 0 0] 103)).alloc (.cells #[.int .u32 (x:Nat), .int .u32 (y:Nat)] 160));obtain⟨t,C,a1,E⟩:=rA w (.cells #[.bool false, .slice none 0 0] 103) (.cells #[.int .u32 (x:Nat), .int .u32 (y:Nat)] 160);rw[<- M] at t C a1 E ⊢;have t:Row W w.heap.size 103 [.bool false, .slice none 0 0]:=t;have C:fI W (w.heap.size+1) [x,y]:=C;have a0:=lH E;clear M E;refine(lN false _ [x,y] W (by exact⟨_,2,rfl,Nat.le_refl _,by unfold maxLen;omega,C.u32,HD.o⟩)).mono ?_;rintro e w2 ⟨v,rfl,r,F⟩;rw[HV.o,HS.o] at r;have h:Row w2 w.heap.size 103 [.bool false, .slice none 0 0]:=Row.below t F oM;have k1:=h.at_ 0 rfl;have k2:=h.at_ 1 rfl;have k3:=h.free 0;have k4:=h.free 1;obtain⟨sv,Av,lv,cv,rfl⟩:=r.shape;have R:=rC a0.o h (by simp) (by simp) (Nat.le_refl _) F r;have G:=lH R;clear R r F;go_wp2_with fail
   refine bodyPost_ret (v:= .agg #[.bool sv, .slice Av lv cv]) (by simp[results,results112,go_sem,k1,k2]) rfl ?_;exact⟨_,rfl,G.o.1,G.o.2⟩
  ·obtain rfl:n= -(m:Int):=by rw[<- T];simp[sgn]
   have O:=O rfl;have a6:=EZ m O Y;have a7:=F6 m O Y;obtain⟨u,hu⟩:=eX (18446744073709551616-m);rw[<- hu] at a6 a7;have a5: -((m:Nat):Int)<0:=oM
   clear hx hy X V a2 Z U T Y a3 hu;go_enter func112,ntmps112;go_wp2_with fail
   obtain⟨W,M⟩:=eX ((w.alloc (.cells #[.bool false, .slice none 0 0] 103)).alloc (.cells #[.int .u32 (x:Nat), .int .u32 (y:Nat)] 160));obtain⟨t,C,a1,E⟩:=rA w (.cells #[.bool false, .slice none 0 0] 103) (.cells #[.int .u32 (x:Nat), .int .u32 (y:Nat)] 160);rw[<- M] at t C a1 E ⊢;have t:Row W w.heap.size 103 [.bool false, .slice none 0 0]:=t;have C:fI W (w.heap.size+1) [x,y]:=C;have a0:=lH E;clear M E;refine(lN true _ [x,y] W (by exact⟨_,2,rfl,Nat.le_refl _,by unfold maxLen;omega,C.u32,HD.o⟩)).mono ?_;rintro e w2 ⟨v,rfl,r,F⟩;rw[HV.o,HS.o] at r;have h:Row w2 w.heap.size 103 [.bool false, .slice none 0 0]:=Row.below t F oM;have k1:=h.at_ 0 rfl;have k2:=h.at_ 1 rfl;have k3:=h.free 0;have k4:=h.free 1;obtain⟨sv,Av,lv,cv,rfl⟩:=r.shape;have R:=rC a0.o h (by simp) (by simp) (Nat.le_refl _) F r;have G:=lH R;clear R r F;go_wp2_with fail
   refine bodyPost_ret (v:= .agg #[.bool sv, .slice Av lv cv]) (by simp[results,results112,go_sem,k1,k2]) rfl ?_;exact⟨_,rfl,G.o.1,G.o.2⟩
 by_cases hn:n<0
 ·exact a4 true n.natAbs oM oM (by simp) (by unfold sgn;simp;omega)
 ·exact a4 false n.natAbs (by simp) oM oM (by unfold sgn;simp;omega)
end
section
theorem yx(a b:Int)(U:b≠0)(q r:Int)(h:q=sgn (decide (a<0) !=decide (b<0)) (a.natAbs / b.natAbs))(t:r=sgn (decide (a<0)) (a.natAbs%b.natAbs)):
  r+b*q=a /\ r.natAbs<b.natAbs:=by
 have h1:=Nat.div_add_mod a.natAbs b.natAbs;have T:=Nat.mod_lt a.natAbs (show 0<b.natAbs by omega);generalize V:a.natAbs / b.natAbs=x at*;generalize W:a.natAbs%b.natAbs=y at*;have M:((b.natAbs:Nat):Int)* (x:Nat)+ (y:Nat)=(a.natAbs:Nat):=by rw[<- h1];simp
 rcases Int.lt_or_le a 0 with O | O <;> rcases Int.lt_or_le b 0 with R | R
 ·have F:((a.natAbs:Nat):Int)= -a:=oM
  have G:((b.natAbs:Nat):Int)= -b:=oM
  rw[F,G,Int.neg_mul] at M;have C:decide (a<0)=true:=decide_eq_true O;have E:decide (b<0)=true:=decide_eq_true R;rw[C,E] at h;rw[C] at t;have h:q=(x:Nat):=h;have t:r= -((y:Nat):Int):=t;subst h t;exact⟨by omega,by omega⟩
 ·have F:((a.natAbs:Nat):Int)= -a:=oM
  have G:((b.natAbs:Nat):Int)=b:=oM
  rw[F,G] at M;have C:decide (a<0)=true:=decide_eq_true O;have E:decide (b<0)=false:=decide_eq_false oM;rw[C,E] at h;rw[C] at t;have h:q= -((x:Nat):Int):=h;have t:r= -((y:Nat):Int):=t;subst h t;rw[Int.mul_neg];exact⟨by omega,by omega⟩
 ·have F:((a.natAbs:Nat):Int)=a:=oM
  have G:((b.natAbs:Nat):Int)= -b:=oM
  rw[F,G,Int.neg_mul] at M;have C:decide (a<0)=false:=decide_eq_false oM;have E:decide (b<0)=true:=decide_eq_true R;rw[C,E] at h;rw[C] at t;have h:q= -((x:Nat):Int):=h;have t:r=((y:Nat):Int):=t;subst h t;rw[Int.mul_neg];exact⟨by omega,by omega⟩
 ·have F:((a.natAbs:Nat):Int)=a:=oM
  have G:((b.natAbs:Nat):Int)=b:=oM
  rw[F,G] at M;have C:decide (a<0)=false:=decide_eq_false oM;have E:decide (b<0)=false:=decide_eq_false oM;rw[C,E] at h;rw[C] at t;have h:q=((x:Nat):Int):=h;have t:r=((y:Nat):Int):=t;subst h t;exact⟨by omega,by omega⟩
theorem yz{a b q r:Int}(h:r+b*q=a)(C:(0 <= r /\ r<b) \/ (b<r /\ r <= 0)):a.fdiv b=q /\ a.fmod b=r:=by
 rcases C with ⟨h1,t⟩ | ⟨h1,t⟩
 ·exact(Int.fdiv_fmod_unique oM).2 ⟨h,h1,t⟩
 ·exact(Int.fdiv_fmod_unique' oM).2 ⟨h,h1,t⟩
theorem rX{a b q r:Int}(h:r+b*q=a /\ r.natAbs<b.natAbs)(t:r=0 \/ decide (r<0)=decide (b<0)):q=a.fdiv b /\ r=a.fmod b:=by
 have E:r=0 \/ (r<0↔b<0):=t.imp id (fun e=>by simpa using e);obtain⟨h1,C⟩:=h;have:=yz h1 oM;exact⟨this.1.symm,this.2.symm⟩
theorem yA{a b q r:Int}(h:r+b*q=a /\ r.natAbs<b.natAbs)(E:r≠0)(t:decide (r<0)≠decide (b<0)):q-1=a.fdiv b /\ r+b=a.fmod b:=by
 have F:¬(r<0↔b<0):=fun e=>t (by simpa using e)
 obtain⟨h1,C⟩:=h;have:=yz (a:=a) (b:=b) (q:=q-1) (r:=r+b) (by rw[Int.mul_sub,Int.mul_one];omega) oM;exact⟨this.1.symm,this.2.symm⟩
end
end Go.Proofs.YtdefghfjhgmpfaaGreatDoor
