/- Parts of this proof: SCheck. -/
import Derived.Test.YtokagbahdkfagaaGreatDoorMAY
namespace Go.Proofs.YtokagbahdkfagaaGreatDoor
open Go.Proofs.Tryz
open Go.RowKit
set_option maxRecDepth 100000 in
set_option maxHeartbeats 12800000 in
theorem zR(P:Prb)(A C:Option Addr)(cA cC:Nat)(w:World)(hp:PIn w (.slice A P.n cA) (.slice C P.m cC) P)(hg:fF w):
  Calls prog 55 #[.agg #[.slice A P.n cA, .slice C P.m cC]] w fun e w'=>e= .returned (.int .i64 (iA P:Nat)) /\ Below w.heap.size w w':=by
 have HD:=lH hp.1;have HC:=lH hp.2;have aH:=lH hg;clear hp hg;obtain⟨W,hW,r,h⟩:=eN1 w [.slice A P.n cA, .slice C P.m cC] 58;obtain⟨ay,aR⟩:=aT2 r.o;have al:=r.o.lt;by_cases hn:(64:Int)<(P.n:Nat)
 ·have HE:iA P=6:=by unfold iA;rw[if_pos oM]
  replace HE:=lH HE;go_enter func55,ntmps55
  go_upto_region 1 with (fail)
  rw[<- hW];clear hW;go_wp2_with fail
  go_returns;exact⟨by rw[HE.o];rfl,h.o⟩
 by_cases hm:(64:Int)<(P.m:Nat)
 ·have HE:iA P=6:=by unfold iA;rw[if_pos oM]
  replace HE:=lH HE;go_enter func55,ntmps55
  go_upto_region 1 with (fail)
  rw[<- hW];clear hW;go_wp2_with fail
  go_returns;exact⟨by rw[HE.o];rfl,h.o⟩
 have HN:=lH hn;have HM:=lH hm;have aM:= @run_makeMap prog;go_enter func55,ntmps55
 go_upto_region 1 with (fail)
 rw[<- hW];clear hW
 go_upto_region 3 with (fail)
 have ag:=al;clear ay aR al hn hm;obtain⟨B,a1⟩:=eX (W.heap.size);obtain⟨W2,a2⟩:=eX (W.alloc (.map #[] 0));have G:Hid (iX W2 B 0 []):=lH (by rw[a2,a1];exact iX.made W);have O:Below W.heap.size W W2:=by rw[a2];exact eD _ _
 replace r:=rW r O;have am:=h.o.size;replace h:=bT h O;clear O
 go_upto_region 4 with (fail)
 rw[<- a2, <- a1];clear a2 am;have aF:Hid (w.heap.size<B):=lH (by rw[a1];exact ag);clear a1;have ay:=aI 0 r;have al:=r.o.lt;go_wp2_with fail
 clear ay al
 go_loopw [25] (fun iv wr=>∃ (k:Nat),k <= P.n /\ iv= .int .i64 k /\ Hid (∀j,j<k -> gW P.s P.a P.l P.u j=0) /\ Hid (iX wr B k (kT P.s k)) /\ Hid (Row wr w.heap.size 58 [.slice A P.n cA, .slice C P.m cC]) /\ Hid (Below w.heap.size w wr)) (fun iv _=>P.n-(intOf iv).toNat)
 case atStart=>exact⟨0,Nat.zero_le _,rfl,lH (fun j hj=>absurd hj oM),G,r,h⟩
 case round=>
  clear r h G;obtain⟨k,hk,rfl,U,G,r,h⟩:=hrel;by_cases aL:((k:Nat):Int)<(P.n:Nat)
  ·have X:k<P.n:=oM
   skip
   obtain⟨gA,oA,rfl,a8⟩:=HD.o.at_ oM;have af:=cell_below h.o (a8 k X).1;have au:=cell_below h.o (a8 k X).2.1;have av:=cell_below h.o (a8 k X).2.2.1;have aQ:=cell_below h.o (a8 k X).2.2.2;have aw:=eF af;clear a8;obtain⟨W3,a3⟩:=eX (wr.alloc (.cells #[.string (P.s k), .int .i64 (P.a k), .int .i64 (P.l k), .int .i64 (P.u k)] 76));obtain⟨gT,a9⟩:=eX (wr.heap.size);have a4:Below wr.heap.size wr W3:=by rw[a3];exact eD _ _
   have M:Hid (Row W3 gT 76 [.string (P.s k), .int .i64 (P.a k), .int .i64 (P.l k), .int .i64 (P.u k)]):=lH (by rw[a3,a9];exact eO _ _);replace r:=rW r a4;replace h:=bT h a4;have ap:Hid (gT≠B):=lH (by have:=G.o.lt;omega);replace G:=lH (iX.below G.o a4 G.o.lt);clear a4
   go_upto_region 7 with (fail)
   clear af au av aQ aw;rw[<- a3, <- a9];clear a3 a9;have ar:=aI 0 M;have Y:=M.o.lt;go_wp2_with fail
   clear ar Y;refine(yG _ B k _ (P.s k) G.o (by have:=HN.o;omega)).mono ?_;rintro e w4 ⟨rfl,ae,a5⟩;have ab:gT≠B:=ap.o;have aK:=aF.o;replace M:=lH (M.o.chg a5 ab);replace r:=lH (r.o.chg a5 (fun e=>by omega));replace h:=lH (h.o.trans (a5.below h.o.size (fun j hj=>by omega)));replace G:=lH ae;clear a5 ae ab aK;obtain⟨E,hE⟩:=eX (jg (kT P.s k) (P.s k));rw[<- hE];have a0:=lH hE;clear hE;by_cases h0:E=0
   ·subst h0;have a6:=aI 1 M;have a7:=aI 2 M;have aa:=aI 3 M;have Y:=M.o.lt;go_wp2_with fail
    refine(uq (P.a k) _).mono ?_;rintro e w5 ⟨rfl,O⟩;clear a6 a7 aa Y;replace r:=rW r O;replace M:=rW M O;replace G:=lH (iX.below G.o O G.o.lt);replace h:=bT h O;clear O;have a6:=aI 1 M;have a7:=aI 2 M;have aa:=aI 3 M;have Y:=M.o.lt;cases hi0:jM (P.a k)
    ·have ah:=lH hi0;clear hi0;go_wp2_with fail
     go_returns;have R:gW P.s P.a P.l P.u k=2:=by unfold gW;rw[<- a0.o,if_neg oM,if_pos (.inl ah.o)]
     have V:fE P.n (gW P.s P.a P.l P.u)=gW P.s P.a P.l P.u k:=kv X U.o (by rw[R];decide);exact⟨by unfold iA;rw[if_neg (by have:=HN.o;have:=HM.o;omega),V,R,if_pos dC];rfl,h.o⟩
    ·have ah:=lH hi0;clear hi0;go_wp2_with fail
     refine(uq (P.l k) _).mono ?_;rintro e w6 ⟨rfl,O⟩;clear a6 a7 aa Y;replace r:=rW r O;replace M:=rW M O;replace G:=lH (iX.below G.o O G.o.lt);replace h:=bT h O;clear O;have a6:=aI 1 M;have a7:=aI 2 M;have aa:=aI 3 M;have Y:=M.o.lt;cases hi1:jM (P.l k)
     ·have ai:=lH hi1;clear hi1;go_wp2_with fail
      go_returns;have R:gW P.s P.a P.l P.u k=2:=by unfold gW;rw[<- a0.o,if_neg oM,if_pos (.inr (.inl ai.o))]
      have V:fE P.n (gW P.s P.a P.l P.u)=gW P.s P.a P.l P.u k:=kv X U.o (by rw[R];decide);exact⟨by unfold iA;rw[if_neg (by have:=HN.o;have:=HM.o;omega),V,R,if_pos dC];rfl,h.o⟩
     ·have ai:=lH hi1;clear hi1;go_wp2_with fail
      refine(uq (P.u k) _).mono ?_;rintro e w7 ⟨rfl,O⟩;clear a6 a7 aa Y;replace r:=rW r O;replace M:=rW M O;replace G:=lH (iX.below G.o O G.o.lt);replace h:=bT h O;clear O;have a6:=aI 1 M;have a7:=aI 2 M;have aa:=aI 3 M;have Y:=M.o.lt;cases hi2:jM (P.u k)
      ·have aj:=lH hi2;clear hi2;go_wp2_with fail
       go_returns;have R:gW P.s P.a P.l P.u k=2:=by unfold gW;rw[<- a0.o,if_neg oM,if_pos (.inr (.inr aj.o))]
       have V:fE P.n (gW P.s P.a P.l P.u)=gW P.s P.a P.l P.u k:=kv X U.o (by rw[R];decide);exact⟨by unfold iA;rw[if_neg (by have:=HN.o;have:=HM.o;omega),V,R,if_pos dC];rfl,h.o⟩
      ·have aj:=lH hi2;clear hi2;by_cases aE:P.u k<P.l k
       ·have ao:=lH aE
        skip
        go_wp2_with fail
        go_returns;have R:gW P.s P.a P.l P.u k=8:=by unfold gW;rw[<- a0.o,if_neg oM,if_neg (by rw[ah.o,ai.o,aj.o];simp),if_pos ao.o]
        have V:fE P.n (gW P.s P.a P.l P.u)=gW P.s P.a P.l P.u k:=kv X U.o (by rw[R];decide);exact⟨by unfold iA;rw[if_neg (by have:=HN.o;have:=HM.o;omega),V,R,if_pos dC];rfl,h.o⟩
       ·have ao:=lH aE;have aN:=HN.o;go_wp2_with fail
        clear a6 a7 aa Y;go_roundw
        case rel=>
         refine⟨k+1,X,by simp,lH (fun j hj=> ?_),G,r,h⟩;by_cases e:j=k
         ·rw[e];unfold gW;rw[<- a0.o,if_neg oM,if_neg (by rw[ah.o,ai.o,aj.o];simp),if_neg (by have:=ao.o;omega)]
         ·exact U.o j oM
        case measure=>exact mZ
   ·have Z:=lH h0;clear h0;have ac:¬((E:Nat):Int)=0:=by have:=Z.o;omega
    have aD:(((E:Nat):Int) !=0)=true:=by simpa using ac
    go_wp2_with fail
    go_returns;have R:gW P.s P.a P.l P.u k=E:=by unfold gW;rw[<- a0.o,if_pos Z.o]
    have V:fE P.n (gW P.s P.a P.l P.u)=gW P.s P.a P.l P.u k:=kv X U.o (by rw[R];exact Z.o);exact⟨by unfold iA;rw[if_neg (by have:=HN.o;have:=HM.o;omega),V,R,if_pos Z.o];first | done | rfl,h.o⟩
  ·have ad:k=P.n:=oM
   rw[ad] at U;clear ad G;have an:Hid (fE P.n (gW P.s P.a P.l P.u)=0):=lH (jw.2 U.o);clear U;have aM:= @run_makeMap prog;have ag:=r.o.lt;obtain⟨wo,rfl⟩:=eX (wr);obtain⟨B2,a1⟩:=eX (wo.heap.size);obtain⟨W4,a2⟩:=eX (wo.alloc (.map #[] 0));have G:Hid (iX W4 B2 0 []):=lH (by rw[a2,a1];exact iX.made wo);have O:Below wo.heap.size wo W4:=by rw[a2];exact eD _ _
   replace r:=rW r O;have am:=h.o.size;replace h:=bT h O;clear O
   go_upto_region 16 with (fail)
   rw[<- a2, <- a1];have ak:w.heap.size<B2:=by rw[a1];exact ag
   have aG:=lH ak;clear a2 a1 am ag ak;have aP:=aI 1 r;have ax:=r.o.lt;go_wp2_with fail
   clear aP ax
   go_loopw [64] (fun iv wr=>∃ (k:Nat),k <= P.m /\ iv= .int .i64 k /\ Hid (∀j,j<k -> jP P.n P.t P.F j=0) /\ Hid (iX wr B2 k (kT P.t k)) /\ Hid (Row wr w.heap.size 58 [.slice A P.n cA, .slice C P.m cC]) /\ Hid (Below w.heap.size w wr)) (fun iv _=>P.m-(intOf iv).toNat)
   case atStart=>exact⟨0,Nat.zero_le _,rfl,lH (fun j hj=>absurd hj oM),G,r,h⟩
   case round=>
    clear r h G;obtain⟨k,hk,rfl,U,G,r,h⟩:=hrel;by_cases aL:((k:Nat):Int)<(P.m:Nat)
    ·have X:k<P.m:=oM
     obtain⟨gC,oC,rfl,a8⟩:=HC.o.at_ oM;obtain⟨uv,aA,aB,aC,aq⟩:=a8 k X;obtain⟨T,cT,rfl,_,_⟩:=aq.shape;have aJ:=lH aq;have af:=cell_below h.o aA;have au:=cell_below h.o aB;have av:=cell_below h.o aC;have aw:=eF af;clear a8 aA aB aC aq;obtain⟨W3,a3⟩:=eX (wr.alloc (.cells #[.string (P.t k), .string (P.F k).c, .slice T (P.F k).N cT] 120));obtain⟨gT,a9⟩:=eX (wr.heap.size);have a4:Below wr.heap.size wr W3:=by rw[a3];exact eD _ _
     have M:Hid (Row W3 gT 120 [.string (P.t k), .string (P.F k).c, .slice T (P.F k).N cT]):=lH (by rw[a3,a9];exact eO _ _);replace r:=rW r a4;replace h:=bT h a4;have ap:Hid (gT≠B2):=lH (by have:=G.o.lt;omega);replace G:=lH (iX.below G.o a4 G.o.lt);clear a4
     go_upto_region 19 with (fail)
     clear af au av aw;rw[<- a3, <- a9];clear a3 a9;have ar:=aI 0 M;have Y:=M.o.lt;go_wp2_with fail
     clear ar Y;refine(yG _ B2 k _ (P.t k) G.o (by have:=HM.o;omega)).mono ?_;rintro e w4 ⟨rfl,ae,a5⟩;have ab:gT≠B2:=ap.o;have ak:=aG.o;replace M:=lH (M.o.chg a5 ab);replace r:=lH (r.o.chg a5 (fun e=>by omega));replace h:=lH (h.o.trans (a5.below h.o.size (fun j hj=>by omega)));replace G:=lH ae;clear a5 ae ab ak;obtain⟨E,hE⟩:=eX (jg (kT P.t k) (P.t k));rw[<- hE];have a0:=lH hE;clear hE;by_cases h0:E=0
     ·subst h0;have aO:=aI 0 r;have ax:=r.o.lt;have a6:=aI 1 M;have a7:=aI 2 M;have Y:=M.o.lt;go_wp2_with fail
      clear aO ax a6 a7 Y;refine(qd _ (P.F k) T cT _ (aJ.o.below h.o) (aH.o.below h.o)).mono ?_;rintro e w5 ⟨rfl,O⟩;replace r:=rW r O;replace G:=lH (iX.below G.o O G.o.lt);replace h:=bT h O;clear O;obtain⟨E,hE⟩:=eX (iL P.n (P.F k));rw[<- hE];have az:=lH hE;clear hE;by_cases h0:E=0
      ·subst h0;have aN:=HM.o;go_wp2_with fail
       go_roundw
       case rel=>
        refine⟨k+1,X,by simp,lH (fun j hj=> ?_),G,r,h⟩;by_cases e:j=k
        ·rw[e];unfold jP;rw[<- a0.o,if_neg (by simp), <- az.o]
        ·exact U.o j oM
       case measure=>exact mZ
      ·have Z:=lH h0;clear h0;have ac:¬((E:Nat):Int)=0:=by have:=Z.o;omega
       have aD:(((E:Nat):Int) !=0)=true:=by simpa using ac
       go_wp2_with fail
       go_returns;have R:jP P.n P.t P.F k=E:=by unfold jP;rw[<- a0.o,if_neg (by simp), <- az.o]
       have V:fE P.m (jP P.n P.t P.F)=jP P.n P.t P.F k:=kv X U.o (by rw[R];exact Z.o);exact⟨by unfold iA;rw[if_neg (by have:=HN.o;have:=HM.o;omega),if_neg (by rw[an.o];simp),V,R];first | done | rfl,h.o⟩
     ·have Z:=lH h0;clear h0;have ac:¬((E:Nat):Int)=0:=by have:=Z.o;omega
      have aD:(((E:Nat):Int) !=0)=true:=by simpa using ac
      go_wp2_with fail
      go_returns;have R:jP P.n P.t P.F k=E:=by unfold jP;rw[<- a0.o,if_pos Z.o]
      have V:fE P.m (jP P.n P.t P.F)=jP P.n P.t P.F k:=kv X U.o (by rw[R];exact Z.o);exact⟨by unfold iA;rw[if_neg (by have:=HN.o;have:=HM.o;omega),if_neg (by rw[an.o];simp),V,R];first | done | rfl,h.o⟩
    ·have ad:k=P.m:=oM
     rw[ad] at U;clear ad G;go_wp2_with fail
     go_returns;have V:fE P.m (jP P.n P.t P.F)=0:=jw.2 U.o;exact⟨by unfold iA;rw[if_neg (by have:=HN.o;have:=HM.o;omega),if_neg (by rw[an.o];simp),V];rfl,h.o⟩
end Go.Proofs.YtokagbahdkfagaaGreatDoor
