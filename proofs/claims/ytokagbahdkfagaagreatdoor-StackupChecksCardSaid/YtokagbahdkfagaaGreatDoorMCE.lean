/- Parts of this proof: LChecks. -/
import Derived.Test.YtokagbahdkfagaaGreatDoorMCD
import Derived.Test.YtokagbahdkfagaaGreatDoorMBV
import Derived.Test.YtokagbahdkfagaaGreatDoorMBL
import Derived.Test.YtokagbahdkfagaaGreatDoorMBJ
namespace Go.Proofs.YtokagbahdkfagaaGreatDoor
open Go.Proofs.Tryz
open Go.RowKit
set_option maxRecDepth 100000 in
set_option maxHeartbeats 12800000 in
theorem K9(w:World):
  Calls prog 53 #[.agg #[.string ⟨#[]⟩, .slice none 0 0, .slice none 0 0]] w fun e w'=>e= .returned (.bool true) /\ Below w.heap.size w w':=by
 go_enter func53,ntmps53;go_wp2_with fail
 go_returns;exact⟨rfl,by go_grown⟩
def K5:Frm:=⟨⟨#[48]⟩,0,fun _=>0,fun _=>⟨#[]⟩⟩
theorem Ka(w:World):TT w (.slice none K5.N 0) K5.N K5.d K5.f:=⟨none,0,rfl,Nat.le_refl _,Nat.zero_le _, .inl rfl⟩
def KW:Rqm:=⟨⟨#[]⟩,0,⟨⟨#[]⟩,0,fun _=>0,fun _=>⟨#[]⟩⟩,⟨#[]⟩,0,⟨#[]⟩,⟨#[]⟩⟩
theorem K4{P:Prb}{F:Frm}(h:iA P≠0):qE P F=iA P:=by unfold qE;rw[if_pos h]
theorem Kz{n:Nat}(h:gz n):n <= 65536:=by unfold gz at h;omega
set_option maxRecDepth 100000 in
set_option maxHeartbeats 12800000 in
theorem KX(P:Prb)(F:Frm)(A C T:Option Addr)(r cC cT:Nat)(gr:Bool)(v0 v1 v2:Value)(w:World)(V:PIn w (.slice A P.n r) (.slice C P.m cC) P)(hF:TT w (.slice T F.N cT) F.N F.d F.f)(X:qE P F≠0)(U:fF w):
  Calls prog 51 #[.agg #[.slice A P.n r, .slice C P.m cC], .agg #[.string F.c, .slice T F.N cT], .bool gr, .agg #[v0,v1,v2]] w fun e w'=>e= .returned (.int .i64 (qE P F:Nat)) /\ Below w.heap.size w w':=by
 have a1:=lH V;have Z:=lH hF;have a2:=lH X;have a0:=lH U;clear V hF X U;obtain⟨W,O,M,G,RV,h⟩:=eN3 w [.slice A P.n r, .slice C P.m cC] 58 [.string F.c, .slice T F.N cT] 25 [v0,v1,v2] 83;go_enter func51,ntmps51
 go_upto_region 1 with (fail)
 rw[<- O];clear O;obtain⟨a5,a7⟩:=aT2 M.o;have a9:=M.o.lt;obtain⟨a4,a6⟩:=aT2 G.o;have a8:=G.o.lt;go_wp2_with fail
 clear a5 a7 a9 a4 a6 a8;refine(Ii P F A C T r cC cT _ (a1.o.below h.o) (Z.o.below h.o) (a0.o.below h.o)).mono ?_;rintro e w1 ⟨rfl,R⟩;clear M G RV;replace h:=bT h R;clear R;obtain⟨E,t⟩:=eX (qE P F);rw[<- t];have h0:¬E=0:=by rw[t];exact a2.o
 have a3:¬((E:Nat):Int)=0:=oM
 have aa:(((E:Nat):Int) !=0)=true:=by simpa using a3
 have Y:=lH t;clear t h0;go_wp2_with fail
 go_returns;exact⟨by rw[<- Y.o];rfl,h.o⟩
set_option maxRecDepth 100000 in
set_option maxHeartbeats 12800000 in
theorem KY(P:Prb)(R:Rqm)(A C T G:Option Addr)(M cC cT cG:Nat)(w:World)(hp:PIn w (.slice A P.n M) (.slice C P.m cC) P)(hx:iA P≠0)(O:fF w):
  Calls prog 41 #[.agg #[.slice A P.n M, .slice C P.m cC], .agg #[.string R.s, .int .i64 R.op, .string R.F.c, .slice T R.F.N cT, .string R.fa, .slice G R.na cG, .string R.lo, .string R.hi]] w fun e w'=>e= .returned (.tuple #[zT, .int .i64 (iA P:Nat)]) /\ Below w.heap.size w w':=by
 have a1:=lH hp;have a2:=lH hx;have a0:=lH O;clear hp hx O;obtain⟨W,hW,RP,RQ,h,t⟩:=eN3 w [.slice A P.n M, .slice C P.m cC] 58 [.string R.s, .int .i64 R.op, .string R.F.c, .slice T R.F.N cT, .string R.fa, .slice G R.na cG, .string R.lo, .string R.hi] 54 [.bool false, .string ⟨#[]⟩, .slice none 0 0, .slice none 0 0, .string ⟨#[]⟩, .slice none 0 0, .slice none 0 0, .string ⟨#[]⟩, .string ⟨#[]⟩] 91;go_enter func41,ntmps41
 go_upto_region 1 with (fail)
 rw[<- hW];clear hW;obtain⟨a5,a6⟩:=aT2 RP.o;have a7:=RP.o.lt;go_wp2_with fail
 clear a5 a6 a7;refine(zR P A C M cC _ (a1.o.below t.o) (a0.o.below t.o)).mono ?_;rintro e w1 ⟨rfl,V⟩;replace h:=rW h V;replace t:=bT t V;clear V;obtain⟨E,U⟩:=eX (iA P);rw[<- U];have HE:=lH U;clear U;by_cases h0:E=0
 ·exact absurd (HE.o.symm.trans h0) a2.o
 ·have H1:=lH h0;clear h0;have a3:¬((E:Nat):Int)=0:=by have:=H1.o;omega
  have a8:(((E:Nat):Int) !=0)=true:=by simpa using a3
  have X:=aI 0 h;have f0:=h.o.free 0;have Y:=aI 1 h;have f1:=h.o.free 1;have Z:=aI 2 h;have f2:=h.o.free 2;have k3:=aI 3 h;have f3:=h.o.free 3;have k4:=aI 4 h;have f4:=h.o.free 4;have k5:=aI 5 h;have f5:=h.o.free 5;have k6:=aI 6 h;have f6:=h.o.free 6;have k7:=aI 7 h;have f7:=h.o.free 7;have k8:=aI 8 h;have f8:=h.o.free 8;have kl:=h.o.lt;go_wp2_with fail
  have O:=oG w1 (w.heap.size+1+1) (.bool false) (.string ⟨#[]⟩) (.slice none 0 0) (.slice none 0 0) (.string ⟨#[]⟩) (.slice none 0 0) (.slice none 0 0) (.string ⟨#[]⟩) (.string ⟨#[]⟩);have r:=h.o.oH (v0:= .bool false) (v1:= .string ⟨#[]⟩) (v2:= .slice none 0 0) (v3:= .slice none 0 0) (v4:= .string ⟨#[]⟩) (v5:= .slice none 0 0) (v6:= .slice none 0 0) (v7:= .string ⟨#[]⟩) (v8:= .string ⟨#[]⟩);have e5:=t.o.grown O t.o.size (by first | (simp;done) | (simp;omega));clear kl X f0 Y f1 Z f2 k3 f3 k4 f4 k5 f5 k6 f6 k7 f7 k8 f8;obtain⟨wE,a4⟩:=eX ((((((((((w1.setCell ⟨w.heap.size+1+1,0,none⟩ (.bool false)).setCell ⟨w.heap.size+1+1,1,none⟩ (.string ⟨#[]⟩)).setCell ⟨w.heap.size+1+1,2,none⟩ (.slice none 0 0)).setCell ⟨w.heap.size+1+1,3,none⟩ (.slice none 0 0)).setCell ⟨w.heap.size+1+1,4,none⟩ (.string ⟨#[]⟩)).setCell ⟨w.heap.size+1+1,5,none⟩ (.slice none 0 0)).setCell ⟨w.heap.size+1+1,6,none⟩ (.slice none 0 0)).setCell ⟨w.heap.size+1+1,7,none⟩ (.string ⟨#[]⟩)).setCell ⟨w.heap.size+1+1,8,none⟩ (.string ⟨#[]⟩)));rw[<- a4] at r e5 ⊢;have X:=r.at_ 0 rfl;have Y:=r.at_ 1 rfl;have Z:=r.at_ 2 rfl;have k3:=r.at_ 3 rfl;have k4:=r.at_ 4 rfl;have k5:=r.at_ 5 rfl;have k6:=r.at_ 6 rfl;have k7:=r.at_ 7 rfl;have k8:=r.at_ 8 rfl;refine bodyPost_ret (v:= .tuple #[.agg #[.bool false, .string ⟨#[]⟩, .slice none 0 0, .slice none 0 0, .string ⟨#[]⟩, .slice none 0 0, .slice none 0 0, .string ⟨#[]⟩, .string ⟨#[]⟩], .int .i64 (E:Nat)]) (by simp[results,results41,go_sem,X,Y,Z,k3,k4,k5,k6,k7,k8]) rfl ?_;exact⟨by rw[<- HE.o];rfl,e5⟩
set_option maxRecDepth 100000 in
set_option maxHeartbeats 12800000 in
theorem KZ(P:Prb)(A C:Option Addr)(cA cC:Nat)(w:World)(hp:PIn w (.slice A P.n cA) (.slice C P.m cC) P)(hg:fF w)(ht:Tab w):
  Calls prog 13 #[.agg #[.slice A P.n cA, .slice C P.m cC]] w fun e w'=>e= .returned (.bool true) /\ Below w.heap.size w w':=by
 have a7:=lH hp;have a6:=lH hg;have aq:=lH ht;clear hp hg ht;obtain⟨W,hW,M,G⟩:=eN1 w [.slice A P.n cA, .slice C P.m cC] 58;go_enter func13,ntmps13
 go_upto_region 1 with (fail)
 rw[<- hW];clear hW;go_wp2_with fail
 refine(uX _ (a6.o.below G.o) (aq.o.below G.o)).mono ?_;rintro e w1 ⟨rfl,r⟩;replace M:=rW M r;replace G:=bT G r;clear r;by_cases hn:(66:Int)<(P.n:Nat)
 ·have aK:decide ((66:Int)<(P.n:Nat))=true:=decide_eq_true hn;obtain⟨X,V⟩:=aT2 M.o;have U:=M.o.lt;go_wp2_with fail
  clear X V U;refine(uX _ (a6.o.below G.o) (aq.o.below G.o)).mono ?_;rintro e w2 ⟨rfl,r⟩;replace G:=bT G r;clear r;go_wp2_with fail
  go_returns;exact⟨rfl,G.o⟩
 have aK:decide ((66:Int)<(P.n:Nat))=false:=decide_eq_false hn;by_cases hm:(66:Int)<(P.m:Nat)
 ·have aJ:decide ((66:Int)<(P.m:Nat))=true:=decide_eq_true hm;obtain⟨X,V⟩:=aT2 M.o;have U:=M.o.lt;go_wp2_with fail
  clear X V U;refine(uX _ (a6.o.below G.o) (aq.o.below G.o)).mono ?_;rintro e w2 ⟨rfl,r⟩;replace G:=bT G r;clear r;go_wp2_with fail
  go_returns;exact⟨rfl,G.o⟩
 obtain⟨X,V⟩:=aT2 M.o;have U:=M.o.lt;have aJ:decide ((66:Int)<(P.m:Nat))=false:=decide_eq_false hm;have H6:Hid (P.n <= 66 /\ P.m <= 66):=lH oM;go_wp2_with fail
 clear hn aK hm aJ X V U
 go_loopw [3] (fun iv wr=>∃ (k:Nat),k <= P.n /\ iv= .int .i64 k /\ Hid (∀j,j<k -> (P.s j).size <= 80) /\ Hid (Row wr w.heap.size 58 [.slice A P.n cA, .slice C P.m cC]) /\ Hid (Below w.heap.size w wr)) (fun iv _=>P.n-(intOf iv).toNat)
 case atStart=>exact⟨0,Nat.zero_le _,rfl,lH (fun j hj=>absurd hj oM),M,G⟩
 case round=>
  clear M G;obtain⟨k,hk,rfl,HF,M,G⟩:=hrel;have X:=aI 0 M;have U:=M.o.lt;by_cases aU:((k:Nat):Int)<(P.n:Nat)
  ·have av:k<P.n:=oM
   have aB:=lH av;obtain⟨gA,oA,rfl,ar⟩:=a7.o.1.at_ oM;have ay:=cell_below G.o (ar k av).1;have aL:=eF ay;clear ar;by_cases hs:(80:Int)<((P.s k).size:Nat)
   ·have ax:decide ((80:Int)<((P.s k).size:Nat))=true:=decide_eq_true hs;go_wp2_with fail
    go_returns;exact⟨rfl,G.o⟩
   ·have aC:Hid ((P.s k).size <= 80):=lH oM;have ax:decide ((80:Int)<((P.s k).size:Nat))=false:=decide_eq_false hs;have h6:=H6.o;go_wp2_with fail
    go_roundw
    case rel=>exact⟨k+1,aB.o,by simp,lH (fun j hj=>by by_cases e:j=k;rw[e];exact aC.o;exact HF.o j oM),M,G⟩
    case measure=>exact mZ
  ·have au:k=P.n:=oM
   rw[au] at HF;have aO:=HF;clear au HF;have V:=aI 1 M;have U:=M.o.lt;go_wp2_with fail
   clear X U V;obtain⟨wq,rfl⟩:=eX (wr)
   go_loopw [4] (fun iv wr=>∃ (k:Nat),k <= P.m /\ iv= .int .i64 k /\ Hid (∀j,j<k -> (P.t j).size <= 80 /\ Am (P.F j)) /\ Hid (Row wr w.heap.size 58 [.slice A P.n cA, .slice C P.m cC]) /\ Hid (Below w.heap.size w wr)) (fun iv _=>P.m-(intOf iv).toNat)
   case atStart=>exact⟨0,Nat.zero_le _,rfl,lH (fun j hj=>absurd hj oM),M,G⟩
   case round=>
    clear M G;obtain⟨k,hk,rfl,HF,M,G⟩:=hrel;have V:=aI 1 M;have U:=M.o.lt;by_cases aU:((k:Nat):Int)<(P.m:Nat)
    ·have av:k<P.m:=oM
     have aB:=lH av;obtain⟨gA,oA,rfl,ar⟩:=a7.o.2.at_ oM;obtain⟨uv,aE,aF,aG,aD⟩:=ar k av;obtain⟨T,cT,rfl,_,_⟩:=aD.shape;have aP:=lH aD;have ay:=cell_below G.o aE;have aV:=cell_below G.o aF;have aW:=cell_below G.o aG;have aL:=eF ay;clear ar aE aF aG aD;by_cases hs:(80:Int)<((P.t k).size:Nat)
     ·have ax:decide ((80:Int)<((P.t k).size:Nat))=true:=decide_eq_true hs;go_wp2_with fail
      go_returns;exact⟨rfl,G.o⟩
     ·have aC:Hid ((P.t k).size <= 80):=lH oM;have ax:decide ((80:Int)<((P.t k).size:Nat))=false:=decide_eq_false hs;go_wp2_with fail
      refine(II (P.F k) T cT _ (aP.o.below G.o)).mono ?_;rintro e w4 ⟨aw,r⟩;clear hs ax ay aV aW aL V U;replace M:=rW M r;replace G:=bT G r;clear r
      rcases aw with ⟨aw,rfl⟩ | ⟨_,rfl⟩
      ·have aN:=lH aw;have h6:=H6.o;clear aw;go_wp2_with fail
       go_roundw
       case rel=>exact⟨k+1,aB.o,by simp,lH (fun j hj=>by by_cases e:j=k;rw[e];exact⟨aC.o,aN.o⟩;exact HF.o j oM),M,G⟩
       case measure=>exact mZ
      ·go_wp2_with fail
       go_returns;exact⟨rfl,G.o⟩
    ·have au:k=P.m:=oM
     rw[au] at HF;have aA:=HF;clear au HF;have X:=aI 0 M;have U:=M.o.lt;go_wp2_with fail
     clear V U X;refine(KN P A C cA cC _ (a7.o.below G.o) ⟨fun i hi=>Nat.le_trans (aO.o i hi) dC,fun i hi=>Nat.le_trans (aA.o i hi).1 dC⟩ (fun i hi=>⟨Kz (aA.o i hi).2.2.1,fun j hj=>Kz ((aA.o i hi).2.2.2 j hj)⟩) (a6.o.below G.o)).mono ?_;rintro e w2 ⟨rfl,r⟩;replace M:=rW M r;replace G:=bT G r;clear r;obtain⟨E,hE⟩:=eX (iA P);rw[<- hE];have HE:=lH hE;clear hE;obtain⟨X,V⟩:=aT2 M.o;have U:=M.o.lt;go_wp2_with fail
     clear X V U;refine(zR P A C cA cC _ (a7.o.below G.o) (a6.o.below G.o)).mono ?_;rintro e w3 ⟨hr,r⟩;replace M:=rW M r;replace G:=bT G r;clear r;subst hr;rw[<- HE.o];by_cases h0:E=0
     ·subst h0;clear HE;go_wp2_with fail
      go_returns;exact⟨rfl,G.o⟩
     ·have H1:=lH h0;have a0:Hid (iA P≠0):=lH (by rw[<- HE.o];exact h0);clear h0;have aH:¬((E:Nat):Int)=0:=by have:=H1.o;omega
      have aT:(((E:Nat):Int)==0)=false:=by simpa using aH
      obtain⟨w4,a1⟩:=eX (w3.alloc (.cells #[.string ⟨#[48]⟩, .slice none 0 0] 25));obtain⟨gF,a5⟩:=eX (w3.heap.size);have Z:Below w3.heap.size w3 w4:=by rw[a1];exact eD _ _
      have R:Hid (Row w4 gF 25 [.string ⟨#[48]⟩, .slice none 0 0]):=lH (by rw[a1,a5];exact eO _ _);replace M:=rW M Z;replace G:=bT G Z;clear Z
      go_upto_region 19 with (fail)
      rw[<- a1, <- a5];clear a1 a5 aH aT;obtain⟨X,V⟩:=aT2 M.o;have U:=M.o.lt;go_wp2_with fail
      clear X V U;refine(Ja P A C cA cC 1 _ 0 (fun _=>⟨#[]⟩) _ (a7.o.below G.o) ⟨none,0,rfl,Nat.le_refl _,Nat.zero_le _, .inl rfl⟩ dC (fun j hj=>absurd hj (Nat.not_lt_zero j)) (fun h=>absurd h a0.o) (fun h=>absurd h a0.o) dC (a6.o.below G.o)).mono ?_;rintro e w5 ⟨hr,r⟩;replace M:=rW M r;replace R:=rW R r;replace G:=bT G r;clear r
      rcases hr with ⟨_,rfl⟩ | ⟨h0,_⟩
      rotate_left
      ·exact absurd h0 a0.o
      rw[<- HE.o];obtain⟨X,V⟩:=aT2 M.o;have U:=M.o.lt;obtain⟨a2,a3⟩:=aT2 R.o;have a4:=R.o.lt;go_wp2_with fail
      clear X V U a2 a3 a4;refine(Ij P K5 A C none cA cC 0 1 1 _ (a7.o.below G.o) (Ka _) (fun h=>absurd h (by rw[K4 a0.o];exact a0.o)) (aq.o.below G.o) (a6.o.below G.o)).mono ?_;rintro e w6 ⟨hr,r⟩;replace M:=rW M r;replace R:=rW R r;replace G:=bT G r;clear r
      rcases hr with ⟨_,rfl⟩ | ⟨h0,_⟩
      rotate_left
      ·exact absurd h0 (by rw[K4 a0.o];exact a0.o)
      rw[K4 a0.o, <- HE.o];obtain⟨w7,a1⟩:=eX (w6.alloc (.cells #[.string ⟨#[]⟩, .slice none 0 0, .slice none 0 0] 83));obtain⟨aQ,a5⟩:=eX (w6.heap.size);have Z:Below w6.heap.size w6 w7:=by rw[a1];exact eD _ _
      have RB:Hid (Row w7 aQ 83 [.string ⟨#[]⟩, .slice none 0 0, .slice none 0 0]):=lH (by rw[a1,a5];exact eO _ _);replace M:=rW M Z;replace R:=rW R Z;replace G:=bT G Z;clear Z
      go_upto_region 21 with (fail)
      rw[<- a1, <- a5];clear a1 a5;obtain⟨X,V⟩:=aT2 M.o;have U:=M.o.lt;obtain⟨a2,a3⟩:=aT2 R.o;have a4:=R.o.lt;go_wp2_with fail
      clear X V U a2 a3 a4;refine(Ik P K5 A C none cA cC 0 1 1 _ (a7.o.below G.o) (Ka _) (fun h=>absurd h (by rw[K4 a0.o];exact a0.o)) (aq.o.below G.o) (a6.o.below G.o)).mono ?_;rintro e w8 ⟨hr,r⟩;replace M:=rW M r;replace R:=rW R r;replace RB:=rW RB r;replace G:=bT G r;clear r
      rcases hr with ⟨_,rfl⟩ | ⟨h0,_⟩
      rotate_left
      ·exact absurd h0 (by rw[K4 a0.o];exact a0.o)
      rw[K4 a0.o, <- HE.o];obtain⟨w9,a1⟩:=eX (w8.alloc (.cells #[.string ⟨#[]⟩, .slice none 0 0, .slice none 0 0] 83));obtain⟨aR,a5⟩:=eX (w8.heap.size);have Z:Below w8.heap.size w8 w9:=by rw[a1];exact eD _ _
      have Y:Hid (Row w9 aR 83 [.string ⟨#[]⟩, .slice none 0 0, .slice none 0 0]):=lH (by rw[a1,a5];exact eO _ _);replace M:=rW M Z;replace R:=rW R Z;replace RB:=rW RB Z;replace G:=bT G Z;clear Z
      go_upto_region 22 with (fail)
      rw[<- a1, <- a5];clear a1 a5;obtain⟨X,V⟩:=aT2 M.o;have U:=M.o.lt;go_wp2_with fail
      clear X V U;refine(KY P KW A C none none cA cC 0 0 _ (a7.o.below G.o) a0.o (a6.o.below G.o)).mono ?_;rintro e az ⟨hr,r⟩;replace M:=rW M r;replace R:=rW R r;replace RB:=rW RB r;replace Y:=rW Y r;replace G:=bT G r;clear r;subst hr;rw[<- HE.o];unfold zT;obtain⟨aM,a1⟩:=eX (az.alloc (.cells #[.bool false, .string ⟨#[]⟩, .slice none 0 0, .slice none 0 0, .string ⟨#[]⟩, .slice none 0 0, .slice none 0 0, .string ⟨#[]⟩, .string ⟨#[]⟩] 91));obtain⟨aS,a5⟩:=eX (az.heap.size);have Z:Below az.heap.size az aM:=by rw[a1];exact eD _ _
      have O:Hid (Row aM aS 91 [.bool false, .string ⟨#[]⟩, .slice none 0 0, .slice none 0 0, .string ⟨#[]⟩, .slice none 0 0, .slice none 0 0, .string ⟨#[]⟩, .string ⟨#[]⟩]):=lH (by rw[a1,a5];exact eO _ _);replace M:=rW M Z;replace R:=rW R Z;replace RB:=rW RB Z;replace Y:=rW Y Z;replace G:=bT G Z;clear Z
      go_upto_region 23 with (fail)
      rw[<- a1, <- a5];clear a1 a5;obtain⟨X,V⟩:=aT2 M.o;have U:=M.o.lt;obtain⟨a2,a3⟩:=aT2 R.o;have a4:=R.o.lt;go_wp2_with fail
      clear X V U a2 a3 a4;refine(KV P K5 A C none cA cC 0 true _ (a7.o.below G.o) (Ka _) (aq.o.below G.o) (a6.o.below G.o)).mono ?_;rintro e aY ⟨hr,r⟩;replace M:=rW M r;replace R:=rW R r;replace RB:=rW RB r;replace Y:=rW Y r;replace O:=rW O r;replace G:=bT G r;clear r
      rcases hr with ⟨_,rfl⟩ | ⟨h0,_⟩
      rotate_left
      ·exact absurd h0 (by rw[K4 a0.o];exact a0.o)
      rw[K4 a0.o, <- HE.o]
      go_upto_region 24 with (fail)
      obtain⟨X,V⟩:=aT2 M.o;have U:=M.o.lt;obtain⟨a2,a3⟩:=aT2 R.o;have a4:=R.o.lt;obtain⟨a8,ab,ae⟩:=aT3 RB.o;have an:=RB.o.lt;obtain⟨a9,ac,af⟩:=aT3 Y.o;have ao:=Y.o.lt;have aa:=aI 0 O;have ad:=aI 1 O;have ag:=aI 2 O;have ah:=aI 3 O;have ai:=aI 4 O;have aj:=aI 5 O;have ak:=aI 6 O;have al:=aI 7 O;have am:=aI 8 O;have ap:=O.o.lt;go_wp2_with fail
      clear X V U a2 a3 a4 a8 ab ae an a9 ac af ao aa ad ag ah ai aj ak al am ap;refine(K9 _).mono ?_;rintro e aZ ⟨hr,r⟩;replace M:=rW M r;replace R:=rW R r;replace RB:=rW RB r;replace Y:=rW Y r;replace O:=rW O r;replace G:=bT G r;clear r;subst hr;obtain⟨X,V⟩:=aT2 M.o;have U:=M.o.lt;obtain⟨a2,a3⟩:=aT2 R.o;have a4:=R.o.lt;obtain⟨a8,ab,ae⟩:=aT3 RB.o;have an:=RB.o.lt;obtain⟨a9,ac,af⟩:=aT3 Y.o;have ao:=Y.o.lt;have aa:=aI 0 O;have ad:=aI 1 O;have ag:=aI 2 O;have ah:=aI 3 O;have ai:=aI 4 O;have aj:=aI 5 O;have ak:=aI 6 O;have al:=aI 7 O;have am:=aI 8 O;have ap:=O.o.lt;go_wp2_with fail
      clear X V U a2 a3 a4 a8 ab ae an a9 ac af ao aa ad ag ah ai aj ak al am ap;refine(K9 _).mono ?_;rintro e b0 ⟨hr,r⟩;replace M:=rW M r;replace R:=rW R r;replace RB:=rW RB r;replace Y:=rW Y r;replace O:=rW O r;replace G:=bT G r;clear r;subst hr;obtain⟨X,V⟩:=aT2 M.o;have U:=M.o.lt;obtain⟨a2,a3⟩:=aT2 R.o;have a4:=R.o.lt;obtain⟨a8,ab,ae⟩:=aT3 RB.o;have an:=RB.o.lt;obtain⟨a9,ac,af⟩:=aT3 Y.o;have ao:=Y.o.lt;have aa:=aI 0 O;have ad:=aI 1 O;have ag:=aI 2 O;have ah:=aI 3 O;have ai:=aI 4 O;have aj:=aI 5 O;have ak:=aI 6 O;have al:=aI 7 O;have am:=aI 8 O;have ap:=O.o.lt;go_wp2_with fail
      clear X V U a2 a3 a4 a8 ab ae an a9 ac af ao aa ad ag ah ai aj ak al am ap;refine(KX P K5 A C none cA cC 0 true _ _ _ _ (a7.o.below G.o) (Ka _) (by rw[K4 a0.o];exact a0.o) (a6.o.below G.o)).mono ?_;rintro e b1 ⟨hr,r⟩;replace M:=rW M r;replace R:=rW R r;replace RB:=rW RB r;replace Y:=rW Y r;replace O:=rW O r;replace G:=bT G r;clear r;subst hr;rw[K4 a0.o, <- HE.o];obtain⟨X,V⟩:=aT2 M.o;have U:=M.o.lt;obtain⟨a2,a3⟩:=aT2 R.o;have a4:=R.o.lt;obtain⟨a8,ab,ae⟩:=aT3 RB.o;have an:=RB.o.lt;obtain⟨a9,ac,af⟩:=aT3 Y.o;have ao:=Y.o.lt;have aa:=aI 0 O;have ad:=aI 1 O;have ag:=aI 2 O;have ah:=aI 3 O;have ai:=aI 4 O;have aj:=aI 5 O;have ak:=aI 6 O;have al:=aI 7 O;have am:=aI 8 O;have ap:=O.o.lt;go_wp2_with fail
      clear X V U a2 a3 a4 a8 ab ae an a9 ac af ao aa ad ag ah ai aj ak al am ap;refine(K9 _).mono ?_;rintro e b2 ⟨hr,r⟩;replace M:=rW M r;replace R:=rW R r;replace RB:=rW RB r;replace Y:=rW Y r;replace O:=rW O r;replace G:=bT G r;clear r;subst hr;obtain⟨X,V⟩:=aT2 M.o;have U:=M.o.lt;obtain⟨a2,a3⟩:=aT2 R.o;have a4:=R.o.lt;obtain⟨a8,ab,ae⟩:=aT3 RB.o;have an:=RB.o.lt;obtain⟨a9,ac,af⟩:=aT3 Y.o;have ao:=Y.o.lt;have aa:=aI 0 O;have ad:=aI 1 O;have ag:=aI 2 O;have ah:=aI 3 O;have ai:=aI 4 O;have aj:=aI 5 O;have ak:=aI 6 O;have al:=aI 7 O;have am:=aI 8 O;have ap:=O.o.lt;go_wp2_with fail
      clear X V U a2 a3 a4 a8 ab ae an a9 ac af ao aa ad ag ah ai aj ak al am ap;refine(K9 _).mono ?_;rintro e b3 ⟨hr,r⟩;replace M:=rW M r;replace R:=rW R r;replace RB:=rW RB r;replace Y:=rW Y r;replace O:=rW O r;replace G:=bT G r;clear r;subst hr;obtain⟨X,V⟩:=aT2 M.o;have U:=M.o.lt;obtain⟨a2,a3⟩:=aT2 R.o;have a4:=R.o.lt;obtain⟨a8,ab,ae⟩:=aT3 RB.o;have an:=RB.o.lt;obtain⟨a9,ac,af⟩:=aT3 Y.o;have ao:=Y.o.lt;have aa:=aI 0 O;have ad:=aI 1 O;have ag:=aI 2 O;have ah:=aI 3 O;have ai:=aI 4 O;have aj:=aI 5 O;have ak:=aI 6 O;have al:=aI 7 O;have am:=aI 8 O;have ap:=O.o.lt;have aX:((⟨#[]⟩:ByteArray)++ (⟨#[]⟩:ByteArray))=⟨#[]⟩:=rfl;go_wp2_with fail
      go_returns;exact⟨rfl,G.o⟩
end Go.Proofs.YtokagbahdkfagaaGreatDoor
