/- Parts of this proof: RefP. -/
import Derived.Test.YtdefghfjhgmpfaaGreatDoorMAU
import Derived.Test.YtdefghfjhgmpfaaGreatDoorMAY
namespace Go.Proofs.YtdefghfjhgmpfaaGreatDoor
open Go.Proofs.Tryz
open Go.RowKit
open Lp (RL upd eu)
set_option maxRecDepth 100000 in
set_option maxHeartbeats 6400000 in
theorem ry(AO AR:Option Addr)(n m cO cR:Nat)(k:Nat -> Nat)(o:Nat -> ByteArray)(t:Nat -> Nat -> ByteArray)(b:Nat -> ByteArray)(w:World)(ho:TS w (.slice AO n cO) n o)(hr:fZ w (.slice AR m cR) m k t b)(hn:n <= 1000000000)(hm:m <= 1000000000)
  (aA:∀j,j<n -> (o j).size <= 65536) (aB:∀i,i<m -> ∀j,j<k i -> (t i j).size <= 65536) (az:∀i,i<m -> (b i).size <= 65536):
  Calls prog 18 #[.agg #[.slice AO n cO, .slice AR m cR]] w fun e w'=>e= .returned (.int .i64 (fD n m k o t b:Nat)) /\ Below w.heap.size w w':=by
 have HO:=lH ho;have HR:=lH hr;have aD:=lH aA;have ap:=lH (And.intro aB az);have ao:=lH (And.intro hn hm);have aM:((n:Nat):Int) <= 1000000000:=oM
 have aL:((m:Nat):Int) <= 1000000000:=oM
 clear ho hr aA aB az;obtain⟨r,hr⟩:=eX (fD n m k o t b);rw[<- hr];have a1:=lH hr;clear hr hn hm;obtain⟨W,hW,G,E⟩:=eN1 w [.slice AO n cO, .slice AR m cR] 25;go_enter func18,ntmps18;obtain⟨Y,Z⟩:=aT2 G.o;have pl:=G.o.lt;rw[hW] at Y Z pl;by_cases a4:96<n
 ·have aj:(96:Int)<((n:Nat):Int):=oM
  have M:r=6:=by rw[a1.o];unfold fD;rw[if_pos (.inl a4)]
  clear a4;subst M;go_wp2_with fail
  rw[<- hW];clear hW Y Z pl;go_returns;exact⟨rfl,E.o⟩
 ·by_cases ab:256<m
  ·have aj:((n:Nat):Int) <= 96:=oM
   have av:decide ((96:Int)<((n:Nat):Int))=false:=decide_eq_false oM;have aw:decide (96<n)=false:=decide_eq_false a4;have ax:(256:Int)<((m:Nat):Int):=oM
   have M:r=6:=by rw[a1.o];unfold fD;rw[if_pos (.inr ab)]
   clear a4 ab;subst M;go_wp2_with fail
   rw[<- hW];clear hW Y Z pl;go_returns;exact⟨rfl,E.o⟩
  ·have aj:((n:Nat):Int) <= 96:=oM
   have av:decide ((96:Int)<((n:Nat):Int))=false:=decide_eq_false oM;have aw:decide (96<n)=false:=decide_eq_false a4;have aF:decide ((256:Int)<((m:Nat):Int))=false:=decide_eq_false oM;have aG:decide (256<m)=false:=decide_eq_false ab;have ax:((m:Nat):Int) <= 256:=oM
   have HL:Hid (¬(96<n \/ 256<m)):=lH oM;clear a4 ab;go_wp2_with fail
   rw[<- hW];clear hW Y Z pl aj av aw ax aF aG;have ag:=G;have ad:=E;clear G E
   go_loopw [3] (fun iv wr=>∃q:Nat,((q:Nat):Int) <= ((m:Nat):Int) /\ iv= .int .i64 q /\ Hid (∀i,i<q -> k i=n) /\ Below W.heap.size W wr) (fun iv _=>m-(intOf iv).toNat)
   case atStart=>exact⟨0,by omega,rfl,lH (fun i R=>absurd R oM),Below.refl _ _⟩
   case round=>
    obtain⟨q,hq,rfl,hz,a0⟩:=hrel;have HZ:=lH hz.o;have G:=lH (ag.o.below a0 ag.o.lt);have E:=lH (ad.o.trans (a0.mono ad.o.size));have T:=lH a0;clear hz a0;obtain⟨Y,Z⟩:=aT2 G.o;have pl:=G.o.lt;by_cases ay:((q:Nat):Int)<((m:Nat):Int)
    ·have U:q<m:=oM
     obtain⟨gR,oR,rfl,a8⟩:=HR.o.at_ oM;obtain⟨uv,a6,ac,a3⟩:=a8 q U;obtain⟨X,x,rfl,_,_⟩:=a3.shape;have c1:=cell_below E.o a6;have cl:=eG c1;clear a8 a6 ac a3;by_cases a9:k q=n
     ·have aC:=lH a9;rw[a9] at c1;clear a9;have aH:(n !=n)=false:=by simp
      go_wp2_with fail
      go_region
      go_wp2_with fail
      go_roundw
      case rel=>exact⟨q+1,by omega,by go_num,lH (fun i R=>by by_cases e:i=q;subst e;exact aC.o;exact HZ.o i oM),T.o.drew⟩
      case measure=>exact mZ
     ·have M:r=13:=by rw[a1.o];unfold fD;rw[if_neg HL.o,if_pos (fun h=>a9 (h q U))]
      subst M;have aJ:((k q:Nat):Int)≠((n:Nat):Int):=oM
      have aH:(((k q:Nat):Int) != ((n:Nat):Int))=true:=by simpa using aJ
      have aK:(k q !=n)=true:=by simpa using a9
      go_wp2_with fail
      go_region
      go_wp2_with fail
      go_returns;exact⟨rfl,E.o.drew⟩
    ·obtain rfl:m=q:=oM
     clear ay T;go_wp2_with fail
     clear Y Z pl;refine(qX _ n o _ (HO.o.below E.o) ao.o.1 aD.o).mono ?_;rintro e w1 ⟨rfl,ah⟩;replace G:=rW G ah;replace E:=bT E ah;clear ah;obtain⟨F,O⟩:=eX (fo n (fun j=>sE (o j)));rw[<- O];have ae:=lH O;clear O;by_cases h0:F=0
     ·have af:Hid (fo n (fun j=>sE (o j))=0):=lH (by rw[<- ae.o];exact h0);subst h0;go_wp2_with fail
      have aq:=G;have ak:=E;clear G E ag ad
      go_loopw [5] (fun iv wr=>∃q:Nat,((q:Nat):Int) <= ((m:Nat):Int) /\ iv= .int .i64 q /\ Hid (∀i,i<q -> iw n (t i) (b i)=0) /\ Below w1.heap.size w1 wr) (fun iv _=>m-(intOf iv).toNat)
      case atStart=>exact⟨0,by omega,rfl,lH (fun i R=>absurd R oM),Below.refl _ _⟩
      case round=>
       obtain⟨q,hq,rfl,hz,a0⟩:=hrel;have aa:=lH hz.o;have G:=lH (aq.o.below a0 aq.o.lt);have E:=lH (ak.o.trans (a0.mono ak.o.size));have T:=lH a0;clear hz a0;obtain⟨Y,Z⟩:=aT2 G.o;have pl:=G.o.lt;by_cases ay:((q:Nat):Int)<((m:Nat):Int)
       ·have U:q<m:=oM
        obtain⟨gR,oR,rfl,a8⟩:=HR.o.at_ oM;obtain⟨uv,a6,ac,a3⟩:=a8 q U;rw[HZ.o q U] at a3;obtain⟨X,x,rfl,_,_⟩:=a3.shape;have aE:=lH (a3.below E.o);have C1:=lH (cell_below E.o a6);have C2:=lH (cell_below E.o ac);clear a8 a6 ac a3;have c1:=C1.o;have c2:=C2.o;have cl:=eG c1;go_wp2_with fail
        clear c1 c2 cl Y Z pl;refine(qX _ n (t q) _ aE.o ao.o.1 (fun j hj=>ap.o.1 q U j (by rw[HZ.o q U];exact hj))).mono ?_;rintro e w2 ⟨rfl,a5⟩;replace C1:=lH (cell_below a5 C1.o);replace C2:=lH (cell_below a5 C2.o);replace T:=lH (T.o.trans (a5.mono T.o.size));replace G:=rW G a5;replace E:=bT E a5;clear a5;obtain⟨F,O⟩:=eX (fo n (fun j=>sE (t q j)));rw[<- O];have am:=lH O;clear O;by_cases h0:F=0
        ·have an:Hid (fo n (fun j=>sE (t q j))=0):=lH (by rw[<- am.o];exact h0);subst h0;obtain⟨Y,Z⟩:=aT2 G.o;have pl:=G.o.lt;have c1:=C1.o;have c2:=C2.o;have cl:=eG c1;go_wp2_with fail
         clear c1 c2 cl Y Z pl;refine(vM (b q) _ (ap.o.2 q U)).mono ?_;rintro e w3 ⟨rfl,ai⟩;replace T:=lH (T.o.trans (ai.mono T.o.size));replace E:=bT E ai;clear ai;obtain⟨F,O⟩:=eX (sE (b q));rw[<- O];have al:=lH O;clear O;by_cases h0:F=0
         ·have a2:Hid (iw n (t q) (b q)=0):=lH (by unfold iw;rw[if_neg (by rw[an.o];simp), <- al.o];exact h0);subst h0;go_wp2_with fail
          go_roundw
          case rel=>exact⟨q+1,by omega,by go_num,lH (fun i R=>by by_cases e:i=q;subst e;exact a2.o;exact aa.o i oM),T.o⟩
          case measure=>exact mZ
         ·have a2:Hid (iw n (t q) (b q)=F):=lH (by unfold iw;rw[if_neg (by rw[an.o];simp)];exact al.o.symm);have a7:((F:Nat):Int)≠0:=oM
          have ar:(((F:Nat):Int) !=0)=true:=by simpa using a7
          have au:(F !=0)=true:=by simpa using h0
          have M:r=F:=by rw[a1.o];unfold fD;rw[if_neg HL.o,if_neg (fun h=>h HZ.o),if_neg (by rw[af.o];simp),pI U (fun i R=>aa.o i R) (by show iw n (t q) (b q)≠0;rw[a2.o];exact h0)];exact a2.o
          clear h0;subst M;go_wp2_with fail
          go_returns;exact⟨rfl,E.o⟩
        ·have a2:Hid (iw n (t q) (b q)=F):=lH (by unfold iw;rw[<- am.o,if_pos h0]);have a7:((F:Nat):Int)≠0:=oM
         have ar:(((F:Nat):Int) !=0)=true:=by simpa using a7
         have au:(F !=0)=true:=by simpa using h0
         have M:r=F:=by rw[a1.o];unfold fD;rw[if_neg HL.o,if_neg (fun h=>h HZ.o),if_neg (by rw[af.o];simp),pI U (fun i R=>aa.o i R) (by show iw n (t q) (b q)≠0;rw[a2.o];exact h0)];exact a2.o
         clear h0;subst M;go_wp2_with fail
         go_returns;exact⟨rfl,E.o⟩
       ·obtain rfl:m=q:=oM
        have M:r=0:=by rw[a1.o];unfold fD;rw[if_neg HL.o,if_neg (fun h=>h HZ.o),if_neg (by rw[af.o];simp)];exact kF.2 (fun i R=>aa.o i R)
        subst M;go_wp2_with fail
        go_returns;exact⟨rfl,E.o⟩
     ·have a7:((F:Nat):Int)≠0:=oM
      have ar:(((F:Nat):Int) !=0)=true:=by simpa using a7
      have au:(F !=0)=true:=by simpa using h0
      have M:r=F:=by rw[a1.o,ae.o];unfold fD;rw[if_neg HL.o,if_neg (fun h=>h HZ.o),if_pos (by rw[<- ae.o];exact h0)]
      clear h0;subst M;go_wp2_with fail
      go_returns;exact⟨rfl,E.o⟩
end Go.Proofs.YtdefghfjhgmpfaaGreatDoor
