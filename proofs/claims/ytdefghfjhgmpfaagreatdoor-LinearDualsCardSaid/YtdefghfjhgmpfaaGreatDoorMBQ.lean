/- Parts of this proof: RefP. -/
import Derived.Test.YtdefghfjhgmpfaaGreatDoorMAU
import Derived.Test.YtdefghfjhgmpfaaGreatDoorMAY
namespace Go.Proofs.YtdefghfjhgmpfaaGreatDoor
open Go.Proofs.Tryz
open Go.RowKit
open Lp (RL upd eu)
set_option maxRecDepth 100000 in
set_option maxHeartbeats 6400000 in
theorem ry(AO AR:Option Addr)(n m cO cR:Nat)(k:Nat -> Nat)(o:Nat -> ByteArray)(t:Nat -> Nat -> ByteArray)(b:Nat -> ByteArray)(w:World)(ho:TS w (.slice AO n cO) n o)(hr:fZ w (.slice AR m cR) m k t b)(hn:n <= 1000000000)(hm:m <= 1000000000)
  (az:∀j,j<n -> (o j).size <= 65536) (aA:∀i,i<m -> ∀j,j<k i -> (t i j).size <= 65536) (ay:∀i,i<m -> (b i).size <= 65536):
  Calls prog 18 #[.agg #[.slice AO n cO, .slice AR m cR]] w fun e w'=>e= .returned (.int .i64 (fD n m k o t b:Nat)) /\ Below w.heap.size w w':=by
 have HO:=lH ho;have HR:=lH hr;have aC:=lH az;have ao:=lH (And.intro aA ay);have an:=lH (And.intro hn hm);have aL:((n:Nat):Int) <= 1000000000:=oM
 have aK:((m:Nat):Int) <= 1000000000:=oM
 clear ho hr az aA ay;obtain⟨r,hr⟩:=eX (fD n m k o t b);rw[<- hr];have a0:=lH hr;clear hr hn hm;obtain⟨W,hW,F,C⟩:=eN1 w [.slice AO n cO, .slice AR m cR] 25;go_enter func18,ntmps18;obtain⟨U,V⟩:=aT2 F.o;have Y:=F.o.lt;rw[hW] at U V Y;by_cases a3:96<n
 ·have ai:(96:Int)<((n:Nat):Int):=oM
  have G:r=6:=by rw[a0.o];unfold fD;rw[if_pos (.inl a3)]
  clear a3;subst G;go_wp2_with fail
  rw[<- hW];clear hW U V Y;go_returns;exact⟨rfl,C.o⟩
 ·by_cases aa:256<m
  ·have ai:((n:Nat):Int) <= 96:=oM
   have au:decide ((96:Int)<((n:Nat):Int))=false:=decide_eq_false oM;have av:decide (96<n)=false:=decide_eq_false a3;have aw:(256:Int)<((m:Nat):Int):=oM
   have G:r=6:=by rw[a0.o];unfold fD;rw[if_pos (.inr aa)]
   clear a3 aa;subst G;go_wp2_with fail
   rw[<- hW];clear hW U V Y;go_returns;exact⟨rfl,C.o⟩
  ·have ai:((n:Nat):Int) <= 96:=oM
   have au:decide ((96:Int)<((n:Nat):Int))=false:=decide_eq_false oM;have av:decide (96<n)=false:=decide_eq_false a3;have aE:decide ((256:Int)<((m:Nat):Int))=false:=decide_eq_false oM;have aF:decide (256<m)=false:=decide_eq_false aa;have aw:((m:Nat):Int) <= 256:=oM
   have HL:Hid (¬(96<n \/ 256<m)):=lH oM;clear a3 aa;go_wp2_with fail
   rw[<- hW];clear hW U V Y ai au av aw aE aF;have af:=F;have ac:=C;clear F C
   go_loopw [3] (fun iv wr=>∃q:Nat,((q:Nat):Int) <= ((m:Nat):Int) /\ iv= .int .i64 q /\ Hid (∀i,i<q -> k i=n) /\ Below W.heap.size W wr) (fun iv _=>m-(intOf iv).toNat)
   case atStart=>exact⟨0,by omega,rfl,lH (fun i O=>absurd O oM),Below.refl _ _⟩
   case round=>
    obtain⟨q,hq,rfl,hz,Z⟩:=hrel;have HZ:=lH hz.o;have F:=lH (af.o.below Z af.o.lt);have C:=lH (ac.o.trans (Z.mono ac.o.size));have R:=lH Z;clear hz Z;obtain⟨U,V⟩:=aT2 F.o;have Y:=F.o.lt;by_cases ax:((q:Nat):Int)<((m:Nat):Int)
    ·have T:q<m:=oM
     obtain⟨gR,oR,rfl,a7⟩:=HR.o.at_ oM;obtain⟨uv,a5,ab,a2⟩:=a7 q T;obtain⟨X,x,rfl,_,_⟩:=a2.shape;have c1:=cell_below C.o a5;have cl:=eG c1;clear a7 a5 ab a2;by_cases a8:k q=n
     ·have aB:=lH a8;rw[a8] at c1;clear a8;have aG:(n !=n)=false:=by simp
      go_wp2_with fail
      go_region
      go_wp2_with fail
      go_roundw
      case rel=>exact⟨q+1,by omega,by go_num,lH (fun i O=>by by_cases e:i=q;subst e;exact aB.o;exact HZ.o i oM),R.o.drew⟩
      case measure=>exact mZ
     ·have G:r=13:=by rw[a0.o];unfold fD;rw[if_neg HL.o,if_pos (fun h=>a8 (h q T))]
      subst G;have aH:((k q:Nat):Int)≠((n:Nat):Int):=oM
      have aG:(((k q:Nat):Int) != ((n:Nat):Int))=true:=by simpa using aH
      have aJ:(k q !=n)=true:=by simpa using a8
      go_wp2_with fail
      go_region
      go_wp2_with fail
      go_returns;exact⟨rfl,C.o.drew⟩
    ·obtain rfl:m=q:=oM
     clear ax R;go_wp2_with fail
     clear U V Y;refine(qX _ n o _ (HO.o.below C.o) an.o.1 aC.o).mono ?_;rintro e w1 ⟨rfl,ag⟩;replace F:=rW F ag;replace C:=bT C ag;clear ag;obtain⟨E,M⟩:=eX (fo n (fun j=>sE (o j)));rw[<- M];have ad:=lH M;clear M;by_cases h0:E=0
     ·have ae:Hid (fo n (fun j=>sE (o j))=0):=lH (by rw[<- ad.o];exact h0);subst h0;go_wp2_with fail
      have ap:=F;have aj:=C;clear F C af ac
      go_loopw [5] (fun iv wr=>∃q:Nat,((q:Nat):Int) <= ((m:Nat):Int) /\ iv= .int .i64 q /\ Hid (∀i,i<q -> iw n (t i) (b i)=0) /\ Below w1.heap.size w1 wr) (fun iv _=>m-(intOf iv).toNat)
      case atStart=>exact⟨0,by omega,rfl,lH (fun i O=>absurd O oM),Below.refl _ _⟩
      case round=>
       obtain⟨q,hq,rfl,hz,Z⟩:=hrel;have a9:=lH hz.o;have F:=lH (ap.o.below Z ap.o.lt);have C:=lH (aj.o.trans (Z.mono aj.o.size));have R:=lH Z;clear hz Z;obtain⟨U,V⟩:=aT2 F.o;have Y:=F.o.lt;by_cases ax:((q:Nat):Int)<((m:Nat):Int)
       ·have T:q<m:=oM
        obtain⟨gR,oR,rfl,a7⟩:=HR.o.at_ oM;obtain⟨uv,a5,ab,a2⟩:=a7 q T;rw[HZ.o q T] at a2;obtain⟨X,x,rfl,_,_⟩:=a2.shape;have aD:=lH (a2.below C.o);have C1:=lH (cell_below C.o a5);have C2:=lH (cell_below C.o ab);clear a7 a5 ab a2;have c1:=C1.o;have c2:=C2.o;have cl:=eG c1;go_wp2_with fail
        clear c1 c2 cl U V Y;refine(qX _ n (t q) _ aD.o an.o.1 (fun j hj=>ao.o.1 q T j (by rw[HZ.o q T];exact hj))).mono ?_;rintro e w2 ⟨rfl,a4⟩;replace C1:=lH (cell_below a4 C1.o);replace C2:=lH (cell_below a4 C2.o);replace R:=lH (R.o.trans (a4.mono R.o.size));replace F:=rW F a4;replace C:=bT C a4;clear a4;obtain⟨E,M⟩:=eX (fo n (fun j=>sE (t q j)));rw[<- M];have al:=lH M;clear M;by_cases h0:E=0
        ·have am:Hid (fo n (fun j=>sE (t q j))=0):=lH (by rw[<- al.o];exact h0);subst h0;obtain⟨U,V⟩:=aT2 F.o;have Y:=F.o.lt;have c1:=C1.o;have c2:=C2.o;have cl:=eG c1;go_wp2_with fail
         clear c1 c2 cl U V Y;refine(vM (b q) _ (ao.o.2 q T)).mono ?_;rintro e w3 ⟨rfl,ah⟩;replace R:=lH (R.o.trans (ah.mono R.o.size));replace C:=bT C ah;clear ah;obtain⟨E,M⟩:=eX (sE (b q));rw[<- M];have ak:=lH M;clear M;by_cases h0:E=0
         ·have a1:Hid (iw n (t q) (b q)=0):=lH (by unfold iw;rw[if_neg (by rw[am.o];simp), <- ak.o];exact h0);subst h0;go_wp2_with fail
          go_roundw
          case rel=>exact⟨q+1,by omega,by go_num,lH (fun i O=>by by_cases e:i=q;subst e;exact a1.o;exact a9.o i oM),R.o⟩
          case measure=>exact mZ
         ·have a1:Hid (iw n (t q) (b q)=E):=lH (by unfold iw;rw[if_neg (by rw[am.o];simp)];exact ak.o.symm);have a6:((E:Nat):Int)≠0:=oM
          have aq:(((E:Nat):Int) !=0)=true:=by simpa using a6
          have ar:(E !=0)=true:=by simpa using h0
          have G:r=E:=by rw[a0.o];unfold fD;rw[if_neg HL.o,if_neg (fun h=>h HZ.o),if_neg (by rw[ae.o];simp),pI T (fun i O=>a9.o i O) (by show iw n (t q) (b q)≠0;rw[a1.o];exact h0)];exact a1.o
          clear h0;subst G;go_wp2_with fail
          go_returns;exact⟨rfl,C.o⟩
        ·have a1:Hid (iw n (t q) (b q)=E):=lH (by unfold iw;rw[<- al.o,if_pos h0]);have a6:((E:Nat):Int)≠0:=oM
         have aq:(((E:Nat):Int) !=0)=true:=by simpa using a6
         have ar:(E !=0)=true:=by simpa using h0
         have G:r=E:=by rw[a0.o];unfold fD;rw[if_neg HL.o,if_neg (fun h=>h HZ.o),if_neg (by rw[ae.o];simp),pI T (fun i O=>a9.o i O) (by show iw n (t q) (b q)≠0;rw[a1.o];exact h0)];exact a1.o
         clear h0;subst G;go_wp2_with fail
         go_returns;exact⟨rfl,C.o⟩
       ·obtain rfl:m=q:=oM
        have G:r=0:=by rw[a0.o];unfold fD;rw[if_neg HL.o,if_neg (fun h=>h HZ.o),if_neg (by rw[ae.o];simp)];exact kF.2 (fun i O=>a9.o i O)
        subst G;go_wp2_with fail
        go_returns;exact⟨rfl,C.o⟩
     ·have a6:((E:Nat):Int)≠0:=oM
      have aq:(((E:Nat):Int) !=0)=true:=by simpa using a6
      have ar:(E !=0)=true:=by simpa using h0
      have G:r=E:=by rw[a0.o,ad.o];unfold fD;rw[if_neg HL.o,if_neg (fun h=>h HZ.o),if_pos (by rw[<- ad.o];exact h0)]
      clear h0;subst G;go_wp2_with fail
      go_returns;exact⟨rfl,C.o⟩
end Go.Proofs.YtdefghfjhgmpfaaGreatDoor
