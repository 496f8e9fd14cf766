/- Parts of this proof: QRef Reads ParseM ShelfL ShortL. -/
import Derived.Test.YtdefghfjhgmpfaaGreatDoorMAT
import Derived.Test.YtdefghfjhgmpfaaGreatDoorMAQ
import Derived.Test.YtdefghfjhgmpfaaGreatDoorProg
import Derived.Shelf.SlicesE.Clone
import Derived.Shelf.SlicesE.Equal
import Derived.Shelf.SlicesE.IndexFunc
namespace Go.Proofs.YtdefghfjhgmpfaaGreatDoor
open Tryz
section
open Go.RowKit
theorem zT{a:ByteArray}(h:¬0<a.size):a.data.toList= []:=List.eq_nil_of_length_eq_zero (by rw[gz];omega)
theorem qV{l:List UInt8}(h:dgs l=true):l≠ [] /\ ∀c ∈ l,gm c=true:=by
 unfold dgs at h;rw[Bool.and_eq_true,decide_eq_true_iff] at h;exact⟨h.1,List.all_eq_true.1 h.2⟩
theorem mY:Lib.itoa 1= [49]:=by decide+kernel
theorem pG{g:Nat}(h:g≠1):(txt ((g:Nat):Int)).toList≠ [49]:=by
 rw[ByteArray.toList_eq,jS];intro e;have r:Lib.itoa ((g:Nat):Int)=Lib.itoa 1:=by rw[e,mY]
 have:=qj r;omega
theorem nk{a:Int}(h:(Lib.itoa a).length <= 65536):gu a:=by
 unfold gu;have h1:=xD a.natAbs
 have r:(Lib.decDigits a.natAbs).length <= (Lib.itoa a).length:=by
  by_cases h:a<0
  ·rw[itoa_neg h];simp
  ·rw[iW h];exact Nat.le_refl _
 omega
theorem tJ{l:List UInt8}{r:Nat}(hr:r=fK l)(h1:¬(dgs (body (eH l))=false \/ dgs (fQ l)=false))(X:¬(fQ l).all (· ==48)=true)
  (C:¬((1<(body (eH l)).length /\ (body (eH l)).head? =some 48) \/ eH l= [45,48] \/ (fQ l).head? =some 48)) (hc:fG l≠ []) (U:fQ l≠ [49]):
  ∃x y:Int,eH l=Lib.itoa x /\ fQ l=Lib.itoa y /\ x.natAbs=dv (body (eH l)) /\ y.natAbs=dv (fQ l) /\ r=if Nat.gcd x.natAbs y.natAbs=1 then 0 else 3:=by
 have G:dgs (body (eH l))=true:=by simpa using fun h=>h1 (.inl h)
 have Z:dgs (fQ l)=true:=by simpa using fun h=>h1 (.inr h)
 have a0:chk (eH l)=0:=by
  rcases nN G with h | h
  ·exact h
  ·exfalso
   have Y:fK (eH l++47:: [50])=3:=by
    obtain⟨R,F⟩:=rO (b:=[50]) (xI l);have T:fJ (eH l++47:: [50])= [50]:=by unfold fJ;rw[F];rfl
    unfold fK;rw[R,T,F,if_neg (by simp),if_neg (by rintro(e | e | e);exact qx G e;cases e;revert e;decide),if_neg dC,if_pos (.inl h)]
   obtain⟨R,F⟩:=rO (b:=[50]) (xI l);have T:fQ (eH l++47:: [50])= [50]:=by unfold fQ fJ;rw[F];rfl
   rw[iq,R,T,if_neg (by rintro(e | e);rw[G] at e;cases e;revert e;decide),if_neg dC] at Y;unfold chk at h;have V:=oV G;rw[if_neg (fun e=>V (.inl e)),if_neg (fun e=>V (.inr e))] at h;split at h
   ·rename_i t
    rcases t.2 with E | E
    ·exact C (.inl ⟨E,t.1⟩)
    ·by_cases O:1<(body (eH l)).length
     ·exact C (.inl ⟨O,t.1⟩)
     ·refine C (.inr (.inl ?_));obtain⟨a,a1⟩:=eX (eH l);rw[<- a1] at t E O ⊢;cases a with
      | nil=>cases E
      | cons c a=>
       obtain rfl:c=45:=by simpa using E
       have U:body (45::a)=a:=by unfold body;simp
       rw[U] at t O;cases a with
       | nil=>cases t.1
       | cons d a=>
        obtain rfl:d=48:=by simpa using t.1
        have:a= []:=List.eq_nil_of_length_eq_zero (by simp only[List.length_cons] at O;omega);rw[this]
   ·omega
 obtain⟨x,hx,W,_⟩:=nK a0;obtain⟨a4,a5⟩:=qV Z;have a3:(fQ l).head? ≠some 48:=fun e=>C (.inr (.inr e))
 have a2:=rH (fQ l) a4 a5 (fun e=>absurd e a3);refine⟨x,(dv (fQ l):Nat),hx,?_,?_,by simp,?_⟩
 ·rw[iW oM,Int.natAbs_natCast,a2]
 ·rw[W,jH]
 ·have a6:x.natAbs=dv (body (eH l)):=by rw[W,jH]
  rw[hr,iq,if_neg h1,if_neg X,if_neg C,Int.natAbs_natCast,a6];by_cases M:Nat.gcd (dv (body (eH l))) (dv (fQ l))=1
  ·rw[if_pos M,if_neg (fun e=>e.2.elim U (fun h=>h M))]
  ·rw[if_neg M,if_pos ⟨hc, .inr M⟩]
set_option maxRecDepth 100000 in
set_option maxHeartbeats 6400000 in
theorem Gz(s:ByteArray)(w:World)(hs:s.size <= 65536):Calls prog 70 #[.string s, .int .i64 65536] w fun e w'=>e= .returned (.int .i64 (fK s.data.toList:Nat)) /\ Below w.heap.size w w':=by
 have aM:=lH (zS s w oM);have aA:=lH (fun w=>zB s w oM);obtain⟨l,hl⟩:=eX (s.data.toList);obtain⟨r,hr⟩:=eX (fK l);have aT:l.length=s.size:=by rw[hl,gz]
 rw[<- hl] at aM aA ⊢;rw[<- hr];have F:=lH hr;have ae:=lH aT;have b5:=lH hl;have HS:=lH hs;have b2:((s.size:Nat):Int) <= 65536:=oM
 have b1:decide ((65536:Int)<((s.size:Nat):Int))=false:=decide_eq_false oM;have b3:decide (65536<s.size)=false:=decide_eq_false oM;clear hr hl aT hs;go_enter func70,ntmps70;go_wp2_with fail
 clear b2 b1 b3;refine aM.o.mono ?_;rintro e w1 ⟨a,b,rfl,ha,hb,a4⟩;have Y:=lH ha;have R:=lH hb;have C:=lH a4
 have aP:a.size <= 65536:=by
  rw[<- gz,ha];have h1:=congrArg List.length (jo l);rw[List.length_append,ae.o] at h1;have:=HS.o;omega
 have aQ:b.size <= 65536:=by
  rw[<- gz,hb];unfold fQ;split
  ·simp
  ·have h1:=congrArg List.length (jo l);rw[List.length_append,ae.o] at h1;unfold fJ;rw[List.length_tail];have:=HS.o;omega
 have a0:=lH (And.intro aP aQ);clear ha hb a4 aP aQ aM;by_cases h0:¬0<a.size
 ·have hA0:dgs (body (eH l))=false:=by rw[<- Y.o,zT h0];rfl
  have aU:Hid (dgs a.data.toList=false):=lH (by rw[zT h0];rfl);have aV:decide ((0:Int)<((a.size:Nat):Int))=false:=decide_eq_false oM;have aW:decide (0<a.size)=false:=decide_eq_false oM;have t:r=14:=by rw[F.o,iq,if_pos (.inl hA0)]
  clear hA0 h0;subst t;go_wp2_with fail
  clear aV aW;refine(qQ a _ (by have:=a0.o.1;omega)).mono ?_;rintro e w2 ⟨rfl,rfl⟩;rw[aU.o];go_wp2_with fail
  go_returns;exact⟨rfl,C.o⟩
 ·replace h0:0<a.size:=oM
  have aN:(0:Int)<((a.size:Nat):Int):=oM
  have aR:=nY a 0 h0;have aS:(eH l).head? =some a[0]:=by rw[<- Y.o,aR,List.head?_eq_getElem?,List.getElem?_eq_getElem (by rw[gz];exact h0)]
  obtain⟨x,hx⟩:∃x:Nat,a[0].toNat=x:=⟨_,rfl⟩
  have aO:a[0]=45↔x=45:=by
   rw[<- hx];exact⟨fun h=>by rw[h];rfl,fun h=>UInt8.toNat_inj.1 (by rw[h];rfl)⟩
  have aC:=lH aS;have aB:=lH aO;clear aR aS aO;by_cases aD:x=45
  ·have av:(a.extract 1 a.size).data.toList=body (eH l):=by
    unfold body;rw[if_pos (by rw[aC.o,aB.o.2 aD]),qm,Y.o,List.take_of_length_le (by rw[<- Y.o,gz];exact Nat.le_refl _),List.drop_one]
   obtain⟨D,hD⟩:∃D,a.extract 1 a.size=D:=⟨_,rfl⟩
   have b0:D.size<a.size:=by rw[<- hD,ByteArray.size_extract];omega
   rw[hD] at av;have HD:=lH av;have aF:Hid (D.size <= 65536):=lH (by have:=a0.o.1;omega);have ag:(1:Int) <= ((a.size:Nat):Int):=oM
   have aX:((a.size:Nat):Int) <= 65536:=by have:=a0.o.1;omega
   clear av b0;subst aD;go_wp2_with fail
   clear aC aB hx aN h0 ag aX hD;refine(qQ D _ (by have:=aF.o;omega)).mono ?_;rintro e w2 ⟨rfl,rfl⟩;obtain⟨p,G⟩:=eX (dgs D.data.toList);rw[<- G];rw[HD.o] at G;have HP:=lH G;clear G;cases p
   ·have t:r=14:=by rw[F.o,iq,if_pos (.inl HP.o.symm)]
    subst t;go_wp2_with fail
    go_returns;exact⟨rfl,C.o⟩
   ·go_wp2_with fail
    refine(qQ b _ (by have:=a0.o.2;omega)).mono ?_;rintro e w2 ⟨rfl,rfl⟩;obtain⟨p,G⟩:=eX (dgs b.data.toList);rw[<- G];rw[R.o] at G;have am:=lH G;clear G;cases p
    ·have t:r=14:=by rw[F.o,iq,if_pos (.inr am.o.symm)]
     subst t;go_wp2_with fail
     go_returns;exact⟨rfl,C.o⟩
    ·have O:Hid (¬(dgs (body (eH l))=false \/ dgs (fQ l)=false)):=lH (by rw[<- HP.o, <- am.o];simp);go_wp2_with fail
     refine(zC b _ (by have:=a0.o.2;omega)).mono ?_;rintro e w2 ⟨rfl,rfl⟩;obtain⟨p,G⟩:=eX (b.data.toList.all (· ==48));rw[<- G];rw[R.o] at G;have HZ:=lH G;clear G;cases p
     ·have U:Hid (¬(fQ l).all (· ==48)=true):=lH (by rw[<- HZ.o];simp)
      have aZ:0<D.size:=by
       have h1:=(qV HP.o.symm).1;rw[<- HD.o] at h1;have:=List.length_pos_iff.2 h1;rw[gz] at this;exact this
      have aY:0<b.size:=by
       have h1:=(qV am.o.symm).1;rw[<- R.o] at h1;have:=List.length_pos_iff.2 h1;rw[gz] at this;exact this
      obtain⟨d,hd,aw⟩:∃x:Nat,D[0].toNat=x /\ Hid ((body (eH l)).head? =some 48↔x=48):=⟨_,rfl,lH (by
       rw[<- HD.o,List.head?_eq_getElem?,List.getElem?_eq_getElem (by rw[gz];assumption), <- nY D 0 (by assumption),Option.some.injEq]
       exact⟨fun h=>by rw[h];rfl,fun h=>UInt8.toNat_inj.1 (by rw[h];rfl)⟩)⟩
      obtain⟨e,he,af⟩:∃x:Nat,b[0].toNat=x /\ Hid ((fQ l).head? =some 48↔x=48):=⟨_,rfl,lH (by
       rw[<- R.o,List.head?_eq_getElem?,List.getElem?_eq_getElem (by rw[gz];assumption), <- nY b 0 (by assumption),Option.some.injEq]
       exact⟨fun h=>by rw[h];rfl,fun h=>UInt8.toNat_inj.1 (by rw[h];rfl)⟩)⟩
      have ay:(0:Int)<((b.size:Nat):Int):=oM
      have az:(0:Int)<((D.size:Nat):Int):=oM
      have ax:Hid ((body (eH l)).length=D.size):=lH (by rw[<- HD.o,gz]);by_cases h1:1<D.size
      ·have ag:(1:Int)<((D.size:Nat):Int):=oM
       by_cases ah:d=48
       ·have t:r=3:=by rw[F.o,iq,if_neg O.o,if_neg U.o,if_pos (.inl ⟨by rw[ax.o];exact h1,aw.o.2 ah⟩)]
        subst t;subst ah;go_wp2_with fail
        go_returns;exact⟨rfl,C.o⟩
       ·have aL:(((d:Nat):Int)==48)=false:=by rw[beq_eq_false_iff_ne];omega
        have ak:Hid (¬(1<(body (eH l)).length /\ (body (eH l)).head? =some 48)):=lH (fun h=>ah (aw.o.1 h.2));clear h1 ah;by_cases X:a.toList= [45,48]
        ·have ac:(a.toList== [45,48])=true:=by rw[beq_iff_eq];exact X
         have t:r=3:=by rw[F.o,iq,if_neg O.o,if_neg U.o,if_pos (.inr (.inl (by rw[<- Y.o, <- ByteArray.toList_eq];exact X)))]
         subst t;go_wp2_with fail
         go_returns;exact⟨rfl,C.o⟩
        ·have ac:(a.toList== [45,48])=false:=by rw[beq_eq_false_iff_ne];exact X
         have al:Hid (eH l≠ [45,48]):=lH (by rw[<- Y.o, <- ByteArray.toList_eq];exact X);by_cases V:e=48
         ·have t:r=3:=by rw[F.o,iq,if_neg O.o,if_neg U.o,if_pos (.inr (.inr (af.o.2 V)))]
          subst t;subst V;go_wp2_with fail
          go_returns;exact⟨rfl,C.o⟩
         ·have ap:(((e:Nat):Int)==48)=false:=by rw[beq_eq_false_iff_ne];omega
          have a1:Hid (¬((1<(body (eH l)).length /\ (body (eH l)).head? =some 48) \/ eH l= [45,48] \/ (fQ l).head? =some 48)):=lH (by rintro(h | h | h);exact ak.o h;exact al.o h;exact V (af.o.1 h));have aG:=lH V;clear V;go_wp2_with fail
          clear ap X ac he hd ay az aL ag;refine(aA.o _).mono ?_;rintro e w2 ⟨rfl,rfl⟩;obtain⟨c,hc⟩:=eX ((eH l).length);rw[<- hc];have HC:=lH hc;clear hc;by_cases ab:¬c<s.size
          ·have aa:((s.size:Nat):Int) <= ((c:Nat):Int):=oM
           have aJ:decide (((c:Nat):Int)<((s.size:Nat):Int))=false:=decide_eq_false oM;have aK:decide (c<s.size)=false:=decide_eq_false oM
           have t:r=0:=by
            have h1:=congrArg List.length (jo l);rw[List.length_append,ae.o, <- HC.o] at h1;have h2:fG l= []:=List.eq_nil_of_length_eq_zero oM;rw[F.o,iq,if_neg O.o,if_neg U.o,if_neg a1.o,if_neg (fun h=>h.1 h2)]
           subst t;clear ab;go_wp2_with fail
           go_returns;exact⟨rfl,C.o⟩
          ·have aa:((c:Nat):Int)<((s.size:Nat):Int):=oM
           have a5:Hid (fG l≠ []):=lH (fun h=>by have h1:=congrArg List.length (jo l);rw[List.length_append,ae.o, <- HC.o,h] at h1;simp at h1;omega);clear ab;by_cases M:b.toList= [49]
           ·have a4:(b.toList== [49])=true:=by rw[beq_iff_eq];exact M
            have t:r=3:=by rw[F.o,iq,if_neg O.o,if_neg U.o,if_neg a1.o,if_pos ⟨a5.o, .inl (by rw[<- R.o, <- ByteArray.toList_eq];exact M)⟩]
            subst t;go_wp2_with fail
            go_returns;exact⟨rfl,C.o⟩
           ·have a4:(b.toList== [49])=false:=by rw[beq_eq_false_iff_ne];exact M
            have aE:=lH M;have aq:=tJ F.o O.o U.o a1.o a5.o (by rw[<- R.o, <- ByteArray.toList_eq];exact M);obtain⟨x,y,a2,a3,ar,au,ad⟩:=aq;have an:a=txt x:=lJ (by rw[Y.o];exact a2);have ao:b=txt y:=lJ (by rw[R.o];exact a3);have ai:Hid (gu x):=lH (nk (by rw[<- a2, <- Y.o,gz];have:=a0.o.1;omega));have aj:Hid (gu y):=lH (nk (by rw[<- a3, <- R.o,gz];have:=a0.o.2;omega));have a6:=lH ad;clear M a2 a3 ar au ad;subst an;subst ao;go_wp2_with fail
            clear aa a4;refine(pF x y _ ai.o aj.o).mono ?_;rintro e w3 ⟨rfl,a9⟩;replace C:=bT C a9;clear a9;by_cases W:Nat.gcd x.natAbs y.natAbs=1
            ·rw[W];obtain⟨T,E⟩:=eX (txt ((1:Nat):Int));rw[<- E];have Z:T.toList= [49]:=by rw[E,ByteArray.toList_eq,jS];exact mY
             have a7:(T.toList== [49])=true:=by rw[Z];rfl
             have a8:(T.toList != [49])=false:=by rw[Z];rfl
             have t:r=0:=by rw[a6.o,if_pos W]
             clear E;subst t;go_wp2_with fail
             go_returns;exact⟨rfl,C.o⟩
            ·have t:r=3:=by rw[a6.o,if_neg W]
             obtain⟨T,E⟩:=eX (txt ((Nat.gcd x.natAbs y.natAbs:Nat):Int));rw[<- E];have Z:T.toList≠ [49]:=by rw[E];exact pG W
             have a7:(T.toList== [49])=false:=by rw[beq_eq_false_iff_ne];exact Z
             have a8:(T.toList != [49])=true:=by rw[bne,a7];rfl
             clear E W;subst t;go_wp2_with fail
             go_returns;exact⟨rfl,C.o⟩
      ·have ag:((D.size:Nat):Int) <= 1:=oM
       have aH:decide ((1:Int)<((D.size:Nat):Int))=false:=decide_eq_false oM;have a8:decide (1<D.size)=false:=decide_eq_false oM;have ak:Hid (¬(1<(body (eH l)).length /\ (body (eH l)).head? =some 48)):=lH (fun h=>h1 (by rw[<- ax.o];exact h.1));clear h1;by_cases X:a.toList= [45,48]
       ·have ac:(a.toList== [45,48])=true:=by rw[beq_iff_eq];exact X
        have t:r=3:=by rw[F.o,iq,if_neg O.o,if_neg U.o,if_pos (.inr (.inl (by rw[<- Y.o, <- ByteArray.toList_eq];exact X)))]
        subst t;go_wp2_with fail
        go_returns;exact⟨rfl,C.o⟩
       ·have ac:(a.toList== [45,48])=false:=by rw[beq_eq_false_iff_ne];exact X
        have al:Hid (eH l≠ [45,48]):=lH (by rw[<- Y.o, <- ByteArray.toList_eq];exact X);by_cases V:e=48
        ·have t:r=3:=by rw[F.o,iq,if_neg O.o,if_neg U.o,if_pos (.inr (.inr (af.o.2 V)))]
         subst t;subst V;go_wp2_with fail
         go_returns;exact⟨rfl,C.o⟩
        ·have ap:(((e:Nat):Int)==48)=false:=by rw[beq_eq_false_iff_ne];omega
         have a1:Hid (¬((1<(body (eH l)).length /\ (body (eH l)).head? =some 48) \/ eH l= [45,48] \/ (fQ l).head? =some 48)):=lH (by rintro(h | h | h);exact ak.o h;exact al.o h;exact V (af.o.1 h));have aG:=lH V;clear V;go_wp2_with fail
         clear ap X ac he hd ay az ag aH a8;refine(aA.o _).mono ?_;rintro e w2 ⟨rfl,rfl⟩;obtain⟨c,hc⟩:=eX ((eH l).length);rw[<- hc];have HC:=lH hc;clear hc;by_cases ab:¬c<s.size
         ·have aa:((s.size:Nat):Int) <= ((c:Nat):Int):=oM
          have aJ:decide (((c:Nat):Int)<((s.size:Nat):Int))=false:=decide_eq_false oM;have aK:decide (c<s.size)=false:=decide_eq_false oM
          have t:r=0:=by
           have h1:=congrArg List.length (jo l);rw[List.length_append,ae.o, <- HC.o] at h1;have h2:fG l= []:=List.eq_nil_of_length_eq_zero oM;rw[F.o,iq,if_neg O.o,if_neg U.o,if_neg a1.o,if_neg (fun h=>h.1 h2)]
          subst t;clear ab;go_wp2_with fail
          go_returns;exact⟨rfl,C.o⟩
         ·have aa:((c:Nat):Int)<((s.size:Nat):Int):=oM
          have a5:Hid (fG l≠ []):=lH (fun h=>by have h1:=congrArg List.length (jo l);rw[List.length_append,ae.o, <- HC.o,h] at h1;simp at h1;omega);clear ab;by_cases M:b.toList= [49]
          ·have a4:(b.toList== [49])=true:=by rw[beq_iff_eq];exact M
           have t:r=3:=by rw[F.o,iq,if_neg O.o,if_neg U.o,if_neg a1.o,if_pos ⟨a5.o, .inl (by rw[<- R.o, <- ByteArray.toList_eq];exact M)⟩]
           subst t;go_wp2_with fail
           go_returns;exact⟨rfl,C.o⟩
          ·have a4:(b.toList== [49])=false:=by rw[beq_eq_false_iff_ne];exact M
           have aE:=lH M;have aq:=tJ F.o O.o U.o a1.o a5.o (by rw[<- R.o, <- ByteArray.toList_eq];exact M);obtain⟨x,y,a2,a3,ar,au,ad⟩:=aq;have an:a=txt x:=lJ (by rw[Y.o];exact a2);have ao:b=txt y:=lJ (by rw[R.o];exact a3);have ai:Hid (gu x):=lH (nk (by rw[<- a2, <- Y.o,gz];have:=a0.o.1;omega));have aj:Hid (gu y):=lH (nk (by rw[<- a3, <- R.o,gz];have:=a0.o.2;omega));have a6:=lH ad;clear M a2 a3 ar au ad;subst an;subst ao;go_wp2_with fail
           clear aa a4;refine(pF x y _ ai.o aj.o).mono ?_;rintro e w3 ⟨rfl,a9⟩;replace C:=bT C a9;clear a9;by_cases W:Nat.gcd x.natAbs y.natAbs=1
           ·rw[W];obtain⟨T,E⟩:=eX (txt ((1:Nat):Int));rw[<- E];have Z:T.toList= [49]:=by rw[E,ByteArray.toList_eq,jS];exact mY
            have a7:(T.toList== [49])=true:=by rw[Z];rfl
            have a8:(T.toList != [49])=false:=by rw[Z];rfl
            have t:r=0:=by rw[a6.o,if_pos W]
            clear E;subst t;go_wp2_with fail
            go_returns;exact⟨rfl,C.o⟩
           ·have t:r=3:=by rw[a6.o,if_neg W]
            obtain⟨T,E⟩:=eX (txt ((Nat.gcd x.natAbs y.natAbs:Nat):Int));rw[<- E];have Z:T.toList≠ [49]:=by rw[E];exact pG W
            have a7:(T.toList== [49])=false:=by rw[beq_eq_false_iff_ne];exact Z
            have a8:(T.toList != [49])=true:=by rw[bne,a7];rfl
            clear E W;subst t;go_wp2_with fail
            go_returns;exact⟨rfl,C.o⟩
     ·have t:r=19:=by rw[F.o,iq,if_neg O.o,if_pos HZ.o.symm]
      subst t;go_wp2_with fail
      go_returns;exact⟨rfl,C.o⟩
  ·have av:a.data.toList=body (eH l):=by
    unfold body;rw[if_neg (by rw[aC.o];exact fun e=>aD (aB.o.1 (by simpa using e))),Y.o]
   have HD:=lH av;have aF:Hid (a.size <= 65536):=lH a0.o.1;have b4:(((x:Nat):Int)==45)=false:=by rw[beq_eq_false_iff_ne];omega
   clear av aD;go_wp2_with fail
   clear aC aB hx aN h0 b4;refine(qQ a _ (by have:=aF.o;omega)).mono ?_;rintro e w2 ⟨rfl,rfl⟩;obtain⟨p,G⟩:=eX (dgs a.data.toList);rw[<- G];rw[HD.o] at G;have HP:=lH G;clear G;cases p
   ·have t:r=14:=by rw[F.o,iq,if_pos (.inl HP.o.symm)]
    subst t;go_wp2_with fail
    go_returns;exact⟨rfl,C.o⟩
   ·go_wp2_with fail
    refine(qQ b _ (by have:=a0.o.2;omega)).mono ?_;rintro e w2 ⟨rfl,rfl⟩;obtain⟨p,G⟩:=eX (dgs b.data.toList);rw[<- G];rw[R.o] at G;have am:=lH G;clear G;cases p
    ·have t:r=14:=by rw[F.o,iq,if_pos (.inr am.o.symm)]
     subst t;go_wp2_with fail
     go_returns;exact⟨rfl,C.o⟩
    ·have O:Hid (¬(dgs (body (eH l))=false \/ dgs (fQ l)=false)):=lH (by rw[<- HP.o, <- am.o];simp);go_wp2_with fail
     refine(zC b _ (by have:=a0.o.2;omega)).mono ?_;rintro e w2 ⟨rfl,rfl⟩;obtain⟨p,G⟩:=eX (b.data.toList.all (· ==48));rw[<- G];rw[R.o] at G;have HZ:=lH G;clear G;cases p
     ·have U:Hid (¬(fQ l).all (· ==48)=true):=lH (by rw[<- HZ.o];simp)
      have aZ:0<a.size:=by
       have h1:=(qV HP.o.symm).1;rw[<- HD.o] at h1;have:=List.length_pos_iff.2 h1;rw[gz] at this;exact this
      have aY:0<b.size:=by
       have h1:=(qV am.o.symm).1;rw[<- R.o] at h1;have:=List.length_pos_iff.2 h1;rw[gz] at this;exact this
      obtain⟨d,hd,aw⟩:∃x:Nat,a[0].toNat=x /\ Hid ((body (eH l)).head? =some 48↔x=48):=⟨_,rfl,lH (by
       rw[<- HD.o,List.head?_eq_getElem?,List.getElem?_eq_getElem (by rw[gz];assumption), <- nY a 0 (by assumption),Option.some.injEq]
       exact⟨fun h=>by rw[h];rfl,fun h=>UInt8.toNat_inj.1 (by rw[h];rfl)⟩)⟩
      obtain⟨e,he,af⟩:∃x:Nat,b[0].toNat=x /\ Hid ((fQ l).head? =some 48↔x=48):=⟨_,rfl,lH (by
       rw[<- R.o,List.head?_eq_getElem?,List.getElem?_eq_getElem (by rw[gz];assumption), <- nY b 0 (by assumption),Option.some.injEq]
       exact⟨fun h=>by rw[h];rfl,fun h=>UInt8.toNat_inj.1 (by rw[h];rfl)⟩)⟩
      have ay:(0:Int)<((b.size:Nat):Int):=oM
      have az:(0:Int)<((a.size:Nat):Int):=oM
      have ax:Hid ((body (eH l)).length=a.size):=lH (by rw[<- HD.o,gz]);by_cases h1:1<a.size
      ·have ag:(1:Int)<((a.size:Nat):Int):=oM
       by_cases ah:d=48
       ·have t:r=3:=by rw[F.o,iq,if_neg O.o,if_neg U.o,if_pos (.inl ⟨by rw[ax.o];exact h1,aw.o.2 ah⟩)]
        subst t;subst ah;go_wp2_with fail
        go_returns;exact⟨rfl,C.o⟩
       ·have aL:(((d:Nat):Int)==48)=false:=by rw[beq_eq_false_iff_ne];omega
        have ak:Hid (¬(1<(body (eH l)).length /\ (body (eH l)).head? =some 48)):=lH (fun h=>ah (aw.o.1 h.2));clear h1 ah;by_cases X:a.toList= [45,48]
        ·have ac:(a.toList== [45,48])=true:=by rw[beq_iff_eq];exact X
         have t:r=3:=by rw[F.o,iq,if_neg O.o,if_neg U.o,if_pos (.inr (.inl (by rw[<- Y.o, <- ByteArray.toList_eq];exact X)))]
         subst t;go_wp2_with fail
         go_returns;exact⟨rfl,C.o⟩
        ·have ac:(a.toList== [45,48])=false:=by rw[beq_eq_false_iff_ne];exact X
         have al:Hid (eH l≠ [45,48]):=lH (by rw[<- Y.o, <- ByteArray.toList_eq];exact X);by_cases V:e=48
         ·have t:r=3:=by rw[F.o,iq,if_neg O.o,if_neg U.o,if_pos (.inr (.inr (af.o.2 V)))]
          subst t;subst V;go_wp2_with fail
          go_returns;exact⟨rfl,C.o⟩
         ·have ap:(((e:Nat):Int)==48)=false:=by rw[beq_eq_false_iff_ne];omega
          have a1:Hid (¬((1<(body (eH l)).length /\ (body (eH l)).head? =some 48) \/ eH l= [45,48] \/ (fQ l).head? =some 48)):=lH (by rintro(h | h | h);exact ak.o h;exact al.o h;exact V (af.o.1 h));have aG:=lH V;clear V;go_wp2_with fail
          clear ap X ac he hd ay az aL ag;refine(aA.o _).mono ?_;rintro e w2 ⟨rfl,rfl⟩;obtain⟨c,hc⟩:=eX ((eH l).length);rw[<- hc];have HC:=lH hc;clear hc;by_cases ab:¬c<s.size
          ·have aa:((s.size:Nat):Int) <= ((c:Nat):Int):=oM
           have aJ:decide (((c:Nat):Int)<((s.size:Nat):Int))=false:=decide_eq_false oM;have aK:decide (c<s.size)=false:=decide_eq_false oM
           have t:r=0:=by
            have h1:=congrArg List.length (jo l);rw[List.length_append,ae.o, <- HC.o] at h1;have h2:fG l= []:=List.eq_nil_of_length_eq_zero oM;rw[F.o,iq,if_neg O.o,if_neg U.o,if_neg a1.o,if_neg (fun h=>h.1 h2)]
           subst t;clear ab;go_wp2_with fail
           go_returns;exact⟨rfl,C.o⟩
          ·have aa:((c:Nat):Int)<((s.size:Nat):Int):=oM
           have a5:Hid (fG l≠ []):=lH (fun h=>by have h1:=congrArg List.length (jo l);rw[List.length_append,ae.o, <- HC.o,h] at h1;simp at h1;omega);clear ab;by_cases M:b.toList= [49]
           ·have a4:(b.toList== [49])=true:=by rw[beq_iff_eq];exact M
            have t:r=3:=by rw[F.o,iq,if_neg O.o,if_neg U.o,if_neg a1.o,if_pos ⟨a5.o, .inl (by rw[<- R.o, <- ByteArray.toList_eq];exact M)⟩]
            subst t;go_wp2_with fail
            go_returns;exact⟨rfl,C.o⟩
           ·have a4:(b.toList== [49])=false:=by rw[beq_eq_false_iff_ne];exact M
            have aE:=lH M;have aq:=tJ F.o O.o U.o a1.o a5.o (by rw[<- R.o, <- ByteArray.toList_eq];exact M);obtain⟨x,y,a2,a3,ar,au,ad⟩:=aq;have an:a=txt x:=lJ (by rw[Y.o];exact a2);have ao:b=txt y:=lJ (by rw[R.o];exact a3);have ai:Hid (gu x):=lH (nk (by rw[<- a2, <- Y.o,gz];have:=a0.o.1;omega));have aj:Hid (gu y):=lH (nk (by rw[<- a3, <- R.o,gz];have:=a0.o.2;omega));have a6:=lH ad;clear M a2 a3 ar au ad;subst an;subst ao;go_wp2_with fail
            clear aa a4;refine(pF x y _ ai.o aj.o).mono ?_;rintro e w3 ⟨rfl,a9⟩;replace C:=bT C a9;clear a9;by_cases W:Nat.gcd x.natAbs y.natAbs=1
            ·rw[W];obtain⟨T,E⟩:=eX (txt ((1:Nat):Int));rw[<- E];have Z:T.toList= [49]:=by rw[E,ByteArray.toList_eq,jS];exact mY
             have a7:(T.toList== [49])=true:=by rw[Z];rfl
             have a8:(T.toList != [49])=false:=by rw[Z];rfl
             have t:r=0:=by rw[a6.o,if_pos W]
             clear E;subst t;go_wp2_with fail
             go_returns;exact⟨rfl,C.o⟩
            ·have t:r=3:=by rw[a6.o,if_neg W]
             obtain⟨T,E⟩:=eX (txt ((Nat.gcd x.natAbs y.natAbs:Nat):Int));rw[<- E];have Z:T.toList≠ [49]:=by rw[E];exact pG W
             have a7:(T.toList== [49])=false:=by rw[beq_eq_false_iff_ne];exact Z
             have a8:(T.toList != [49])=true:=by rw[bne,a7];rfl
             clear E W;subst t;go_wp2_with fail
             go_returns;exact⟨rfl,C.o⟩
      ·have ag:((a.size:Nat):Int) <= 1:=oM
       have aH:decide ((1:Int)<((a.size:Nat):Int))=false:=decide_eq_false oM;have a8:decide (1<a.size)=false:=decide_eq_false oM;have ak:Hid (¬(1<(body (eH l)).length /\ (body (eH l)).head? =some 48)):=lH (fun h=>h1 (by rw[<- ax.o];exact h.1));clear h1;by_cases X:a.toList= [45,48]
       ·have ac:(a.toList== [45,48])=true:=by rw[beq_iff_eq];exact X
        have t:r=3:=by rw[F.o,iq,if_neg O.o,if_neg U.o,if_pos (.inr (.inl (by rw[<- Y.o, <- ByteArray.toList_eq];exact X)))]
        subst t;go_wp2_with fail
        go_returns;exact⟨rfl,C.o⟩
       ·have ac:(a.toList== [45,48])=false:=by rw[beq_eq_false_iff_ne];exact X
        have al:Hid (eH l≠ [45,48]):=lH (by rw[<- Y.o, <- ByteArray.toList_eq];exact X);by_cases V:e=48
        ·have t:r=3:=by rw[F.o,iq,if_neg O.o,if_neg U.o,if_pos (.inr (.inr (af.o.2 V)))]
         subst t;subst V;go_wp2_with fail
         go_returns;exact⟨rfl,C.o⟩
        ·have ap:(((e:Nat):Int)==48)=false:=by rw[beq_eq_false_iff_ne];omega
         have a1:Hid (¬((1<(body (eH l)).length /\ (body (eH l)).head? =some 48) \/ eH l= [45,48] \/ (fQ l).head? =some 48)):=lH (by rintro(h | h | h);exact ak.o h;exact al.o h;exact V (af.o.1 h));have aG:=lH V;clear V;go_wp2_with fail
         clear ap X ac he hd ay az ag aH a8;refine(aA.o _).mono ?_;rintro e w2 ⟨rfl,rfl⟩;obtain⟨c,hc⟩:=eX ((eH l).length);rw[<- hc];have HC:=lH hc;clear hc;by_cases ab:¬c<s.size
         ·have aa:((s.size:Nat):Int) <= ((c:Nat):Int):=oM
          have aJ:decide (((c:Nat):Int)<((s.size:Nat):Int))=false:=decide_eq_false oM;have aK:decide (c<s.size)=false:=decide_eq_false oM
          have t:r=0:=by
           have h1:=congrArg List.length (jo l);rw[List.length_append,ae.o, <- HC.o] at h1;have h2:fG l= []:=List.eq_nil_of_length_eq_zero oM;rw[F.o,iq,if_neg O.o,if_neg U.o,if_neg a1.o,if_neg (fun h=>h.1 h2)]
          subst t;clear ab;go_wp2_with fail
          go_returns;exact⟨rfl,C.o⟩
         ·have aa:((c:Nat):Int)<((s.size:Nat):Int):=oM
          have a5:Hid (fG l≠ []):=lH (fun h=>by have h1:=congrArg List.length (jo l);rw[List.length_append,ae.o, <- HC.o,h] at h1;simp at h1;omega);clear ab;by_cases M:b.toList= [49]
          ·have a4:(b.toList== [49])=true:=by rw[beq_iff_eq];exact M
           have t:r=3:=by rw[F.o,iq,if_neg O.o,if_neg U.o,if_neg a1.o,if_pos ⟨a5.o, .inl (by rw[<- R.o, <- ByteArray.toList_eq];exact M)⟩]
           subst t;go_wp2_with fail
           go_returns;exact⟨rfl,C.o⟩
          ·have a4:(b.toList== [49])=false:=by rw[beq_eq_false_iff_ne];exact M
           have aE:=lH M;have aq:=tJ F.o O.o U.o a1.o a5.o (by rw[<- R.o, <- ByteArray.toList_eq];exact M);obtain⟨x,y,a2,a3,ar,au,ad⟩:=aq;have an:a=txt x:=lJ (by rw[Y.o];exact a2);have ao:b=txt y:=lJ (by rw[R.o];exact a3);have ai:Hid (gu x):=lH (nk (by rw[<- a2, <- Y.o,gz];have:=a0.o.1;omega));have aj:Hid (gu y):=lH (nk (by rw[<- a3, <- R.o,gz];have:=a0.o.2;omega));have a6:=lH ad;clear M a2 a3 ar au ad;subst an;subst ao;go_wp2_with fail
           clear aa a4;refine(pF x y _ ai.o aj.o).mono ?_;rintro e w3 ⟨rfl,a9⟩;replace C:=bT C a9;clear a9;by_cases W:Nat.gcd x.natAbs y.natAbs=1
           ·rw[W];obtain⟨T,E⟩:=eX (txt ((1:Nat):Int));rw[<- E];have Z:T.toList= [49]:=by rw[E,ByteArray.toList_eq,jS];exact mY
            have a7:(T.toList== [49])=true:=by rw[Z];rfl
            have a8:(T.toList != [49])=false:=by rw[Z];rfl
            have t:r=0:=by rw[a6.o,if_pos W]
            clear E;subst t;go_wp2_with fail
            go_returns;exact⟨rfl,C.o⟩
           ·have t:r=3:=by rw[a6.o,if_neg W]
            obtain⟨T,E⟩:=eX (txt ((Nat.gcd x.natAbs y.natAbs:Nat):Int));rw[<- E];have Z:T.toList≠ [49]:=by rw[E];exact pG W
            have a7:(T.toList== [49])=false:=by rw[beq_eq_false_iff_ne];exact Z
            have a8:(T.toList != [49])=true:=by rw[bne,a7];rfl
            clear E W;subst t;go_wp2_with fail
            go_returns;exact⟨rfl,C.o⟩
     ·have t:r=19:=by rw[F.o,iq,if_neg O.o,if_pos HZ.o.symm]
      subst t;go_wp2_with fail
      go_returns;exact⟨rfl,C.o⟩
end
section
open Go.RowKit
open Lp (RL upd eu)
def vL(B:Nat)(w':World)(n:Nat)(s:Nat -> ByteArray)(e:Ending):Prop:=
 (∃j,j<n /\ (∀i,i<j -> fK (s i).data.toList=0) /\ fK (s j).data.toList≠0 /\ e= .returned (.tuple #[.slice none 0 0, .int .i64 (fK (s j).data.toList:Nat)])) \/
 ∃g f,B <= g /\ e= .returned (.tuple #[.slice (some ⟨g,0,none⟩) n n, .int .i64 0]) /\ RB w' g n f /\ ∀j,j<n -> (s j).data.toList=fA (f j)
set_option maxRecDepth 100000 in
set_option maxHeartbeats 3200000 in
theorem tK(s:ByteArray)(w:World)(hs:s.size <= 65536)(hg:iG w):
  Calls prog 84 #[.string s] w fun e w'=>zu w' s.data.toList e /\ Below w.heap.size w w':=by
 have a4:=lH hg;clear hg;obtain⟨W,hW,r,M⟩:=eN1 w [.bool false, .slice none 0 0, .bool false, .slice none 0 0] 105;go_enter func84,ntmps84;go_wp2_with fail
 rw[<- hW];clear hW;refine(FY s _ hs (a4.o.below M.o)).mono ?_;rintro e w1 ⟨R,a0⟩;replace r:=rW r a0;replace M:=bT M a0;clear a0
 rcases R with ⟨h0,rfl⟩ | ⟨q,v,h0,hl,rfl,t⟩
 ·have V:=lH h0;clear h0;obtain⟨cc,a1⟩:=eX (fK s.data.toList);rw[<- a1];have a3:=lH a1;clear a1;obtain⟨C,Y,E,Z,F,f2,G,f3⟩:=aF4 r.o;have kl:=r.o.lt;go_wp2_with fail
  clear kl C Y E Z F f2 G f3;have h:=r.o.jh (x:= .bool false) (y:= .slice none 0 0) (z:= .bool false) (u:= .slice none 0 0);have R:=iY r.o dC (Nat.le_refl _) M.o (eO.jU _);obtain⟨t,O⟩:=R;obtain⟨wE,a2⟩:=eX (((((w1.setCell ⟨w.heap.size,0,none⟩ (.bool false)).setCell ⟨w.heap.size,1,none⟩ (.slice none 0 0)).setCell ⟨w.heap.size,2,none⟩ (.bool false)).setCell ⟨w.heap.size,3,none⟩ (.slice none 0 0)));rw[<- a2] at h O t ⊢;have C:=h.at_ 0 rfl;have E:=h.at_ 1 rfl;have F:=h.at_ 2 rfl;have G:=h.at_ 3 rfl;refine bodyPost_ret (v:= .tuple #[.agg #[.bool false, .slice none 0 0, .bool false, .slice none 0 0], .int .i64 (cc:Nat)]) (by simp[results,results84,go_sem,C,E,F,G]) rfl ?_;exact⟨.inl ⟨V.o,by rw[a3.o]⟩,O⟩
 ·obtain⟨sv,T,lv,X,tv,U,mv,dv,rfl⟩:=t.shape;have V:=lH h0;have HL:=lH hl;have HV:=lH t;clear h0 hl t;obtain⟨C,Y,E,Z,F,f2,G,f3⟩:=aF4 r.o;have kl:=r.o.lt;go_wp2_with fail
  clear kl C Y E Z F f2 G f3;have h:=r.o.jh (x:= .bool sv) (y:= .slice T lv X) (z:= .bool tv) (u:= .slice U mv dv);have R:=iY r.o dC (Nat.le_refl _) M.o HV.o;obtain⟨t,O⟩:=R;obtain⟨wE,a2⟩:=eX (((((w1.setCell ⟨w.heap.size,0,none⟩ (.bool sv)).setCell ⟨w.heap.size,1,none⟩ (.slice T lv X)).setCell ⟨w.heap.size,2,none⟩ (.bool tv)).setCell ⟨w.heap.size,3,none⟩ (.slice U mv dv)));rw[<- a2] at h O t ⊢;have C:=h.at_ 0 rfl;have E:=h.at_ 1 rfl;have F:=h.at_ 2 rfl;have G:=h.at_ 3 rfl;refine bodyPost_ret (v:= .tuple #[.agg #[.bool sv, .slice T lv X, .bool tv, .slice U mv dv], .int .i64 0]) (by simp[results,results84,go_sem,C,E,F,G]) rfl ?_;exact⟨.inr ⟨q,_,V.o,HL.o,rfl,t⟩,O⟩
set_option maxRecDepth 100000 in
set_option maxHeartbeats 6400000 in
theorem GA(va:Value)(n:Nat)(s:Nat -> ByteArray)(w:World)(O:TS w va n s)(hn:n <= 1000000000)(hs:∀j,j<n -> (s j).size <= 65536)(t:iG w):
  Calls prog 118 #[va, .func (.func 84) #[] #[]] w fun e w'=>vL w.heap.size w' n s e /\ Below w.heap.size w w':=by
 obtain⟨A,c,rfl,aj,al⟩:=O.shape;have HA:=lH O;have HS:=lH hs;have ac:=lH t;clear O hs t;go_enter func118,ntmps118
 go_wp2_with (at_make;refine pu _ rfl (.tmp 11) (.tmp 11) rfl _ _ n rfl rfl rfl rfl oM ?_)
 intro w1 a1 X ag;have V:=lH a1;have W:=lH X;clear a1 X ag;go_wp2_with fail
 go_loopw [15] (fun U wr=>∃ (k:Nat) (f:Nat -> Rat),k <= n /\ U= .int .i64 k /\ Hid (∀j,j<k -> (s j).data.toList=fA (f j)) /\ RB wr w.heap.size n f /\ Below w.heap.size w wr)
  (fun U _=>n-(intOf U).toNat)
 case atStart=>exact⟨0,_,Nat.zero_le _,rfl,lH (fun j hj=>absurd hj oM),V.o,W.o⟩
 case round=>
  clear V W;obtain⟨k,f,hk,rfl,hf,Y,Z⟩:=hrel;have G:=lH hf.o;have h:=lH Y;have r:=lH Z;clear hf Y Z;by_cases am:((k:Nat):Int)<(n:Nat)
  ·have C:k<n:=oM
   obtain⟨gA,oA,rfl,a0⟩:=HA.o.at_ oM;have kc:=cell_below r.o (a0 k C);have ai:=eG kc;clear a0;go_wp2_with fail
   clear kc ai;refine(tK (s k) _ (HS.o k C) (ac.o.below r.o)).mono ?_;rintro e w2 ⟨hr,R⟩;replace h:=lH (h.o.below R);replace r:=bT r R;clear R;obtain⟨sy,Ay,ly,cy,ty,By,my,dy,ad,ah⟩:=h.o.fO C;obtain⟨a6,a7,a8,a9⟩:=ad;have aa:=h.o.lt;have a2:=h.o.free (k*4);have a3:=h.o.free (k*4+1);have a4:=h.o.free (k*4+2);have a5:=h.o.free (k*4+3);clear ah
   rcases hr with ⟨h0,rfl⟩ | ⟨q,v,h0,hl,rfl,T⟩
   ·have H0:=lH h0;obtain⟨M,E⟩:=eX (fK (s k).data.toList);rw[<- E];have ae:M≠0:=by rw[E];exact h0
    have af:¬((M:Nat):Int)=0:=oM
    have ak:(((M:Nat):Int) !=0)=true:=by simpa using af
    have ab:=lH E;clear E h0 ae;have t:=il w2 w.heap.size (k*4) (k*4+1) (k*4+2) (k*4+3) (.bool false) (.slice none 0 0) (.bool false) (.slice none 0 0);have F:=lH (r.o.grown t r.o.size (by first | (simp;done) | (simp;omega)));clear t;go_wp2_with fail
    clear a6 a7 a8 a9 aa a2 a3 a4 a5;go_returns;exact⟨.inl ⟨k,C,fun i hi=>by rw[G.o i hi];exact mP _,H0.o,by rw[ab.o];rfl⟩,F.o⟩
   ·obtain⟨sv,Av,lv,cv,tv,Bv,mv,dv,rfl⟩:=T.shape;have HL:=lH hl;have BN:=lH (h.o.set C T);have t:=il w2 w.heap.size (k*4) (k*4+1) (k*4+2) (k*4+3) (.bool sv) (.slice Av lv cv) (.bool tv) (.slice Bv mv dv);have F:=lH (r.o.grown t r.o.size (by first | (simp;done) | (simp;omega)));clear t h0 hl T;go_wp2_with fail
    clear a6 a7 a8 a9 aa a2 a3 a4 a5;go_roundw
    case rel=>
     refine⟨k+1,upd f k q,by omega,by simp,lH (fun j hj=> ?_),BN.o,F.o⟩;by_cases e:j=k
     ·subst e;rw[Lp.upd_same];exact HL.o
     ·rw[Lp.eT _ _ e];exact G.o j oM
    case measure=>exact mZ
  ·obtain rfl:n=k:=oM
   go_wp2_with fail
   go_returns;exact⟨.inr ⟨_,f,Nat.le_refl _,rfl,h.o,G.o⟩,r.o⟩
set_option maxRecDepth 100000 in
set_option maxHeartbeats 3200000 in
theorem tL(E:Value)(n:Nat)(s:Nat -> ByteArray)(w:World)(G:TS w E n s)(W:n <= 1000000000)(R:∀j,j<n -> (s j).size <= 65536)(O:iG w):
  Calls prog 82 #[E] w fun e w'=>vL w.heap.size w' n s e /\ Below w.heap.size w w':=by
 have T:=lH (GA E n s w G W R O);clear G R O;go_enter func82,ntmps82;go_wp2_with fail
 refine T.o.mono ?_;rintro e Z ⟨X,M⟩;have F:=lH M;clear M
 rcases X with ⟨j,V,h1,h,rfl⟩ | ⟨g,f,h0,rfl,h1,h⟩
 ·have r:=lH h1;have t:=lH h;obtain⟨Y,C⟩:=eX (fK (s j).data.toList);rw[<- C];have U:=lH C;clear C h1 h;go_wp2_with fail
  go_returns;exact⟨.inl ⟨j,V,r.o,t.o,by rw[<- U.o];rfl⟩,F.o⟩
 ·have r:=lH h1;have t:=lH h;clear h1 h;go_wp2_with fail
  go_returns;exact⟨.inr ⟨g,f,h0,rfl,r.o,t.o⟩,F.o⟩
end
section
open Go.RowKit
open Lp (RL upd eu)
def fo:Nat -> (Nat -> Nat) -> Nat
 | 0,_=>0
 | n+1,e=>if fo n e≠0 then fo n e else e n
theorem kF{n:Nat}{e:Nat -> Nat}:fo n e=0↔∀j,j<n -> e j=0:=by
 induction n with
 | zero=>exact⟨fun _ j t=>absurd t oM,fun _=>rfl⟩
 | succ n C=>
  show(if fo n e≠0 then fo n e else e n)=0↔_;by_cases h:fo n e=0
  ·rw[if_neg (by simpa using h)];exact⟨fun r j t=>by by_cases E:j=n;subst E;exact r;exact C.1 h j oM,fun r=>r n oM⟩
  ·rw[if_pos h];exact⟨fun r=>absurd r h,fun r=>absurd (C.2 fun j t=>r j oM) h⟩
theorem pI{n j:Nat}{e:Nat -> Nat}(E:j<n)(h1:∀i,i<j -> e i=0)(t:e j≠0):fo n e=e j:=by
 induction n with
 | zero=>omega
 | succ n C=>
  show(if fo n e≠0 then fo n e else e n)=_;by_cases h:j=n
  ·subst h;rw[if_neg (by simpa using kF.2 h1)]
  ·have r:=C oM;rw[if_pos (by rw[r];exact t),r]
def sE(s:ByteArray):Nat:=fK s.data.toList
theorem tN{B:Nat}{w:World}{n:Nat}{s:Nat -> ByteArray}{e:Ending}(h:vL B w n s e):
  (fo n (fun j=>sE (s j))≠0 /\ e= .returned (.tuple #[.slice none 0 0, .int .i64 (fo n (fun j=>sE (s j)):Nat)])) \/
  (fo n (fun j=>sE (s j))=0 /\ ∃g f,B <= g /\ e= .returned (.tuple #[.slice (some ⟨g,0,none⟩) n n, .int .i64 0]) /\ RB w g n f /\ ∀j,j<n -> (s j).data.toList=fA (f j)):=by
 rcases h with ⟨j,t,h1,C,r⟩ | ⟨g,f,h0,r,G,F⟩
 ·have E:=pI (e:=fun j=>sE (s j)) t h1 C;exact .inl ⟨by rw[E];exact C,by rw[E];exact r⟩
 ·exact .inr ⟨kF.2 fun j t=>by show fK _=0;rw[F j t];exact mP _,g,f,h0,r,G,F⟩
def iw(n:Nat)(t:Nat -> ByteArray)(b:ByteArray):Nat:=if fo n (fun j=>sE (t j))≠0 then fo n (fun j=>sE (t j)) else sE b
def fD(n m:Nat)(k:Nat -> Nat)(o:Nat -> ByteArray)(t:Nat -> Nat -> ByteArray)(b:Nat -> ByteArray):Nat:=
 if 96<n \/ 256<m then 6 else if ¬(∀i,i<m -> k i=n) then 13 else
  if fo n (fun j=>sE (o j))≠0 then fo n (fun j=>sE (o j)) else fo m (fun i=>iw n (t i) (b i))
structure jk (n m:Nat) (o:Nat -> ByteArray) (t:Nat -> Nat -> ByteArray) (b:Nat -> ByteArray) (A:Nat -> Nat -> Rat) (bq c:Nat -> Rat):Prop where
 obj:∀j,j<n -> (o j).data.toList=fA (c j)
 rows:∀i,i<m -> ∀j,j<n -> (t i j).data.toList=fA (A i j)
 bounds:∀i,i<m -> (b i).data.toList=fA (bq i)
def RowsIn(w:World)(v:Value)(m:Nat):Prop:=m=0 \/ ∃g c cs,v= .slice (some ⟨g,0,none⟩) m c /\ Row w g 95 cs
def o9(w':World)(n m:Nat)(k:Nat -> Nat)(o:Nat -> ByteArray)(t:Nat -> Nat -> ByteArray)(b:Nat -> ByteArray)(e:Ending):Prop:=
 (fD n m k o t b≠0 /\ e= .returned (.tuple #[.agg #[.slice none 0 0, .slice none 0 0, .slice none 0 0], .int .i64 (fD n m k o t b:Nat)])) \/
 (fD n m k o t b=0 /\ ∃AC AR AD cC cR cD A bq c,e= .returned (.tuple #[.agg #[.slice AC n cC, .slice AR m cR, .slice AD m cD], .int .i64 0]) /\
  eZ w' (.slice AC n cC) n c /\ iD w' (.slice AR m cR) m n A /\ eZ w' (.slice AD m cD) m bq /\ jk n m o t b A bq c /\ RowsIn w' (.slice AR m cR) m)
end
section
open Go.RowKit Go.Lib
def GD:Go.Shelf.Ren:=⟨fun | 41=>29 | n=>n,fun | 22=>22 | 23=>30 | n=>n,fun | n=>n⟩
theorem zU:Go.Proofs.SlLaysE0.n41 prog GD:= {
 mixed:=by kernel_rfl
 f41:=⟨Tryz.f29.name,by decide,func29.trans (congrArg some (by kernel_rfl))⟩
 t4:=underlying4
 a4:=Tryz.isAgg4
 z4:=Tryz.sizeOf4
 v4:=Tryz.zeroValue4
 t22:=underlying22
 a22:=Tryz.isAgg22
 z22:=Tryz.sizeOf22
 v22:=Tryz.zeroValue22}
theorem qW:(prog.info? 30).map (fun i=>(i.zero,i.size,i.bytes))=some (some (.string ⟨#[]⟩),1,16):=by kernel_rfl
theorem GG(b t n c:Nat)(r:List Value)(w:World)(O:r.length=n)(R:n <= 1000000000)(E:∀j u,r[j]? =some u -> w.cell? ⟨b,t+j,none⟩=some u)(h1:∀u ∈ r,u.oneCell'=true):
  Calls prog 29 #[.slice (some ⟨b,t,none⟩) n c] w fun e w'=>∃v',e= .returned v' /\ w'.ownsRow w.heap.size 30 1 v' n r /\ v'≠ .slice none 0 0 /\ Below w.heap.size w w':=by
 obtain⟨i,F,h⟩:=Option.map_eq_some_iff.1 qW;simp only[Prod.mk.injEq] at h;obtain⟨M,G,C⟩:=h;exact AnyE.slices_Clone zU i _ 1 16 F M G C rfl (by decide) Tryz.sizeOf30 b t n c r w (by omega) (by unfold maxLen;omega) (by omega) E h1
theorem GH(n c:Nat)(w:World):Calls prog 29 #[.slice none n c] w fun e w'=>e= .returned (.slice none 0 0) /\ w'=w:=AnyE.slices_Clone_nil zU n c w
def GI:Go.Shelf.Ren:=⟨fun | 33=>47 | n=>n,fun | 22=>22 | 23=>30 | n=>n,fun | n=>n⟩
theorem GJ:Go.Proofs.SlLaysE.n33 prog GI:= {
 mixed:=by kernel_rfl
 f33:=⟨Tryz.f47.name,by decide,func47.trans (congrArg some (by kernel_rfl))⟩
 t0:=Tryz.underlying0
 a0:=Tryz.isAgg0
 z0:=Tryz.sizeOf0
 v0:=Tryz.zeroValue0
 t3:=underlying3
 a3:=Tryz.isAgg3
 z3:=Tryz.sizeOf3
 v3:=Tryz.zeroValue3
 t4:=underlying4
 a4:=Tryz.isAgg4
 z4:=Tryz.sizeOf4
 v4:=Tryz.zeroValue4
 t22:=underlying22
 a22:=Tryz.isAgg22
 z22:=Tryz.sizeOf22
 v22:=Tryz.zeroValue22
 a23:=Tryz.isAgg30
 z23:=Tryz.sizeOf30}
theorem GK(r t n c b2 C m d:Nat)(xs h:List ByteArray)(w:World)(O:n <= xs.length)(R:m <= h.length)(E:n <= 9223372036854775807)(F:m <= 9223372036854775807)(G:∀j,j<xs.length -> w.cell? ⟨r,t+j,none⟩=some (.string xs[j]!))(M:∀j,j<h.length -> w.cell? ⟨b2,C+j,none⟩=some (.string h[j]!)):
  Calls prog 47 #[.slice (some ⟨r,t,none⟩) n c, .slice (some ⟨b2,C,none⟩) m d] w fun e w'=>e= .returned (.bool (Lib.allEq (fun x y=>x.toList==y.toList) (xs.take n) (h.take m))) /\ ∃q,w'=w.drewN q:=
 AnyE.slices_Equal GJ Value.string _ (NeqAt.string _ _) r t n c b2 C m d xs h w O R E F G M
def GL:Go.Shelf.Ren:=⟨fun | 6=>117 | 8=>80 | n=>n,fun | 22=>22 | 23=>30 | 25=>125 | n=>n,fun | n=>n⟩
theorem zV:Go.Proofs.SlLaysH.n8 prog GL:= {
 mixed:=by kernel_rfl
 f6:=⟨Tryz.f117.name,by decide,func117.trans (congrArg some (by kernel_rfl))⟩
 f8:=⟨Tryz.f80.name,by decide,func80.trans (congrArg some (by kernel_rfl))⟩
 t0:=Tryz.underlying0
 a0:=Tryz.isAgg0
 z0:=Tryz.sizeOf0
 v0:=Tryz.zeroValue0
 t3:=underlying3
 a3:=Tryz.isAgg3
 z3:=Tryz.sizeOf3
 v3:=Tryz.zeroValue3
 t4:=underlying4
 a4:=Tryz.isAgg4
 z4:=Tryz.sizeOf4
 v4:=Tryz.zeroValue4
 t22:=underlying22
 a22:=Tryz.isAgg22
 z22:=Tryz.sizeOf22
 v22:=Tryz.zeroValue22
 a23:=Tryz.isAgg30
 z23:=Tryz.sizeOf30
 t25:=underlying125
 a25:=Tryz.isAgg125
 z25:=Tryz.sizeOf125
 v25:=Tryz.zeroValue125}
end
section
open Go.RowKit
open Lp (RL upd eu)
theorem vM(s:ByteArray)(w:World)(r:s.size <= 65536):Calls prog 31 #[.string s] w fun e w'=>e= .returned (.int .i64 (sE s:Nat)) /\ Below w.heap.size w w':=by
 have C:=lH (Gz s w r);clear r;go_enter func31,ntmps31;go_wp2_with fail
 refine C.o.mono ?_;rintro e E ⟨rfl,h⟩;have t:=lH h;clear h;go_wp2_with fail
 go_returns;exact⟨rfl,t.o⟩
set_option maxHeartbeats 1600000 in
theorem qX(va:Value)(n:Nat)(s:Nat -> ByteArray)(w:World)(F:TS w va n s)(hn:n <= 1000000000)(Y:∀j,j<n -> (s j).size <= 65536):
  Calls prog 39 #[va] w fun e w'=>e= .returned (.int .i64 (fo n (fun j=>sE (s j)):Nat)) /\ Below w.heap.size w w':=by
 obtain⟨A,c,rfl,_,_⟩:=F.shape;have HA:=lH F;have HS:=lH Y;have a9:((n:Nat):Int) <= 1000000000:=oM
 clear F Y hn;obtain⟨r,R⟩:=eX (fo n (fun j=>sE (s j)));rw[<- R];have U:=lH R;clear R;go_enter func39,ntmps39;go_wp2_with fail
 go_loopw [3] (fun T wr=>∃k:Nat,((k:Nat):Int) <= ((n:Nat):Int) /\ T= .int .i64 k /\ Hid (∀j,j<k -> sE (s j)=0) /\ Below w.heap.size w wr)
  (fun T _=>n-(intOf T).toNat)
 case atStart=>exact⟨0,by omega,rfl,lH (fun j M=>absurd M oM),Below.refl _ _⟩
 case round=>
  obtain⟨k,hk,rfl,Z,V⟩:=hrel;have E:=lH Z.o;have h:=lH V;clear Z V;by_cases a8:((k:Nat):Int)<((n:Nat):Int)
  ·have O:k<n:=oM
   obtain⟨gA,oA,rfl,X⟩:=HA.o.at_ oM;have kc:=cell_below h.o (X k O);have a5:=eG kc;clear X;go_wp2_with fail
   clear kc a5;refine(vM (s k) _ (HS.o k O)).mono ?_;rintro e w2 ⟨rfl,W⟩;replace h:=bT h W;clear W;obtain⟨t,G⟩:=eX (sE (s k));rw[<- G];have C:=lH G;clear G;by_cases h0:t=0
   ·have a0:Hid (sE (s k)=0):=lH (by rw[<- C.o];exact h0);subst h0;go_wp2_with fail
    go_roundw
    case rel=>exact⟨k+1,by omega,by go_num,lH (fun j M=>by by_cases e:j=k;subst e;exact a0.o;exact E.o j oM),h.o⟩
    case measure=>simp[intOf];omega
   ·have a4:r=t:=by rw[U.o,C.o];exact pI O (fun i hi=>E.o i hi) (by rw[<- C.o];exact h0)
    have a1:((t:Nat):Int)≠0:=oM
    have a6:(((t:Nat):Int) !=0)=true:=by simpa using a1
    have a7:(t !=0)=true:=by simpa using h0
    clear h0;subst a4;go_wp2_with fail
    go_returns;exact⟨rfl,h.o⟩
  ·have a2:k=n:=oM
   have a3:r=0:=by rw[U.o,kF];intro j M;exact E.o j oM
   clear a2;subst a3;go_wp2_with fail
   go_returns;exact⟨rfl,h.o⟩
def qY(n:Nat)(s:Nat -> ByteArray):Bool:=((List.range n).map s).any (fun x=>decide (12<x.size))
theorem zW{n:Nat}{s:Nat -> ByteArray}:qY n s=false↔∀j,j<n -> (s j).size <= 12:=by
 unfold qY;rw[List.any_eq_false];constructor
 ·intro h j r;have:=h (s j) (List.mem_map.2 ⟨j,List.mem_range.2 r,rfl⟩);simp at this;exact this
 ·intro h x t;obtain⟨j,r,rfl⟩:=List.mem_map.1 t;have:=h j (List.mem_range.1 r);simp;exact this
theorem GM(x:ByteArray)(w:World):Calls prog 81 #[.string x] w fun e w'=>e= .returned (.bool (decide (12<x.size))) /\ ∃q,w'=w.drewN q:=by
 go_enter func81,ntmps81;go_wp2_with fail
 go_returns;exact⟨by show Ending.returned (Value.bool (decide ((12:Int)<((x.size:Nat):Int))))=_;rw[show decide ((12:Int)<((x.size:Nat):Int))=decide (12<x.size) from decide_eq_decide.2 oM],0,rfl⟩
theorem GQ(t:Value)(n:Nat)(s:Nat -> ByteArray)(w:World)(h:TS w t n s)(F:n <= 1000000000):
  Calls prog 80 #[t, .func (.func 81) #[] #[]] w fun e w'=>e= .returned (.bool (qY n s)) /\ Below w.heap.size w w':=by
 obtain⟨A,c,rfl,_,_⟩:=h.shape
 rcases Nat.eq_zero_or_pos n with h0 | h0
 ·subst h0;refine(AnyE.slices_ContainsFunc_empty zV A c _ w).mono ?_;rintro e w' ⟨rfl,rfl⟩;exact⟨rfl,Below.refl _ _⟩
 ·obtain⟨g,o,rfl,C⟩:=h.at_ h0;refine(AnyE.slices_ContainsFunc zV Value.string (fun x=>decide (12<x.size)) 81 #[] (enters_of func81 rfl rfl) g o n c ((List.range n).map s) w (fun W x _=>GM x W) (by simp) oM (fun j E=> ?_)).mono ?_
  ·have r:j<n:=by simpa using E
   rw[C j r];simp[r]
  ·rintro e w' ⟨rfl,q,rfl⟩;refine⟨?_,below_drewN _ _ _⟩;unfold qY;rw[List.take_of_length_le (by simp)]
def TLs(w:World)(v:Value)(q:Nat)(k:Nat -> Nat)(s:Nat -> Nat -> ByteArray):Prop:=
 ∃A c,v= .slice A q c /\ q <= c /\ c <= maxLen /\ (q=0 \/ ∃g o,A=some ⟨g,o,none⟩ /\ ∀i,i<q -> ∃u,w.cell? ⟨g,o+i,none⟩=some u /\ TS w u (k i) (s i))
theorem TLs.at_{w:World}{A:Option Addr}{c q:Nat}{k:Nat -> Nat}{s:Nat -> Nat -> ByteArray}(h:TLs w (.slice A q c) q k s)(C:0<q):∃g o,A=some ⟨g,o,none⟩ /\ ∀i,i<q -> ∃u,w.cell? ⟨g,o+i,none⟩=some u /\ TS w u (k i) (s i):=by
 obtain⟨A',c',t,_,_,r⟩:=h;simp only[Value.slice.injEq,true_and] at t;obtain⟨rfl,rfl⟩:=t
 rcases r with r | r
 ·omega
 ·exact r
theorem TLs.below{w w':World}{v:Value}{q:Nat}{k:Nat -> Nat}{s:Nat -> Nat -> ByteArray}(h:TLs w v q k s)(r:Below w.heap.size w w'):TLs w' v q k s:=by
 obtain⟨A,c,R,h1,E,F⟩:=h;refine⟨A,c,R,h1,E,F.imp id fun⟨g,o,G,O⟩=>⟨g,o,G,fun i M=> ?_⟩⟩;obtain⟨u,t,C⟩:=O i M;exact⟨u,cell_below r t,C.below r⟩
def og(most q:Nat)(k:Nat -> Nat)(s:Nat -> Nat -> ByteArray):Prop:=∀i,i<q -> k i <= most /\ ∀j,j<k i -> (s i j).size <= 12
set_option maxHeartbeats 1600000 in
theorem vN(r:Nat)(v:Value)(q:Nat)(k:Nat -> Nat)(s:Nat -> Nat -> ByteArray)(w:World)(h:TLs w v q k s)(hm:r <= 1000)(hq:q <= 1000000000):
  Calls prog 43 #[.int .i64 r,v] w fun e w'=>((og r q k s /\ e= .returned (.bool true)) \/ (¬og r q k s /\ e= .returned (.bool false))) /\ Below w.heap.size w w':=by
 obtain⟨A,c,rfl,_⟩:∃A c,v= .slice A q c /\ True:=by obtain⟨A,c,hv,_⟩:=h;exact⟨A,c,hv,trivial⟩
 have HL:=lH h;have HM:=lH hm;clear h hm;go_enter func43,ntmps43;go_wp2_with fail
 go_loopw [9] (fun V wr=>∃p:Nat,((p:Nat):Int) <= ((q:Nat):Int) /\ V= .int .i64 p /\ Hid (og r p k s) /\ Below w.heap.size w wr)
  (fun V _=>q-(intOf V).toNat)
 case atStart=>exact⟨0,by omega,rfl,lH (fun i hi=>absurd hi oM),Below.refl _ _⟩
 case round=>
  obtain⟨p,hp,rfl,hz,hb⟩:=hrel;have HZ:=lH hz.o;have C:=lH hb;clear hz hb;by_cases a7:((p:Nat):Int)<((q:Nat):Int)
  ·have R:p<q:=oM
   obtain⟨gA,oA,rfl,a1⟩:=HL.o.at_ oM;obtain⟨u,hu,U⟩:=a1 p R;obtain⟨X,x,rfl,_,_⟩:=U.shape;have Z:=lH (U.below C.o);have kc:=cell_below C.o hu;have a6:=eG kc;obtain⟨E,M⟩:=eX (k p);rw[<- M] at kc Z;have F:=lH M;clear a1 U hu M;by_cases O:r<E
   ·have a2:((r:Nat):Int)<((E:Nat):Int):=oM
    have G:Hid (¬og r q k s):=lH (fun h=>by have:=(h p R).1;rw[<- F.o] at this;omega);clear O;go_wp2_with fail
    go_returns;exact⟨.inr ⟨G.o,rfl⟩,C.o⟩
   ·have a2:((E:Nat):Int) <= ((r:Nat):Int):=oM
    have a4:decide (((r:Nat):Int)<((E:Nat):Int))=false:=decide_eq_false oM;have a5:decide (r<E)=false:=decide_eq_false O;have W:Hid (E <= r):=lH oM;clear O;go_wp2_with fail
    clear kc a6 a2 a4 a5;refine(GQ _ E (s p) _ Z.o (by have:=W.o;have:=HM.o;omega)).mono ?_;rintro e w2 ⟨rfl,a0⟩;replace C:=bT C a0;clear a0;obtain⟨t,T⟩:=eX (qY E (s p));rw[<- T];have Y:=lH T;clear T;cases t
    ·have a3:=lH (zW.1 Y.o.symm);go_wp2_with fail
     go_roundw
     case rel=>exact⟨p+1,by omega,by go_num,lH (fun i hi=>by by_cases e:i=p;subst e;rw[<- F.o];exact⟨W.o,a3.o⟩;exact HZ.o i oM),C.o⟩
     case measure=>simp[intOf];omega
    ·have G:Hid (¬og r q k s):=lH (fun h=>by have h2:=(h p R).2;rw[<- F.o] at h2;have:=zW.2 h2;rw[<- Y.o] at this;cases this);go_wp2_with fail
     go_returns;exact⟨.inr ⟨G.o,rfl⟩,C.o⟩
  ·obtain rfl:p=q:=oM
   go_wp2_with fail
   go_returns;exact⟨.inl ⟨HZ.o,rfl⟩,C.o⟩
end
end Go.Proofs.YtdefghfjhgmpfaaGreatDoor
