/- Parts of this proof: QRef Reads ParseM ShelfL ShortL. -/
import Derived.Test.YtdefghfjhgmpfaaGreatDoorMAT
import Derived.Test.YtdefghfjhgmpfaaGreatDoorMAQ
import Derived.Test.YtdefghfjhgmpfaaGreatDoorProg
import Derived.Shelf.SlicesE.Clone
import Derived.Shelf.SlicesE.Equal
import Derived.Shelf.SlicesE.IndexFunc
namespace Go.Proofs.YtdefghfjhgmpfaaGreatDoor
open Tryz
section
open Go.RowKit
theorem zT{a:ByteArray}(h:¬0<a.size):a.data.toList= []:=List.eq_nil_of_length_eq_zero (by rw[gz];omega)
theorem qV{l:List UInt8}(h:dgs l=true):l≠ [] /\ ∀c ∈ l,gm c=true:=by
 unfold dgs at h;rw[Bool.and_eq_true,decide_eq_true_iff] at h;exact⟨h.1,List.all_eq_true.1 h.2⟩
theorem mY:Lib.itoa 1= [49]:=by decide+kernel
theorem pG{g:Nat}(h:g≠1):(txt ((g:Nat):Int)).toList≠ [49]:=by
 rw[ByteArray.toList_eq,jS];intro e;have t:Lib.itoa ((g:Nat):Int)=Lib.itoa 1:=by rw[e,mY]
 have:=qj t;omega
theorem nk{a:Int}(h:(Lib.itoa a).length <= 65536):gu a:=by
 unfold gu;have h1:=xD a.natAbs
 have t:(Lib.decDigits a.natAbs).length <= (Lib.itoa a).length:=by
  by_cases h:a<0
  ·rw[itoa_neg h];simp
  ·rw[iW h];exact Nat.le_refl _
 omega
theorem tJ{l:List UInt8}{r:Nat}(hr:r=fK l)(h1:¬(dgs (body (eH l))=false \/ dgs (fQ l)=false))(h2:¬(fQ l).all (· ==48)=true)
  (E:¬((1<(body (eH l)).length /\ (body (eH l)).head? =some 48) \/ eH l= [45,48] \/ (fQ l).head? =some 48)) (hc:fG l≠ []) (X:fQ l≠ [49]):
  ∃x y:Int,eH l=Lib.itoa x /\ fQ l=Lib.itoa y /\ x.natAbs=dv (body (eH l)) /\ y.natAbs=dv (fQ l) /\ r=if Nat.gcd x.natAbs y.natAbs=1 then 0 else 3:=by
 have M:dgs (body (eH l))=true:=by simpa using fun h=>h1 (.inl h)
 have hB:dgs (fQ l)=true:=by simpa using fun h=>h1 (.inr h)
 have a0:chk (eH l)=0:=by
  rcases nN M with h | h
  ·exact h
  ·exfalso
   have h4:fK (eH l++47:: [50])=3:=by
    obtain⟨T,G⟩:=rO (b:=[50]) (xI l);have U:fJ (eH l++47:: [50])= [50]:=by unfold fJ;rw[G];rfl
    unfold fK;rw[T,U,G,if_neg (by simp),if_neg (by rintro(e | e | e);exact qx M e;cases e;revert e;decide),if_neg dC,if_pos (.inl h)]
   obtain⟨T,G⟩:=rO (b:=[50]) (xI l);have U:fQ (eH l++47:: [50])= [50]:=by unfold fQ fJ;rw[G];rfl
   rw[iq,T,U,if_neg (by rintro(e | e);rw[M] at e;cases e;revert e;decide),if_neg dC] at h4;unfold chk at h;have Y:=oV M;rw[if_neg (fun e=>Y (.inl e)),if_neg (fun e=>Y (.inr e))] at h;split at h
   ·rename_i t
    rcases t.2 with F | F
    ·exact E (.inl ⟨F,t.1⟩)
    ·by_cases R:1<(body (eH l)).length
     ·exact E (.inl ⟨R,t.1⟩)
     ·refine E (.inr (.inl ?_));obtain⟨a,a1⟩:=eX (eH l);rw[<- a1] at t F R ⊢;cases a with
      | nil=>cases F
      | cons c a=>
       obtain rfl:c=45:=by simpa using F
       have X:body (45::a)=a:=by unfold body;simp
       rw[X] at t R;cases a with
       | nil=>cases t.1
       | cons d a=>
        obtain rfl:d=48:=by simpa using t.1
        have:a= []:=List.eq_nil_of_length_eq_zero (by simp only[List.length_cons] at R;omega);rw[this]
   ·omega
 obtain⟨x,hx,Z,_⟩:=nK a0;obtain⟨a4,a5⟩:=qV hB;have a3:(fQ l).head? ≠some 48:=fun e=>E (.inr (.inr e))
 have a2:=rH (fQ l) a4 a5 (fun e=>absurd e a3);refine⟨x,(dv (fQ l):Nat),hx,?_,?_,by simp,?_⟩
 ·rw[iW oM,Int.natAbs_natCast,a2]
 ·rw[Z,jH]
 ·have a6:x.natAbs=dv (body (eH l)):=by rw[Z,jH]
  rw[hr,iq,if_neg h1,if_neg h2,if_neg E,Int.natAbs_natCast,a6];by_cases O:Nat.gcd (dv (body (eH l))) (dv (fQ l))=1
  ·rw[if_pos O,if_neg (fun e=>e.2.elim X (fun h=>h O))]
  ·rw[if_neg O,if_pos ⟨hc, .inr O⟩]
set_option maxRecDepth 100000 in
set_option maxHeartbeats 6400000 in
theorem Gz(s:ByteArray)(w:World)(hs:s.size <= 65536):Calls prog 70 #[.string s, .int .i64 65536] w fun e w'=>e= .returned (.int .i64 (fK s.data.toList:Nat)) /\ Below w.heap.size w w':=by
 have aN:=lH (zS s w oM);have aB:=lH (fun w=>zB s w oM);obtain⟨l,hl⟩:=eX (s.data.toList);obtain⟨r,hr⟩:=eX (fK l);have aU:l.length=s.size:=by rw[hl,gz]
 rw[<- hl] at aN aB ⊢;rw[<- hr];have G:=lH hr;have af:=lH aU;have b6:=lH hl;have HS:=lH hs;have b3:((s.size:Nat):Int) <= 65536:=oM
 have b2:decide ((65536:Int)<((s.size:Nat):Int))=false:=decide_eq_false oM;have b4:decide (65536<s.size)=false:=decide_eq_false oM;clear hr hl aU hs;go_enter func70,ntmps70;go_wp2_with fail
 clear b3 b2 b4;refine aN.o.mono ?_;rintro e w1 ⟨a,b,rfl,ha,hb,a5⟩;have HA:=lH ha;have U:=lH hb;have E:=lH a5
 have aQ:a.size <= 65536:=by
  rw[<- gz,ha];have h1:=congrArg List.length (jo l);rw[List.length_append,af.o] at h1;have:=HS.o;omega
 have aR:b.size <= 65536:=by
  rw[<- gz,hb];unfold fQ;split
  ·simp
  ·have h1:=congrArg List.length (jo l);rw[List.length_append,af.o] at h1;unfold fJ;rw[List.length_tail];have:=HS.o;omega
 have a1:=lH (And.intro aQ aR);clear ha hb a5 aQ aR aN;by_cases h0:¬0<a.size
 ·have hA0:dgs (body (eH l))=false:=by rw[<- HA.o,zT h0];rfl
  have aV:Hid (dgs a.data.toList=false):=lH (by rw[zT h0];rfl);have aW:decide ((0:Int)<((a.size:Nat):Int))=false:=decide_eq_false oM;have aX:decide (0<a.size)=false:=decide_eq_false oM;have t:r=14:=by rw[G.o,iq,if_pos (.inl hA0)]
  clear hA0 h0;subst t;go_wp2_with fail
  clear aW aX;refine(qQ a _ (by have:=a1.o.1;omega)).mono ?_;rintro e w2 ⟨rfl,rfl⟩;rw[aV.o];go_wp2_with fail
  go_returns;exact⟨rfl,E.o⟩
 ·replace h0:0<a.size:=oM
  have aO:(0:Int)<((a.size:Nat):Int):=oM
  have aS:=nY a 0 h0;have aT:(eH l).head? =some a[0]:=by rw[<- HA.o,aS,List.head?_eq_getElem?,List.getElem?_eq_getElem (by rw[gz];exact h0)]
  obtain⟨x,hx⟩:∃x:Nat,a[0].toNat=x:=⟨_,rfl⟩
  have aP:a[0]=45↔x=45:=by
   rw[<- hx];exact⟨fun h=>by rw[h];rfl,fun h=>UInt8.toNat_inj.1 (by rw[h];rfl)⟩
  have aD:=lH aT;have aC:=lH aP;clear aS aT aP;by_cases aE:x=45
  ·have aw:(a.extract 1 a.size).data.toList=body (eH l):=by
    unfold body;rw[if_pos (by rw[aD.o,aC.o.2 aE]),qm,HA.o,List.take_of_length_le (by rw[<- HA.o,gz];exact Nat.le_refl _),List.drop_one]
   obtain⟨D,hD⟩:∃D,a.extract 1 a.size=D:=⟨_,rfl⟩
   have b1:D.size<a.size:=by rw[<- hD,ByteArray.size_extract];omega
   rw[hD] at aw;have HD:=lH aw;have aG:Hid (D.size <= 65536):=lH (by have:=a1.o.1;omega);have ah:(1:Int) <= ((a.size:Nat):Int):=oM
   have aY:((a.size:Nat):Int) <= 65536:=by have:=a1.o.1;omega
   clear aw b1;subst aE;go_wp2_with fail
   clear aD aC hx aO h0 ah aY hD;refine(qQ D _ (by have:=aG.o;omega)).mono ?_;rintro e w2 ⟨rfl,rfl⟩;obtain⟨p,M⟩:=eX (dgs D.data.toList);rw[<- M];rw[HD.o] at M;have HP:=lH M;clear M;cases p
   ·have t:r=14:=by rw[G.o,iq,if_pos (.inl HP.o.symm)]
    subst t;go_wp2_with fail
    go_returns;exact⟨rfl,E.o⟩
   ·go_wp2_with fail
    refine(qQ b _ (by have:=a1.o.2;omega)).mono ?_;rintro e w2 ⟨rfl,rfl⟩;obtain⟨p,M⟩:=eX (dgs b.data.toList);rw[<- M];rw[U.o] at M;have an:=lH M;clear M;cases p
    ·have t:r=14:=by rw[G.o,iq,if_pos (.inr an.o.symm)]
     subst t;go_wp2_with fail
     go_returns;exact⟨rfl,E.o⟩
    ·have R:Hid (¬(dgs (body (eH l))=false \/ dgs (fQ l)=false)):=lH (by rw[<- HP.o, <- an.o];simp);go_wp2_with fail
     refine(zC b _ (by have:=a1.o.2;omega)).mono ?_;rintro e w2 ⟨rfl,rfl⟩;obtain⟨p,M⟩:=eX (b.data.toList.all (· ==48));rw[<- M];rw[U.o] at M;have HZ:=lH M;clear M;cases p
     ·have X:Hid (¬(fQ l).all (· ==48)=true):=lH (by rw[<- HZ.o];simp)
      have b0:0<D.size:=by
       have h1:=(qV HP.o.symm).1;rw[<- HD.o] at h1;have:=List.length_pos_iff.2 h1;rw[gz] at this;exact this
      have aZ:0<b.size:=by
       have h1:=(qV an.o.symm).1;rw[<- U.o] at h1;have:=List.length_pos_iff.2 h1;rw[gz] at this;exact this
      obtain⟨d,hd,ax⟩:∃x:Nat,D[0].toNat=x /\ Hid ((body (eH l)).head? =some 48↔x=48):=⟨_,rfl,lH (by
       rw[<- HD.o,List.head?_eq_getElem?,List.getElem?_eq_getElem (by rw[gz];assumption), <- nY D 0 (by assumption),Option.some.injEq]
       exact⟨fun h=>by rw[h];rfl,fun h=>UInt8.toNat_inj.1 (by rw[h];rfl)⟩)⟩
      obtain⟨e,he,ag⟩:∃x:Nat,b[0].toNat=x /\ Hid ((fQ l).head? =some 48↔x=48):=⟨_,rfl,lH (by
       rw[<- U.o,List.head?_eq_getElem?,List.getElem?_eq_getElem (by rw[gz];assumption), <- nY b 0 (by assumption),Option.some.injEq]
       exact⟨fun h=>by rw[h];rfl,fun h=>UInt8.toNat_inj.1 (by rw[h];rfl)⟩)⟩
      have az:(0:Int)<((b.size:Nat):Int):=oM
      have aA:(0:Int)<((D.size:Nat):Int):=oM
      have ay:Hid ((body (eH l)).length=D.size):=lH (by rw[<- HD.o,gz]);by_cases h1:1<D.size
      ·have ah:(1:Int)<((D.size:Nat):Int):=oM
       by_cases ai:d=48
       ·have t:r=3:=by rw[G.o,iq,if_neg R.o,if_neg X.o,if_pos (.inl ⟨by rw[ay.o];exact h1,ax.o.2 ai⟩)]
        subst t;subst ai;go_wp2_with fail
        go_returns;exact⟨rfl,E.o⟩
       ·have aM:(((d:Nat):Int)==48)=false:=by rw[beq_eq_false_iff_ne];omega
        have al:Hid (¬(1<(body (eH l)).length /\ (body (eH l)).head? =some 48)):=lH (fun h=>ai (ax.o.1 h.2));clear h1 ai;by_cases hm:a.toList= [45,48]
        ·have ad:(a.toList== [45,48])=true:=by rw[beq_iff_eq];exact hm
         have t:r=3:=by rw[G.o,iq,if_neg R.o,if_neg X.o,if_pos (.inr (.inl (by rw[<- HA.o, <- ByteArray.toList_eq];exact hm)))]
         subst t;go_wp2_with fail
         go_returns;exact⟨rfl,E.o⟩
        ·have ad:(a.toList== [45,48])=false:=by rw[beq_eq_false_iff_ne];exact hm
         have am:Hid (eH l≠ [45,48]):=lH (by rw[<- HA.o, <- ByteArray.toList_eq];exact hm);by_cases Y:e=48
         ·have t:r=3:=by rw[G.o,iq,if_neg R.o,if_neg X.o,if_pos (.inr (.inr (ag.o.2 Y)))]
          subst t;subst Y;go_wp2_with fail
          go_returns;exact⟨rfl,E.o⟩
         ·have aq:(((e:Nat):Int)==48)=false:=by rw[beq_eq_false_iff_ne];omega
          have a2:Hid (¬((1<(body (eH l)).length /\ (body (eH l)).head? =some 48) \/ eH l= [45,48] \/ (fQ l).head? =some 48)):=lH (by rintro(h | h | h);exact al.o h;exact am.o h;exact Y (ag.o.1 h));have aH:=lH Y;clear Y;go_wp2_with fail
          clear aq hm ad he hd az aA aM ah;refine(aB.o _).mono ?_;rintro e w2 ⟨rfl,rfl⟩;obtain⟨c,hc⟩:=eX ((eH l).length);rw[<- hc];have HC:=lH hc;clear hc;by_cases ac:¬c<s.size
          ·have ab:((s.size:Nat):Int) <= ((c:Nat):Int):=oM
           have aK:decide (((c:Nat):Int)<((s.size:Nat):Int))=false:=decide_eq_false oM;have aL:decide (c<s.size)=false:=decide_eq_false oM
           have t:r=0:=by
            have h1:=congrArg List.length (jo l);rw[List.length_append,af.o, <- HC.o] at h1;have h2:fG l= []:=List.eq_nil_of_length_eq_zero oM;rw[G.o,iq,if_neg R.o,if_neg X.o,if_neg a2.o,if_neg (fun h=>h.1 h2)]
           subst t;clear ac;go_wp2_with fail
           go_returns;exact⟨rfl,E.o⟩
          ·have ab:((c:Nat):Int)<((s.size:Nat):Int):=oM
           have a6:Hid (fG l≠ []):=lH (fun h=>by have h1:=congrArg List.length (jo l);rw[List.length_append,af.o, <- HC.o,h] at h1;simp at h1;omega);clear ac;by_cases O:b.toList= [49]
           ·have a5:(b.toList== [49])=true:=by rw[beq_iff_eq];exact O
            have t:r=3:=by rw[G.o,iq,if_neg R.o,if_neg X.o,if_neg a2.o,if_pos ⟨a6.o, .inl (by rw[<- U.o, <- ByteArray.toList_eq];exact O)⟩]
            subst t;go_wp2_with fail
            go_returns;exact⟨rfl,E.o⟩
           ·have a5:(b.toList== [49])=false:=by rw[beq_eq_false_iff_ne];exact O
            have aF:=lH O;have ar:=tJ G.o R.o X.o a2.o a6.o (by rw[<- U.o, <- ByteArray.toList_eq];exact O);obtain⟨x,y,a3,a4,au,av,ae⟩:=ar;have ao:a=txt x:=lJ (by rw[HA.o];exact a3);have ap:b=txt y:=lJ (by rw[U.o];exact a4);have aj:Hid (gu x):=lH (nk (by rw[<- a3, <- HA.o,gz];have:=a1.o.1;omega));have ak:Hid (gu y):=lH (nk (by rw[<- a4, <- U.o,gz];have:=a1.o.2;omega));have a7:=lH ae;clear O a3 a4 au av ae;subst ao;subst ap;go_wp2_with fail
            clear ab a5;refine(pF x y _ aj.o ak.o).mono ?_;rintro e w3 ⟨rfl,aa⟩;replace E:=bT E aa;clear aa;by_cases Z:Nat.gcd x.natAbs y.natAbs=1
            ·rw[Z];obtain⟨T,F⟩:=eX (txt ((1:Nat):Int));rw[<- F];have a0:T.toList= [49]:=by rw[F,ByteArray.toList_eq,jS];exact mY
             have a8:(T.toList== [49])=true:=by rw[a0];rfl
             have a9:(T.toList != [49])=false:=by rw[a0];rfl
             have t:r=0:=by rw[a7.o,if_pos Z]
             clear F;subst t;go_wp2_with fail
             go_returns;exact⟨rfl,E.o⟩
            ·have t:r=3:=by rw[a7.o,if_neg Z]
             obtain⟨T,F⟩:=eX (txt ((Nat.gcd x.natAbs y.natAbs:Nat):Int));rw[<- F];have a0:T.toList≠ [49]:=by rw[F];exact pG Z
             have a8:(T.toList== [49])=false:=by rw[beq_eq_false_iff_ne];exact a0
             have a9:(T.toList != [49])=true:=by rw[bne,a8];rfl
             clear F Z;subst t;go_wp2_with fail
             go_returns;exact⟨rfl,E.o⟩
      ·have ah:((D.size:Nat):Int) <= 1:=oM
       have aJ:decide ((1:Int)<((D.size:Nat):Int))=false:=decide_eq_false oM;have a9:decide (1<D.size)=false:=decide_eq_false oM;have al:Hid (¬(1<(body (eH l)).length /\ (body (eH l)).head? =some 48)):=lH (fun h=>h1 (by rw[<- ay.o];exact h.1));clear h1;by_cases hm:a.toList= [45,48]
       ·have ad:(a.toList== [45,48])=true:=by rw[beq_iff_eq];exact hm
        have t:r=3:=by rw[G.o,iq,if_neg R.o,if_neg X.o,if_pos (.inr (.inl (by rw[<- HA.o, <- ByteArray.toList_eq];exact hm)))]
        subst t;go_wp2_with fail
        go_returns;exact⟨rfl,E.o⟩
       ·have ad:(a.toList== [45,48])=false:=by rw[beq_eq_false_iff_ne];exact hm
        have am:Hid (eH l≠ [45,48]):=lH (by rw[<- HA.o, <- ByteArray.toList_eq];exact hm);by_cases Y:e=48
        ·have t:r=3:=by rw[G.o,iq,if_neg R.o,if_neg X.o,if_pos (.inr (.inr (ag.o.2 Y)))]
         subst t;subst Y;go_wp2_with fail
         go_returns;exact⟨rfl,E.o⟩
        ·have aq:(((e:Nat):Int)==48)=false:=by rw[beq_eq_false_iff_ne];omega
         have a2:Hid (¬((1<(body (eH l)).length /\ (body (eH l)).head? =some 48) \/ eH l= [45,48] \/ (fQ l).head? =some 48)):=lH (by rintro(h | h | h);exact al.o h;exact am.o h;exact Y (ag.o.1 h));have aH:=lH Y;clear Y;go_wp2_with fail
         clear aq hm ad he hd az aA ah aJ a9;refine(aB.o _).mono ?_;rintro e w2 ⟨rfl,rfl⟩;obtain⟨c,hc⟩:=eX ((eH l).length);rw[<- hc];have HC:=lH hc;clear hc;by_cases ac:¬c<s.size
         ·have ab:((s.size:Nat):Int) <= ((c:Nat):Int):=oM
          have aK:decide (((c:Nat):Int)<((s.size:Nat):Int))=false:=decide_eq_false oM;have aL:decide (c<s.size)=false:=decide_eq_false oM
          have t:r=0:=by
           have h1:=congrArg List.length (jo l);rw[List.length_append,af.o, <- HC.o] at h1;have h2:fG l= []:=List.eq_nil_of_length_eq_zero oM;rw[G.o,iq,if_neg R.o,if_neg X.o,if_neg a2.o,if_neg (fun h=>h.1 h2)]
          subst t;clear ac;go_wp2_with fail
          go_returns;exact⟨rfl,E.o⟩
         ·have ab:((c:Nat):Int)<((s.size:Nat):Int):=oM
          have a6:Hid (fG l≠ []):=lH (fun h=>by have h1:=congrArg List.length (jo l);rw[List.length_append,af.o, <- HC.o,h] at h1;simp at h1;omega);clear ac;by_cases O:b.toList= [49]
          ·have a5:(b.toList== [49])=true:=by rw[beq_iff_eq];exact O
           have t:r=3:=by rw[G.o,iq,if_neg R.o,if_neg X.o,if_neg a2.o,if_pos ⟨a6.o, .inl (by rw[<- U.o, <- ByteArray.toList_eq];exact O)⟩]
           subst t;go_wp2_with fail
           go_returns;exact⟨rfl,E.o⟩
          ·have a5:(b.toList== [49])=false:=by rw[beq_eq_false_iff_ne];exact O
           have aF:=lH O;have ar:=tJ G.o R.o X.o a2.o a6.o (by rw[<- U.o, <- ByteArray.toList_eq];exact O);obtain⟨x,y,a3,a4,au,av,ae⟩:=ar;have ao:a=txt x:=lJ (by rw[HA.o];exact a3);have ap:b=txt y:=lJ (by rw[U.o];exact a4);have aj:Hid (gu x):=lH (nk (by rw[<- a3, <- HA.o,gz];have:=a1.o.1;omega));have ak:Hid (gu y):=lH (nk (by rw[<- a4, <- U.o,gz];have:=a1.o.2;omega));have a7:=lH ae;clear O a3 a4 au av ae;subst ao;subst ap;go_wp2_with fail
           clear ab a5;refine(pF x y _ aj.o ak.o).mono ?_;rintro e w3 ⟨rfl,aa⟩;replace E:=bT E aa;clear aa;by_cases Z:Nat.gcd x.natAbs y.natAbs=1
           ·rw[Z];obtain⟨T,F⟩:=eX (txt ((1:Nat):Int));rw[<- F];have a0:T.toList= [49]:=by rw[F,ByteArray.toList_eq,jS];exact mY
            have a8:(T.toList== [49])=true:=by rw[a0];rfl
            have a9:(T.toList != [49])=false:=by rw[a0];rfl
            have t:r=0:=by rw[a7.o,if_pos Z]
            clear F;subst t;go_wp2_with fail
            go_returns;exact⟨rfl,E.o⟩
           ·have t:r=3:=by rw[a7.o,if_neg Z]
            obtain⟨T,F⟩:=eX (txt ((Nat.gcd x.natAbs y.natAbs:Nat):Int));rw[<- F];have a0:T.toList≠ [49]:=by rw[F];exact pG Z
            have a8:(T.toList== [49])=false:=by rw[beq_eq_false_iff_ne];exact a0
            have a9:(T.toList != [49])=true:=by rw[bne,a8];rfl
            clear F Z;subst t;go_wp2_with fail
            go_returns;exact⟨rfl,E.o⟩
     ·have t:r=19:=by rw[G.o,iq,if_neg R.o,if_pos HZ.o.symm]
      subst t;go_wp2_with fail
      go_returns;exact⟨rfl,E.o⟩
  ·have aw:a.data.toList=body (eH l):=by
    unfold body;rw[if_neg (by rw[aD.o];exact fun e=>aE (aC.o.1 (by simpa using e))),HA.o]
   have HD:=lH aw;have aG:Hid (a.size <= 65536):=lH a1.o.1;have b5:(((x:Nat):Int)==45)=false:=by rw[beq_eq_false_iff_ne];omega
   clear aw aE;go_wp2_with fail
   clear aD aC hx aO h0 b5;refine(qQ a _ (by have:=aG.o;omega)).mono ?_;rintro e w2 ⟨rfl,rfl⟩;obtain⟨p,M⟩:=eX (dgs a.data.toList);rw[<- M];rw[HD.o] at M;have HP:=lH M;clear M;cases p
   ·have t:r=14:=by rw[G.o,iq,if_pos (.inl HP.o.symm)]
    subst t;go_wp2_with fail
    go_returns;exact⟨rfl,E.o⟩
   ·go_wp2_with fail
    refine(qQ b _ (by have:=a1.o.2;omega)).mono ?_;rintro e w2 ⟨rfl,rfl⟩;obtain⟨p,M⟩:=eX (dgs b.data.toList);rw[<- M];rw[U.o] at M;have an:=lH M;clear M;cases p
    ·have t:r=14:=by rw[G.o,iq,if_pos (.inr an.o.symm)]
     subst t;go_wp2_with fail
     go_returns;exact⟨rfl,E.o⟩
    ·have R:Hid (¬(dgs (body (eH l))=false \/ dgs (fQ l)=false)):=lH (by rw[<- HP.o, <- an.o];simp);go_wp2_with fail
     refine(zC b _ (by have:=a1.o.2;omega)).mono ?_;rintro e w2 ⟨rfl,rfl⟩;obtain⟨p,M⟩:=eX (b.data.toList.all (· ==48));rw[<- M];rw[U.o] at M;have HZ:=lH M;clear M;cases p
     ·have X:Hid (¬(fQ l).all (· ==48)=true):=lH (by rw[<- HZ.o];simp)
      have b0:0<a.size:=by
       have h1:=(qV HP.o.symm).1;rw[<- HD.o] at h1;have:=List.length_pos_iff.2 h1;rw[gz] at this;exact this
      have aZ:0<b.size:=by
       have h1:=(qV an.o.symm).1;rw[<- U.o] at h1;have:=List.length_pos_iff.2 h1;rw[gz] at this;exact this
      obtain⟨d,hd,ax⟩:∃x:Nat,a[0].toNat=x /\ Hid ((body (eH l)).head? =some 48↔x=48):=⟨_,rfl,lH (by
       rw[<- HD.o,List.head?_eq_getElem?,List.getElem?_eq_getElem (by rw[gz];assumption), <- nY a 0 (by assumption),Option.some.injEq]
       exact⟨fun h=>by rw[h];rfl,fun h=>UInt8.toNat_inj.1 (by rw[h];rfl)⟩)⟩
      obtain⟨e,he,ag⟩:∃x:Nat,b[0].toNat=x /\ Hid ((fQ l).head? =some 48↔x=48):=⟨_,rfl,lH (by
       rw[<- U.o,List.head?_eq_getElem?,List.getElem?_eq_getElem (by rw[gz];assumption), <- nY b 0 (by assumption),Option.some.injEq]
       exact⟨fun h=>by rw[h];rfl,fun h=>UInt8.toNat_inj.1 (by rw[h];rfl)⟩)⟩
      have az:(0:Int)<((b.size:Nat):Int):=oM
      have aA:(0:Int)<((a.size:Nat):Int):=oM
      have ay:Hid ((body (eH l)).length=a.size):=lH (by rw[<- HD.o,gz]);by_cases h1:1<a.size
      ·have ah:(1:Int)<((a.size:Nat):Int):=oM
       by_cases ai:d=48
       ·have t:r=3:=by rw[G.o,iq,if_neg R.o,if_neg X.o,if_pos (.inl ⟨by rw[ay.o];exact h1,ax.o.2 ai⟩)]
        subst t;subst ai;go_wp2_with fail
        go_returns;exact⟨rfl,E.o⟩
       ·have aM:(((d:Nat):Int)==48)=false:=by rw[beq_eq_false_iff_ne];omega
        have al:Hid (¬(1<(body (eH l)).length /\ (body (eH l)).head? =some 48)):=lH (fun h=>ai (ax.o.1 h.2));clear h1 ai;by_cases hm:a.toList= [45,48]
        ·have ad:(a.toList== [45,48])=true:=by rw[beq_iff_eq];exact hm
         have t:r=3:=by rw[G.o,iq,if_neg R.o,if_neg X.o,if_pos (.inr (.inl (by rw[<- HA.o, <- ByteArray.toList_eq];exact hm)))]
         subst t;go_wp2_with fail
         go_returns;exact⟨rfl,E.o⟩
        ·have ad:(a.toList== [45,48])=false:=by rw[beq_eq_false_iff_ne];exact hm
         have am:Hid (eH l≠ [45,48]):=lH (by rw[<- HA.o, <- ByteArray.toList_eq];exact hm);by_cases Y:e=48
         ·have t:r=3:=by rw[G.o,iq,if_neg R.o,if_neg X.o,if_pos (.inr (.inr (ag.o.2 Y)))]
          subst t;subst Y;go_wp2_with fail
          go_returns;exact⟨rfl,E.o⟩
         ·have aq:(((e:Nat):Int)==48)=false:=by rw[beq_eq_false_iff_ne];omega
          have a2:Hid (¬((1<(body (eH l)).length /\ (body (eH l)).head? =some 48) \/ eH l= [45,48] \/ (fQ l).head? =some 48)):=lH (by rintro(h | h | h);exact al.o h;exact am.o h;exact Y (ag.o.1 h));have aH:=lH Y;clear Y;go_wp2_with fail
          clear aq hm ad he hd az aA aM ah;refine(aB.o _).mono ?_;rintro e w2 ⟨rfl,rfl⟩;obtain⟨c,hc⟩:=eX ((eH l).length);rw[<- hc];have HC:=lH hc;clear hc;by_cases ac:¬c<s.size
          ·have ab:((s.size:Nat):Int) <= ((c:Nat):Int):=oM
           have aK:decide (((c:Nat):Int)<((s.size:Nat):Int))=false:=decide_eq_false oM;have aL:decide (c<s.size)=false:=decide_eq_false oM
           have t:r=0:=by
            have h1:=congrArg List.length (jo l);rw[List.length_append,af.o, <- HC.o] at h1;have h2:fG l= []:=List.eq_nil_of_length_eq_zero oM;rw[G.o,iq,if_neg R.o,if_neg X.o,if_neg a2.o,if_neg (fun h=>h.1 h2)]
           subst t;clear ac;go_wp2_with fail
           go_returns;exact⟨rfl,E.o⟩
          ·have ab:((c:Nat):Int)<((s.size:Nat):Int):=oM
           have a6:Hid (fG l≠ []):=lH (fun h=>by have h1:=congrArg List.length (jo l);rw[List.length_append,af.o, <- HC.o,h] at h1;simp at h1;omega);clear ac;by_cases O:b.toList= [49]
           ·have a5:(b.toList== [49])=true:=by rw[beq_iff_eq];exact O
            have t:r=3:=by rw[G.o,iq,if_neg R.o,if_neg X.o,if_neg a2.o,if_pos ⟨a6.o, .inl (by rw[<- U.o, <- ByteArray.toList_eq];exact O)⟩]
            subst t;go_wp2_with fail
            go_returns;exact⟨rfl,E.o⟩
           ·have a5:(b.toList== [49])=false:=by rw[beq_eq_false_iff_ne];exact O
            have aF:=lH O;have ar:=tJ G.o R.o X.o a2.o a6.o (by rw[<- U.o, <- ByteArray.toList_eq];exact O);obtain⟨x,y,a3,a4,au,av,ae⟩:=ar;have ao:a=txt x:=lJ (by rw[HA.o];exact a3);have ap:b=txt y:=lJ (by rw[U.o];exact a4);have aj:Hid (gu x):=lH (nk (by rw[<- a3, <- HA.o,gz];have:=a1.o.1;omega));have ak:Hid (gu y):=lH (nk (by rw[<- a4, <- U.o,gz];have:=a1.o.2;omega));have a7:=lH ae;clear O a3 a4 au av ae;subst ao;subst ap;go_wp2_with fail
            clear ab a5;refine(pF x y _ aj.o ak.o).mono ?_;rintro e w3 ⟨rfl,aa⟩;replace E:=bT E aa;clear aa;by_cases Z:Nat.gcd x.natAbs y.natAbs=1
            ·rw[Z];obtain⟨T,F⟩:=eX (txt ((1:Nat):Int));rw[<- F];have a0:T.toList= [49]:=by rw[F,ByteArray.toList_eq,jS];exact mY
             have a8:(T.toList== [49])=true:=by rw[a0];rfl
             have a9:(T.toList != [49])=false:=by rw[a0];rfl
             have t:r=0:=by rw[a7.o,if_pos Z]
             clear F;subst t;go_wp2_with fail
             go_returns;exact⟨rfl,E.o⟩
            ·have t:r=3:=by rw[a7.o,if_neg Z]
             obtain⟨T,F⟩:=eX (txt ((Nat.gcd x.natAbs y.natAbs:Nat):Int));rw[<- F];have a0:T.toList≠ [49]:=by rw[F];exact pG Z
             have a8:(T.toList== [49])=false:=by rw[beq_eq_false_iff_ne];exact a0
             have a9:(T.toList != [49])=true:=by rw[bne,a8];rfl
             clear F Z;subst t;go_wp2_with fail
             go_returns;exact⟨rfl,E.o⟩
      ·have ah:((a.size:Nat):Int) <= 1:=oM
       have aJ:decide ((1:Int)<((a.size:Nat):Int))=false:=decide_eq_false oM;have a9:decide (1<a.size)=false:=decide_eq_false oM;have al:Hid (¬(1<(body (eH l)).length /\ (body (eH l)).head? =some 48)):=lH (fun h=>h1 (by rw[<- ay.o];exact h.1));clear h1;by_cases hm:a.toList= [45,48]
       ·have ad:(a.toList== [45,48])=true:=by rw[beq_iff_eq];exact hm
        have t:r=3:=by rw[G.o,iq,if_neg R.o,if_neg X.o,if_pos (.inr (.inl (by rw[<- HA.o, <- ByteArray.toList_eq];exact hm)))]
        subst t;go_wp2_with fail
        go_returns;exact⟨rfl,E.o⟩
       ·have ad:(a.toList== [45,48])=false:=by rw[beq_eq_false_iff_ne];exact hm
        have am:Hid (eH l≠ [45,48]):=lH (by rw[<- HA.o, <- ByteArray.toList_eq];exact hm);by_cases Y:e=48
        ·have t:r=3:=by rw[G.o,iq,if_neg R.o,if_neg X.o,if_pos (.inr (.inr (ag.o.2 Y)))]
         subst t;subst Y;go_wp2_with fail
         go_returns;exact⟨rfl,E.o⟩
        ·have aq:(((e:Nat):Int)==48)=false:=by rw[beq_eq_false_iff_ne];omega
         have a2:Hid (¬((1<(body (eH l)).length /\ (body (eH l)).head? =some 48) \/ eH l= [45,48] \/ (fQ l).head? =some 48)):=lH (by rintro(h | h | h);exact al.o h;exact am.o h;exact Y (ag.o.1 h));have aH:=lH Y;clear Y;go_wp2_with fail
         clear aq hm ad he hd az aA ah aJ a9;refine(aB.o _).mono ?_;rintro e w2 ⟨rfl,rfl⟩;obtain⟨c,hc⟩:=eX ((eH l).length);rw[<- hc];have HC:=lH hc;clear hc;by_cases ac:¬c<s.size
         ·have ab:((s.size:Nat):Int) <= ((c:Nat):Int):=oM
          have aK:decide (((c:Nat):Int)<((s.size:Nat):Int))=false:=decide_eq_false oM;have aL:decide (c<s.size)=false:=decide_eq_false oM
          have t:r=0:=by
           have h1:=congrArg List.length (jo l);rw[List.length_append,af.o, <- HC.o] at h1;have h2:fG l= []:=List.eq_nil_of_length_eq_zero oM;rw[G.o,iq,if_neg R.o,if_neg X.o,if_neg a2.o,if_neg (fun h=>h.1 h2)]
          subst t;clear ac;go_wp2_with fail
          go_returns;exact⟨rfl,E.o⟩
         ·have ab:((c:Nat):Int)<((s.size:Nat):Int):=oM
          have a6:Hid (fG l≠ []):=lH (fun h=>by have h1:=congrArg List.length (jo l);rw[List.length_append,af.o, <- HC.o,h] at h1;simp at h1;omega);clear ac;by_cases O:b.toList= [49]
          ·have a5:(b.toList== [49])=true:=by rw[beq_iff_eq];exact O
           have t:r=3:=by rw[G.o,iq,if_neg R.o,if_neg X.o,if_neg a2.o,if_pos ⟨a6.o, .inl (by rw[<- U.o, <- ByteArray.toList_eq];exact O)⟩]
           subst t;go_wp2_with fail
           go_returns;exact⟨rfl,E.o⟩
          ·have a5:(b.toList== [49])=false:=by rw[beq_eq_false_iff_ne];exact O
           have aF:=lH O;have ar:=tJ G.o R.o X.o a2.o a6.o (by rw[<- U.o, <- ByteArray.toList_eq];exact O);obtain⟨x,y,a3,a4,au,av,ae⟩:=ar;have ao:a=txt x:=lJ (by rw[HA.o];exact a3);have ap:b=txt y:=lJ (by rw[U.o];exact a4);have aj:Hid (gu x):=lH (nk (by rw[<- a3, <- HA.o,gz];have:=a1.o.1;omega));have ak:Hid (gu y):=lH (nk (by rw[<- a4, <- U.o,gz];have:=a1.o.2;omega));have a7:=lH ae;clear O a3 a4 au av ae;subst ao;subst ap;go_wp2_with fail
           clear ab a5;refine(pF x y _ aj.o ak.o).mono ?_;rintro e w3 ⟨rfl,aa⟩;replace E:=bT E aa;clear aa;by_cases Z:Nat.gcd x.natAbs y.natAbs=1
           ·rw[Z];obtain⟨T,F⟩:=eX (txt ((1:Nat):Int));rw[<- F];have a0:T.toList= [49]:=by rw[F,ByteArray.toList_eq,jS];exact mY
            have a8:(T.toList== [49])=true:=by rw[a0];rfl
            have a9:(T.toList != [49])=false:=by rw[a0];rfl
            have t:r=0:=by rw[a7.o,if_pos Z]
            clear F;subst t;go_wp2_with fail
            go_returns;exact⟨rfl,E.o⟩
           ·have t:r=3:=by rw[a7.o,if_neg Z]
            obtain⟨T,F⟩:=eX (txt ((Nat.gcd x.natAbs y.natAbs:Nat):Int));rw[<- F];have a0:T.toList≠ [49]:=by rw[F];exact pG Z
            have a8:(T.toList== [49])=false:=by rw[beq_eq_false_iff_ne];exact a0
            have a9:(T.toList != [49])=true:=by rw[bne,a8];rfl
            clear F Z;subst t;go_wp2_with fail
            go_returns;exact⟨rfl,E.o⟩
     ·have t:r=19:=by rw[G.o,iq,if_neg R.o,if_pos HZ.o.symm]
      subst t;go_wp2_with fail
      go_returns;exact⟨rfl,E.o⟩
end
section
open Go.RowKit
open Lp (RL upd eu)
def vL(B:Nat)(w':World)(n:Nat)(s:Nat -> ByteArray)(e:Ending):Prop:=
 (∃j,j<n /\ (∀i,i<j -> fK (s i).data.toList=0) /\ fK (s j).data.toList≠0 /\ e= .returned (.tuple #[.slice none 0 0, .int .i64 (fK (s j).data.toList:Nat)])) \/
 ∃g f,B <= g /\ e= .returned (.tuple #[.slice (some ⟨g,0,none⟩) n n, .int .i64 0]) /\ RB w' g n f /\ ∀j,j<n -> (s j).data.toList=fA (f j)
set_option maxRecDepth 100000 in
set_option maxHeartbeats 3200000 in
theorem tK(s:ByteArray)(w:World)(hs:s.size <= 65536)(hg:iG w):
  Calls prog 84 #[.string s] w fun e w'=>zu w' s.data.toList e /\ Below w.heap.size w w':=by
 have a4:=lH hg;clear hg;obtain⟨W,hW,t,R⟩:=eN1 w [.bool false, .slice none 0 0, .bool false, .slice none 0 0] 105;go_enter func84,ntmps84;go_wp2_with fail
 rw[<- hW];clear hW;refine(FY s _ hs (a4.o.below R.o)).mono ?_;rintro e w1 ⟨U,a0⟩;replace t:=rW t a0;replace R:=bT R a0;clear a0
 rcases U with ⟨h0,rfl⟩ | ⟨q,v,h0,hl,rfl,E⟩
 ·have Z:=lH h0;clear h0;obtain⟨cc,a1⟩:=eX (fK s.data.toList);rw[<- a1];have a3:=lH a1;clear a1;obtain⟨F,f0,G,f1,M,f2,O,f3⟩:=aF4 t.o;have kl:=t.o.lt;go_wp2_with fail
  clear kl F f0 G f1 M f2 O f3;have h:=t.o.jh (x:= .bool false) (y:= .slice none 0 0) (z:= .bool false) (u:= .slice none 0 0);have U:=iY t.o dC (Nat.le_refl _) R.o (eO.jU _);obtain⟨E,T⟩:=U;obtain⟨wE,a2⟩:=eX (((((w1.setCell ⟨w.heap.size,0,none⟩ (.bool false)).setCell ⟨w.heap.size,1,none⟩ (.slice none 0 0)).setCell ⟨w.heap.size,2,none⟩ (.bool false)).setCell ⟨w.heap.size,3,none⟩ (.slice none 0 0)));rw[<- a2] at h T E ⊢;have F:=h.at_ 0 rfl;have G:=h.at_ 1 rfl;have M:=h.at_ 2 rfl;have O:=h.at_ 3 rfl;refine bodyPost_ret (v:= .tuple #[.agg #[.bool false, .slice none 0 0, .bool false, .slice none 0 0], .int .i64 (cc:Nat)]) (by simp[results,results84,go_sem,F,G,M,O]) rfl ?_;exact⟨.inl ⟨Z.o,by rw[a3.o]⟩,T⟩
 ·obtain⟨sv,X,lv,cv,tv,Y,mv,dv,rfl⟩:=E.shape;have Z:=lH h0;have HL:=lH hl;have HV:=lH E;clear h0 hl E;obtain⟨F,f0,G,f1,M,f2,O,f3⟩:=aF4 t.o;have kl:=t.o.lt;go_wp2_with fail
  clear kl F f0 G f1 M f2 O f3;have h:=t.o.jh (x:= .bool sv) (y:= .slice X lv cv) (z:= .bool tv) (u:= .slice Y mv dv);have U:=iY t.o dC (Nat.le_refl _) R.o HV.o;obtain⟨E,T⟩:=U;obtain⟨wE,a2⟩:=eX (((((w1.setCell ⟨w.heap.size,0,none⟩ (.bool sv)).setCell ⟨w.heap.size,1,none⟩ (.slice X lv cv)).setCell ⟨w.heap.size,2,none⟩ (.bool tv)).setCell ⟨w.heap.size,3,none⟩ (.slice Y mv dv)));rw[<- a2] at h T E ⊢;have F:=h.at_ 0 rfl;have G:=h.at_ 1 rfl;have M:=h.at_ 2 rfl;have O:=h.at_ 3 rfl;refine bodyPost_ret (v:= .tuple #[.agg #[.bool sv, .slice X lv cv, .bool tv, .slice Y mv dv], .int .i64 0]) (by simp[results,results84,go_sem,F,G,M,O]) rfl ?_;exact⟨.inr ⟨q,_,Z.o,HL.o,rfl,E⟩,T⟩
set_option maxRecDepth 100000 in
set_option maxHeartbeats 6400000 in
theorem GA(va:Value)(n:Nat)(s:Nat -> ByteArray)(w:World)(T:TS w va n s)(hn:n <= 1000000000)(hs:∀j,j<n -> (s j).size <= 65536)(E:iG w):
  Calls prog 118 #[va, .func (.func 84) #[] #[]] w fun e w'=>vL w.heap.size w' n s e /\ Below w.heap.size w w':=by
 obtain⟨A,c,rfl,an,ap⟩:=T.shape;have HA:=lH T;have HS:=lH hs;have ag:=lH E;clear T hs E;go_enter func118,ntmps118
 go_wp2_with (at_make;refine pu _ rfl (.tmp 11) (.tmp 11) rfl _ _ n rfl rfl rfl rfl oM ?_)
 intro w1 a5 a1 ak;have Z:=lH a5;have a0:=lH a1;clear a5 a1 ak;go_wp2_with fail
 go_loopw [15] (fun Y wr=>∃ (k:Nat) (f:Nat -> Rat),k <= n /\ Y= .int .i64 k /\ Hid (∀j,j<k -> (s j).data.toList=fA (f j)) /\ RB wr w.heap.size n f /\ Below w.heap.size w wr)
  (fun Y _=>n-(intOf Y).toNat)
 case atStart=>exact⟨0,_,Nat.zero_le _,rfl,lH (fun j hj=>absurd hj oM),Z.o,a0.o⟩
 case round=>
  clear Z a0;obtain⟨k,f,hk,rfl,hf,a2,a3⟩:=hrel;have O:=lH hf.o;have h:=lH a2;have t:=lH a3;clear hf a2 a3;by_cases aq:((k:Nat):Int)<(n:Nat)
  ·have F:k<n:=oM
   obtain⟨gA,oA,rfl,a4⟩:=HA.o.at_ oM;have kc:=cell_below t.o (a4 k F);have am:=eG kc;clear a4;go_wp2_with fail
   clear kc am;refine(tK (s k) _ (HS.o k F) (ag.o.below t.o)).mono ?_;rintro e w2 ⟨hr,U⟩;replace h:=lH (h.o.below U);replace t:=bT t U;clear U;obtain⟨sy,Ay,ly,cy,ty,By,my,dy,ah,al⟩:=h.o.fO F;obtain⟨aa,ab,ac,ad⟩:=ah;have ae:=h.o.lt;have a6:=h.o.free (k*4);have a7:=h.o.free (k*4+1);have a8:=h.o.free (k*4+2);have a9:=h.o.free (k*4+3);clear al
   rcases hr with ⟨h0,rfl⟩ | ⟨q,v,h0,hl,rfl,X⟩
   ·have H0:=lH h0;obtain⟨R,G⟩:=eX (fK (s k).data.toList);rw[<- G];have ai:R≠0:=by rw[G];exact h0
    have aj:¬((R:Nat):Int)=0:=oM
    have ao:(((R:Nat):Int) !=0)=true:=by simpa using aj
    have af:=lH G;clear G h0 ai;have E:=il w2 w.heap.size (k*4) (k*4+1) (k*4+2) (k*4+3) (.bool false) (.slice none 0 0) (.bool false) (.slice none 0 0);have M:=lH (t.o.grown E t.o.size (by first | (simp;done) | (simp;omega)));clear E;go_wp2_with fail
    clear aa ab ac ad ae a6 a7 a8 a9;go_returns;exact⟨.inl ⟨k,F,fun i hi=>by rw[O.o i hi];exact mP _,H0.o,by rw[af.o];rfl⟩,M.o⟩
   ·obtain⟨sv,Av,lv,cv,tv,Bv,mv,dv,rfl⟩:=X.shape;have HL:=lH hl;have BN:=lH (h.o.set F X);have E:=il w2 w.heap.size (k*4) (k*4+1) (k*4+2) (k*4+3) (.bool sv) (.slice Av lv cv) (.bool tv) (.slice Bv mv dv);have M:=lH (t.o.grown E t.o.size (by first | (simp;done) | (simp;omega)));clear E h0 hl X;go_wp2_with fail
    clear aa ab ac ad ae a6 a7 a8 a9;go_roundw
    case rel=>
     refine⟨k+1,upd f k q,by omega,by simp,lH (fun j hj=> ?_),BN.o,M.o⟩;by_cases e:j=k
     ·subst e;rw[Lp.upd_same];exact HL.o
     ·rw[Lp.eT _ _ e];exact O.o j oM
    case measure=>exact mZ
  ·obtain rfl:n=k:=oM
   go_wp2_with fail
   go_returns;exact⟨.inr ⟨_,f,Nat.le_refl _,rfl,h.o,O.o⟩,t.o⟩
set_option maxRecDepth 100000 in
set_option maxHeartbeats 3200000 in
theorem tL(G:Value)(n:Nat)(s:Nat -> ByteArray)(w:World)(O:TS w G n s)(hn:n <= 1000000000)(U:∀j,j<n -> (s j).size <= 65536)(T:iG w):
  Calls prog 82 #[G] w fun e w'=>vL w.heap.size w' n s e /\ Below w.heap.size w w':=by
 have X:=lH (GA G n s w O hn U T);clear O U T;go_enter func82,ntmps82;go_wp2_with fail
 refine X.o.mono ?_;rintro e w1 ⟨hr,R⟩;have M:=lH R;clear R
 rcases hr with ⟨j,Z,h1,h,rfl⟩ | ⟨g,f,h0,rfl,h1,h⟩
 ·have t:=lH h1;have E:=lH h;obtain⟨cc,F⟩:=eX (fK (s j).data.toList);rw[<- F];have Y:=lH F;clear F h1 h;go_wp2_with fail
  go_returns;exact⟨.inl ⟨j,Z,t.o,E.o,by rw[<- Y.o];rfl⟩,M.o⟩
 ·have t:=lH h1;have E:=lH h;clear h1 h;go_wp2_with fail
  go_returns;exact⟨.inr ⟨g,f,h0,rfl,t.o,E.o⟩,M.o⟩
end
section
open Go.RowKit
open Lp (RL upd eu)
def fo:Nat -> (Nat -> Nat) -> Nat
 | 0,_=>0
 | n+1,e=>if fo n e≠0 then fo n e else e n
theorem kF{n:Nat}{e:Nat -> Nat}:fo n e=0↔∀j,j<n -> e j=0:=by
 induction n with
 | zero=>exact⟨fun _ j E=>absurd E oM,fun _=>rfl⟩
 | succ n F=>
  show(if fo n e≠0 then fo n e else e n)=0↔_;by_cases h:fo n e=0
  ·rw[if_neg (by simpa using h)];exact⟨fun t j E=>by by_cases G:j=n;subst G;exact t;exact F.1 h j oM,fun t=>t n oM⟩
  ·rw[if_pos h];exact⟨fun t=>absurd t h,fun t=>absurd (F.2 fun j E=>t j oM) h⟩
theorem pI{n j:Nat}{e:Nat -> Nat}(G:j<n)(h1:∀i,i<j -> e i=0)(E:e j≠0):fo n e=e j:=by
 induction n with
 | zero=>omega
 | succ n F=>
  show(if fo n e≠0 then fo n e else e n)=_;by_cases h:j=n
  ·subst h;rw[if_neg (by simpa using kF.2 h1)]
  ·have t:=F oM;rw[if_pos (by rw[t];exact E),t]
def sE(s:ByteArray):Nat:=fK s.data.toList
theorem tN{B:Nat}{w:World}{n:Nat}{s:Nat -> ByteArray}{e:Ending}(h:vL B w n s e):
  (fo n (fun j=>sE (s j))≠0 /\ e= .returned (.tuple #[.slice none 0 0, .int .i64 (fo n (fun j=>sE (s j)):Nat)])) \/
  (fo n (fun j=>sE (s j))=0 /\ ∃g f,B <= g /\ e= .returned (.tuple #[.slice (some ⟨g,0,none⟩) n n, .int .i64 0]) /\ RB w g n f /\ ∀j,j<n -> (s j).data.toList=fA (f j)):=by
 rcases h with ⟨j,E,h1,F,t⟩ | ⟨g,f,h0,t,O,M⟩
 ·have G:=pI (e:=fun j=>sE (s j)) E h1 F;exact .inl ⟨by rw[G];exact F,by rw[G];exact t⟩
 ·exact .inr ⟨kF.2 fun j E=>by show fK _=0;rw[M j E];exact mP _,g,f,h0,t,O,M⟩
def iw(n:Nat)(t:Nat -> ByteArray)(b:ByteArray):Nat:=if fo n (fun j=>sE (t j))≠0 then fo n (fun j=>sE (t j)) else sE b
def fD(n m:Nat)(k:Nat -> Nat)(o:Nat -> ByteArray)(t:Nat -> Nat -> ByteArray)(b:Nat -> ByteArray):Nat:=
 if 96<n \/ 256<m then 6 else if ¬(∀i,i<m -> k i=n) then 13 else
  if fo n (fun j=>sE (o j))≠0 then fo n (fun j=>sE (o j)) else fo m (fun i=>iw n (t i) (b i))
structure jk (n m:Nat) (o:Nat -> ByteArray) (t:Nat -> Nat -> ByteArray) (b:Nat -> ByteArray) (A:Nat -> Nat -> Rat) (bq c:Nat -> Rat):Prop where
 obj:∀j,j<n -> (o j).data.toList=fA (c j)
 rows:∀i,i<m -> ∀j,j<n -> (t i j).data.toList=fA (A i j)
 bounds:∀i,i<m -> (b i).data.toList=fA (bq i)
def RowsIn(w:World)(v:Value)(m:Nat):Prop:=m=0 \/ ∃g c cs,v= .slice (some ⟨g,0,none⟩) m c /\ Row w g 95 cs
def o9(w':World)(n m:Nat)(k:Nat -> Nat)(o:Nat -> ByteArray)(t:Nat -> Nat -> ByteArray)(b:Nat -> ByteArray)(e:Ending):Prop:=
 (fD n m k o t b≠0 /\ e= .returned (.tuple #[.agg #[.slice none 0 0, .slice none 0 0, .slice none 0 0], .int .i64 (fD n m k o t b:Nat)])) \/
 (fD n m k o t b=0 /\ ∃AC AR AD cC cR cD A bq c,e= .returned (.tuple #[.agg #[.slice AC n cC, .slice AR m cR, .slice AD m cD], .int .i64 0]) /\
  eZ w' (.slice AC n cC) n c /\ iD w' (.slice AR m cR) m n A /\ eZ w' (.slice AD m cD) m bq /\ jk n m o t b A bq c /\ RowsIn w' (.slice AR m cR) m)
end
section
open Go.RowKit Go.Lib
def GD:Go.Shelf.Ren:=⟨fun | 41=>29 | n=>n,fun | 22=>22 | 23=>30 | n=>n,fun | n=>n⟩
theorem zU:Go.Proofs.SlLaysE0.n41 prog GD:= {
 mixed:=by kernel_rfl
 f41:=⟨Tryz.f29.name,by decide,func29.trans (congrArg some (by kernel_rfl))⟩
 t4:=underlying4
 a4:=Tryz.isAgg4
 z4:=Tryz.sizeOf4
 v4:=Tryz.zeroValue4
 t22:=underlying22
 a22:=Tryz.isAgg22
 z22:=Tryz.sizeOf22
 v22:=Tryz.zeroValue22}
theorem qW:(prog.info? 30).map (fun i=>(i.zero,i.size,i.bytes))=some (some (.string ⟨#[]⟩),1,16):=by kernel_rfl
theorem GG(b E n c:Nat)(t:List Value)(w:World)(T:t.length=n)(U:n <= 1000000000)(G:∀j u,t[j]? =some u -> w.cell? ⟨b,E+j,none⟩=some u)(h1:∀u ∈ t,u.oneCell'=true):
  Calls prog 29 #[.slice (some ⟨b,E,none⟩) n c] w fun e w'=>∃v',e= .returned v' /\ w'.ownsRow w.heap.size 30 1 v' n t /\ v'≠ .slice none 0 0 /\ Below w.heap.size w w':=by
 obtain⟨i,M,h⟩:=Option.map_eq_some_iff.1 qW;simp only[Prod.mk.injEq] at h;obtain⟨R,O,F⟩:=h;exact AnyE.slices_Clone zU i _ 1 16 M R O F rfl (by decide) Tryz.sizeOf30 b E n c t w (by omega) (by unfold maxLen;omega) (by omega) G h1
theorem GH(n c:Nat)(w:World):Calls prog 29 #[.slice none n c] w fun e w'=>e= .returned (.slice none 0 0) /\ w'=w:=AnyE.slices_Clone_nil zU n c w
def GI:Go.Shelf.Ren:=⟨fun | 33=>47 | n=>n,fun | 22=>22 | 23=>30 | n=>n,fun | n=>n⟩
theorem GJ:Go.Proofs.SlLaysE.n33 prog GI:= {
 mixed:=by kernel_rfl
 f33:=⟨Tryz.f47.name,by decide,func47.trans (congrArg some (by kernel_rfl))⟩
 t0:=Tryz.underlying0
 a0:=Tryz.isAgg0
 z0:=Tryz.sizeOf0
 v0:=Tryz.zeroValue0
 t3:=underlying3
 a3:=Tryz.isAgg3
 z3:=Tryz.sizeOf3
 v3:=Tryz.zeroValue3
 t4:=underlying4
 a4:=Tryz.isAgg4
 z4:=Tryz.sizeOf4
 v4:=Tryz.zeroValue4
 t22:=underlying22
 a22:=Tryz.isAgg22
 z22:=Tryz.sizeOf22
 v22:=Tryz.zeroValue22
 a23:=Tryz.isAgg30
 z23:=Tryz.sizeOf30}
theorem GK(t E n c b2 F m d:Nat)(xs h:List ByteArray)(w:World)(T:n <= xs.length)(U:m <= h.length)(G:n <= 9223372036854775807)(M:m <= 9223372036854775807)(O:∀j,j<xs.length -> w.cell? ⟨t,E+j,none⟩=some (.string xs[j]!))(R:∀j,j<h.length -> w.cell? ⟨b2,F+j,none⟩=some (.string h[j]!)):
  Calls prog 47 #[.slice (some ⟨t,E,none⟩) n c, .slice (some ⟨b2,F,none⟩) m d] w fun e w'=>e= .returned (.bool (Lib.allEq (fun x y=>x.toList==y.toList) (xs.take n) (h.take m))) /\ ∃q,w'=w.drewN q:=
 AnyE.slices_Equal GJ Value.string _ (NeqAt.string _ _) t E n c b2 F m d xs h w T U G M O R
def GL:Go.Shelf.Ren:=⟨fun | 6=>117 | 8=>80 | n=>n,fun | 22=>22 | 23=>30 | 25=>125 | n=>n,fun | n=>n⟩
theorem zV:Go.Proofs.SlLaysH.n8 prog GL:= {
 mixed:=by kernel_rfl
 f6:=⟨Tryz.f117.name,by decide,func117.trans (congrArg some (by kernel_rfl))⟩
 f8:=⟨Tryz.f80.name,by decide,func80.trans (congrArg some (by kernel_rfl))⟩
 t0:=Tryz.underlying0
 a0:=Tryz.isAgg0
 z0:=Tryz.sizeOf0
 v0:=Tryz.zeroValue0
 t3:=underlying3
 a3:=Tryz.isAgg3
 z3:=Tryz.sizeOf3
 v3:=Tryz.zeroValue3
 t4:=underlying4
 a4:=Tryz.isAgg4
 z4:=Tryz.sizeOf4
 v4:=Tryz.zeroValue4
 t22:=underlying22
 a22:=Tryz.isAgg22
 z22:=Tryz.sizeOf22
 v22:=Tryz.zeroValue22
 a23:=Tryz.isAgg30
 z23:=Tryz.sizeOf30
 t25:=underlying125
 a25:=Tryz.isAgg125
 z25:=Tryz.sizeOf125
 v25:=Tryz.zeroValue125}
end
section
open Go.RowKit
open Lp (RL upd eu)
theorem vM(s:ByteArray)(w:World)(t:s.size <= 65536):Calls prog 31 #[.string s] w fun e w'=>e= .returned (.int .i64 (sE s:Nat)) /\ Below w.heap.size w w':=by
 have F:=lH (Gz s w t);clear t;go_enter func31,ntmps31;go_wp2_with fail
 refine F.o.mono ?_;rintro e G ⟨rfl,h⟩;have E:=lH h;clear h;go_wp2_with fail
 go_returns;exact⟨rfl,E.o⟩
set_option maxHeartbeats 1600000 in
theorem qX(va:Value)(n:Nat)(s:Nat -> ByteArray)(w:World)(G:TS w va n s)(hn:n <= 1000000000)(hs:∀j,j<n -> (s j).size <= 65536):
  Calls prog 39 #[va] w fun e w'=>e= .returned (.int .i64 (fo n (fun j=>sE (s j)):Nat)) /\ Below w.heap.size w w':=by
 obtain⟨A,c,rfl,_,_⟩:=G.shape;have HA:=lH G;have HS:=lH hs;have aa:((n:Nat):Int) <= 1000000000:=oM
 clear G hs hn;obtain⟨r,T⟩:=eX (fo n (fun j=>sE (s j)));rw[<- T];have X:=lH T;clear T;go_enter func39,ntmps39;go_wp2_with fail
 go_loopw [3] (fun U wr=>∃k:Nat,((k:Nat):Int) <= ((n:Nat):Int) /\ U= .int .i64 k /\ Hid (∀j,j<k -> sE (s j)=0) /\ Below w.heap.size w wr)
  (fun U _=>n-(intOf U).toNat)
 case atStart=>exact⟨0,by omega,rfl,lH (fun j O=>absurd O oM),Below.refl _ _⟩
 case round=>
  obtain⟨k,hk,rfl,hz,Y⟩:=hrel;have F:=lH hz.o;have h:=lH Y;clear hz Y;by_cases a9:((k:Nat):Int)<((n:Nat):Int)
  ·have R:k<n:=oM
   obtain⟨gA,oA,rfl,a0⟩:=HA.o.at_ oM;have kc:=cell_below h.o (a0 k R);have a6:=eG kc;clear a0;go_wp2_with fail
   clear kc a6;refine(vM (s k) _ (HS.o k R)).mono ?_;rintro e w2 ⟨rfl,Z⟩;replace h:=bT h Z;clear Z;obtain⟨t,M⟩:=eX (sE (s k));rw[<- M];have E:=lH M;clear M;by_cases h0:t=0
   ·have a1:Hid (sE (s k)=0):=lH (by rw[<- E.o];exact h0);subst h0;go_wp2_with fail
    go_roundw
    case rel=>exact⟨k+1,by omega,by go_num,lH (fun j O=>by by_cases e:j=k;subst e;exact a1.o;exact F.o j oM),h.o⟩
    case measure=>simp[intOf];omega
   ·have a5:r=t:=by rw[X.o,E.o];exact pI R (fun i hi=>F.o i hi) (by rw[<- E.o];exact h0)
    have a2:((t:Nat):Int)≠0:=oM
    have a7:(((t:Nat):Int) !=0)=true:=by simpa using a2
    have a8:(t !=0)=true:=by simpa using h0
    clear h0;subst a5;go_wp2_with fail
    go_returns;exact⟨rfl,h.o⟩
  ·have a3:k=n:=oM
   have a4:r=0:=by rw[X.o,kF];intro j O;exact F.o j oM
   clear a3;subst a4;go_wp2_with fail
   go_returns;exact⟨rfl,h.o⟩
def qY(n:Nat)(s:Nat -> ByteArray):Bool:=((List.range n).map s).any (fun x=>decide (12<x.size))
theorem zW{n:Nat}{s:Nat -> ByteArray}:qY n s=false↔∀j,j<n -> (s j).size <= 12:=by
 unfold qY;rw[List.any_eq_false];constructor
 ·intro h j t;have:=h (s j) (List.mem_map.2 ⟨j,List.mem_range.2 t,rfl⟩);simp at this;exact this
 ·intro h x E;obtain⟨j,t,rfl⟩:=List.mem_map.1 E;have:=h j (List.mem_range.1 t);simp;exact this
theorem GM(x:ByteArray)(w:World):Calls prog 81 #[.string x] w fun e w'=>e= .returned (.bool (decide (12<x.size))) /\ ∃q,w'=w.drewN q:=by
 go_enter func81,ntmps81;go_wp2_with fail
 go_returns;exact⟨by show Ending.returned (Value.bool (decide ((12:Int)<((x.size:Nat):Int))))=_;rw[show decide ((12:Int)<((x.size:Nat):Int))=decide (12<x.size) from decide_eq_decide.2 oM],0,rfl⟩
theorem GQ(E:Value)(n:Nat)(s:Nat -> ByteArray)(w:World)(h:TS w E n s)(M:n <= 1000000000):
  Calls prog 80 #[E, .func (.func 81) #[] #[]] w fun e w'=>e= .returned (.bool (qY n s)) /\ Below w.heap.size w w':=by
 obtain⟨A,c,rfl,_,_⟩:=h.shape
 rcases Nat.eq_zero_or_pos n with h0 | h0
 ·subst h0;refine(AnyE.slices_ContainsFunc_empty zV A c _ w).mono ?_;rintro e w' ⟨rfl,rfl⟩;exact⟨rfl,Below.refl _ _⟩
 ·obtain⟨g,o,rfl,F⟩:=h.at_ h0;refine(AnyE.slices_ContainsFunc zV Value.string (fun x=>decide (12<x.size)) 81 #[] (enters_of func81 rfl rfl) g o n c ((List.range n).map s) w (fun W x _=>GM x W) (by simp) oM (fun j G=> ?_)).mono ?_
  ·have t:j<n:=by simpa using G
   rw[F j t];simp[t]
  ·rintro e w' ⟨rfl,q,rfl⟩;refine⟨?_,below_drewN _ _ _⟩;unfold qY;rw[List.take_of_length_le (by simp)]
def TLs(w:World)(v:Value)(q:Nat)(k:Nat -> Nat)(s:Nat -> Nat -> ByteArray):Prop:=
 ∃A c,v= .slice A q c /\ q <= c /\ c <= maxLen /\ (q=0 \/ ∃g o,A=some ⟨g,o,none⟩ /\ ∀i,i<q -> ∃u,w.cell? ⟨g,o+i,none⟩=some u /\ TS w u (k i) (s i))
theorem TLs.at_{w:World}{A:Option Addr}{c q:Nat}{k:Nat -> Nat}{s:Nat -> Nat -> ByteArray}(h:TLs w (.slice A q c) q k s)(F:0<q):∃g o,A=some ⟨g,o,none⟩ /\ ∀i,i<q -> ∃u,w.cell? ⟨g,o+i,none⟩=some u /\ TS w u (k i) (s i):=by
 obtain⟨A',c',E,_,_,t⟩:=h;simp only[Value.slice.injEq,true_and] at E;obtain⟨rfl,rfl⟩:=E
 rcases t with t | t
 ·omega
 ·exact t
theorem TLs.below{w w':World}{v:Value}{q:Nat}{k:Nat -> Nat}{s:Nat -> Nat -> ByteArray}(h:TLs w v q k s)(t:Below w.heap.size w w'):TLs w' v q k s:=by
 obtain⟨A,c,U,h1,G,M⟩:=h;refine⟨A,c,U,h1,G,M.imp id fun⟨g,o,O,T⟩=>⟨g,o,O,fun i R=> ?_⟩⟩;obtain⟨u,E,F⟩:=T i R;exact⟨u,cell_below t E,F.below t⟩
def og(most q:Nat)(k:Nat -> Nat)(s:Nat -> Nat -> ByteArray):Prop:=∀i,i<q -> k i <= most /\ ∀j,j<k i -> (s i j).size <= 12
set_option maxHeartbeats 1600000 in
theorem vN(E:Nat)(v:Value)(q:Nat)(k:Nat -> Nat)(s:Nat -> Nat -> ByteArray)(w:World)(h:TLs w v q k s)(hm:E <= 1000)(hq:q <= 1000000000):
  Calls prog 43 #[.int .i64 E,v] w fun e w'=>((og E q k s /\ e= .returned (.bool true)) \/ (¬og E q k s /\ e= .returned (.bool false))) /\ Below w.heap.size w w':=by
 obtain⟨A,c,rfl,_⟩:∃A c,v= .slice A q c /\ True:=by obtain⟨A,c,hv,_⟩:=h;exact⟨A,c,hv,trivial⟩
 have HL:=lH h;have HM:=lH hm;clear h hm;go_enter func43,ntmps43;go_wp2_with fail
 go_loopw [9] (fun iv wr=>∃p:Nat,((p:Nat):Int) <= ((q:Nat):Int) /\ iv= .int .i64 p /\ Hid (og E p k s) /\ Below w.heap.size w wr)
  (fun iv _=>q-(intOf iv).toNat)
 case atStart=>exact⟨0,by omega,rfl,lH (fun i hi=>absurd hi oM),Below.refl _ _⟩
 case round=>
  obtain⟨p,hp,rfl,hz,hb⟩:=hrel;have HZ:=lH hz.o;have F:=lH hb;clear hz hb;by_cases a9:((p:Nat):Int)<((q:Nat):Int)
  ·have U:p<q:=oM
   obtain⟨gA,oA,rfl,a3⟩:=HL.o.at_ oM;obtain⟨u,hu,Z⟩:=a3 p U;obtain⟨X,x,rfl,_,_⟩:=Z.shape;have a1:=lH (Z.below F.o);have kc:=cell_below F.o hu;have a8:=eG kc;obtain⟨G,R⟩:=eX (k p);rw[<- R] at kc a1;have M:=lH R;clear a3 Z hu R;by_cases T:E<G
   ·have a4:((E:Nat):Int)<((G:Nat):Int):=oM
    have O:Hid (¬og E q k s):=lH (fun h=>by have:=(h p U).1;rw[<- M.o] at this;omega);clear T;go_wp2_with fail
    go_returns;exact⟨.inr ⟨O.o,rfl⟩,F.o⟩
   ·have a4:((G:Nat):Int) <= ((E:Nat):Int):=oM
    have a6:decide (((E:Nat):Int)<((G:Nat):Int))=false:=decide_eq_false oM;have a7:decide (E<G)=false:=decide_eq_false T;have a0:Hid (G <= E):=lH oM;clear T;go_wp2_with fail
    clear kc a8 a4 a6 a7;refine(GQ _ G (s p) _ a1.o (by have:=a0.o;have:=HM.o;omega)).mono ?_;rintro e w2 ⟨rfl,a2⟩;replace F:=bT F a2;clear a2;obtain⟨t,Y⟩:=eX (qY G (s p));rw[<- Y];have HT:=lH Y;clear Y;cases t
    ·have a5:=lH (zW.1 HT.o.symm);go_wp2_with fail
     go_roundw
     case rel=>exact⟨p+1,by omega,by go_num,lH (fun i hi=>by by_cases e:i=p;subst e;rw[<- M.o];exact⟨a0.o,a5.o⟩;exact HZ.o i oM),F.o⟩
     case measure=>simp[intOf];omega
    ·have O:Hid (¬og E q k s):=lH (fun h=>by have h2:=(h p U).2;rw[<- M.o] at h2;have:=zW.2 h2;rw[<- HT.o] at this;cases this);go_wp2_with fail
     go_returns;exact⟨.inr ⟨O.o,rfl⟩,F.o⟩
  ·obtain rfl:p=q:=oM
   go_wp2_with fail
   go_returns;exact⟨.inl ⟨HZ.o,rfl⟩,F.o⟩
end
end Go.Proofs.YtdefghfjhgmpfaaGreatDoor
