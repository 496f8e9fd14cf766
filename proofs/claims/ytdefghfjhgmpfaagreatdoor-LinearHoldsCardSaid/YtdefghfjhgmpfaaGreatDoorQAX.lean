/- Parts of this proof: QRef Reads ParseM ShelfL. -/
import Derived.Test.YtdefghfjhgmpfaaGreatDoorQAW
import Derived.Test.YtdefghfjhgmpfaaGreatDoorQAT
import Derived.Test.YtdefghfjhgmpfaaGreatDoorProg
import Derived.Shelf.SlicesE.Clone
import Derived.Shelf.SlicesE.Equal
import Derived.Shelf.SlicesE.IndexFunc
namespace Go.Proofs.YtdefghfjhgmpfaaGreatDoor
section
open Go.RowKit
theorem list_nil{a:ByteArray}(h:¬0<a.size):a.data.toList= []:=List.eq_nil_of_length_eq_zero (by rw[list_size];omega)
theorem dgs_parts{l:List UInt8}(h:dgs l=true):l≠ [] /\ ∀c ∈ l,isDg c=true:=by
 unfold dgs at h;rw[Bool.and_eq_true,decide_eq_true_iff] at h;exact⟨h.1,List.all_eq_true.1 h.2⟩
theorem itoa_one:Lib.itoa 1= [49]:=by decide+kernel
theorem txt_ne1{g:Nat}(h:g≠1):(txt ((g:Nat):Int)).toList≠ [49]:=by
 rw[ByteArray.toList_eq,txt_list];intro e;have h2:Lib.itoa ((g:Nat):Int)=Lib.itoa 1:=by rw[e,itoa_one]
 have:=itoa_inj h2;omega
theorem fewm_len{a:Int}(h:(Lib.itoa a).length <= 65536):FewM a:=by
 unfold FewM;have h1:=digsT_le a.natAbs
 have h2:(Lib.decDigits a.natAbs).length <= (Lib.itoa a).length:=by
  by_cases h:a<0
  ·rw[itoa_neg h];simp
  ·rw[itoa_nonneg' h];exact Nat.le_refl _
 omega
theorem ref_gcd{l:List UInt8}{r:Nat}(hr:r=rchk l)(h1:¬(dgs (body (cutA l))=false \/ dgs (partB l)=false))(h2:¬(partB l).all (· ==48)=true)
  (h3:¬((1<(body (cutA l)).length /\ (body (cutA l)).head? =some 48) \/ cutA l= [45,48] \/ (partB l).head? =some 48)) (hc:cutR l≠ []) (hb:partB l≠ [49]):
  ∃x y:Int,cutA l=Lib.itoa x /\ partB l=Lib.itoa y /\ x.natAbs=dv (body (cutA l)) /\ y.natAbs=dv (partB l) /\ r=if Nat.gcd x.natAbs y.natAbs=1 then 0 else 3:=by
 have hA:dgs (body (cutA l))=true:=by simpa using fun h=>h1 (.inl h)
 have hB:dgs (partB l)=true:=by simpa using fun h=>h1 (.inr h)
 have ha0:chk (cutA l)=0:=by
  rcases chk_dgs hA with h | h
  ·exact h
  ·exfalso
   have h4:rchk (cutA l++47:: [50])=3:=by
    obtain⟨e1,e2⟩:=cut_append (b:=[50]) (cutA_no l);have e3:cutB (cutA l++47:: [50])= [50]:=by unfold cutB;rw[e2];rfl
    unfold rchk;rw[e1,e3,e2,if_neg (by simp),if_neg (by rintro(e | e | e);exact chk_dgs_ne hA e;cases e;revert e;decide),if_neg (by decide),if_pos (.inl h)]
   obtain⟨e1,e2⟩:=cut_append (b:=[50]) (cutA_no l);have e3:partB (cutA l++47:: [50])= [50]:=by unfold partB cutB;rw[e2];rfl
   rw[rchk_ref,e1,e3,if_neg (by rintro(e | e);rw[hA] at e;cases e;revert e;decide),if_neg (by decide)] at h4;unfold chk at h;have hd:=dgs_not hA;rw[if_neg (fun e=>hd (.inl e)),if_neg (fun e=>hd (.inr e))] at h;split at h
   ·rename_i hh
    rcases hh.2 with hh2 | hh2
    ·exact h3 (.inl ⟨hh2,hh.1⟩)
    ·by_cases hl:1<(body (cutA l)).length
     ·exact h3 (.inl ⟨hl,hh.1⟩)
     ·refine h3 (.inr (.inl ?_));obtain⟨a,haa⟩:=eX (cutA l);rw[<- haa] at hh hh2 hl ⊢;cases a with
      | nil=>cases hh2
      | cons c a=>
       obtain rfl:c=45:=by simpa using hh2
       have hb:body (45::a)=a:=by unfold body;simp
       rw[hb] at hh hl;cases a with
       | nil=>cases hh.1
       | cons d a=>
        obtain rfl:d=48:=by simpa using hh.1
        have:a= []:=List.eq_nil_of_length_eq_zero (by simp only[List.length_cons] at hl;omega);rw[this]
   ·omega
 obtain⟨x,hx,hxb,_⟩:=chk_ok ha0;obtain⟨hp1,hp2⟩:=dgs_parts hB;have hh48:(partB l).head? ≠some 48:=fun e=>h3 (.inr (.inr e))
 have hdv:=dec_dv (partB l) hp1 hp2 (fun e=>absurd e hh48);refine⟨x,(dv (partB l):Nat),hx,?_,?_,by simp,?_⟩
 ·rw[itoa_nonneg' (by omega),Int.natAbs_natCast,hdv]
 ·rw[hxb,dv_dec]
 ·have hxe:x.natAbs=dv (body (cutA l)):=by rw[hxb,dv_dec]
  rw[hr,rchk_ref,if_neg h1,if_neg h2,if_neg h3,Int.natAbs_natCast,hxe];by_cases hg:Nat.gcd (dv (body (cutA l))) (dv (partB l))=1
  ·rw[if_pos hg,if_neg (fun e=>e.2.elim hb (fun h=>h hg))]
  ·rw[if_neg hg,if_pos ⟨hc, .inr hg⟩]
set_option maxRecDepth 100000 in
set_option maxHeartbeats 6400000 in
theorem qcheck_walk(s:ByteArray)(w:World)(hs:s.size <= 65536):Calls Tryz.prog 70 #[.string s, .int .i64 65536] w fun e w'=>e= .returned (.int .i64 (rchk s.data.toList:Nat)) /\ Below w.heap.size w w':=by
 have hpw:=lH (parts_walk s w (by omega));have hsw:=lH (fun w=>slash_walk s w (by omega));obtain⟨l,hl⟩:=eX (s.data.toList);obtain⟨r,hr⟩:=eX (rchk l);have hll:l.length=s.size:=by rw[hl,list_size]
 rw[<- hl] at hpw hsw ⊢;rw[<- hr];have HR:=lH hr;have HLL:=lH hll;have HLS:=lH hl;have HS:=lH hs;have hsi:((s.size:Nat):Int) <= 65536:=by omega
 have hsd:decide ((65536:Int)<((s.size:Nat):Int))=false:=decide_eq_false (by omega);have hsn:decide (65536<s.size)=false:=decide_eq_false (by omega);clear hr hl hll hs;go_enter Tryz.func70,Tryz.ntmps70;go_wp2_with fail
 clear hsi hsd hsn;refine hpw.out.mono ?_;rintro e w1 ⟨a,b,rfl,ha,hb,hb1⟩;have HA:=lH ha;have HPB:=lH hb;have HB:=lH hb1
 have has:a.size <= 65536:=by
  rw[<- list_size,ha];have h1:=congrArg List.length (cut_join l);rw[List.length_append,HLL.out] at h1;have:=HS.out;omega
 have hbs:b.size <= 65536:=by
  rw[<- list_size,hb];unfold partB;split
  ·simp
  ·have h1:=congrArg List.length (cut_join l);rw[List.length_append,HLL.out] at h1;unfold cutB;rw[List.length_tail];have:=HS.out;omega
 have HSZ:=lH (And.intro has hbs);clear ha hb hb1 has hbs hpw;by_cases h0:¬0<a.size
 ·have hA0:dgs (body (cutA l))=false:=by rw[<- HA.out,list_nil h0];rfl
  have HA0:Hid (dgs a.data.toList=false):=lH (by rw[list_nil h0];rfl);have h0d:decide ((0:Int)<((a.size:Nat):Int))=false:=decide_eq_false (by omega);have h0n:decide (0<a.size)=false:=decide_eq_false (by omega);have hrv:r=14:=by rw[HR.out,rchk_ref,if_pos (.inl hA0)]
  clear hA0 h0;subst hrv;go_wp2_with fail
  clear h0d h0n;refine(qdigits_walk a _ (by have:=HSZ.out.1;omega)).mono ?_;rintro e w2 ⟨rfl,rfl⟩;rw[HA0.out];go_wp2_with fail
  go_returns;exact⟨rfl,HB.out⟩
 ·replace h0:0<a.size:=by omega
  have h0i:(0:Int)<((a.size:Nat):Int):=by omega
  have hg0:=get_list a 0 h0;have hhead:(cutA l).head? =some a[0]:=by rw[<- HA.out,hg0,List.head?_eq_getElem?,List.getElem?_eq_getElem (by rw[list_size];exact h0)]
  obtain⟨x,hx⟩:∃x:Nat,a[0].toNat=x:=⟨_,rfl⟩
  have h45i:a[0]=45↔x=45:=by
   rw[<- hx];exact⟨fun h=>by rw[h];rfl,fun h=>UInt8.toNat_inj.1 (by rw[h];rfl)⟩
  have HHD:=lH hhead;have H45:=lH h45i;clear hg0 hhead h45i;by_cases hx45:x=45
  ·have hbd:(a.extract 1 a.size).data.toList=body (cutA l):=by
    unfold body;rw[if_pos (by rw[HHD.out,H45.out.2 hx45]),extract_list,HA.out,List.take_of_length_le (by rw[<- HA.out,list_size];exact Nat.le_refl _),List.drop_one]
   obtain⟨D,hD⟩:∃D,a.extract 1 a.size=D:=⟨_,rfl⟩
   have hds:D.size<a.size:=by rw[<- hD,ByteArray.size_extract];omega
   rw[hD] at hbd;have HD:=lH hbd;have HDS:Hid (D.size <= 65536):=lH (by have:=HSZ.out.1;omega);have h1i:(1:Int) <= ((a.size:Nat):Int):=by omega
   have hasi:((a.size:Nat):Int) <= 65536:=by have:=HSZ.out.1;omega
   clear hbd hds;subst hx45;go_wp2_with fail
   clear HHD H45 hx h0i h0 h1i hasi hD;refine(qdigits_walk D _ (by have:=HDS.out;omega)).mono ?_;rintro e w2 ⟨rfl,rfl⟩;obtain⟨p,hp⟩:=eX (dgs D.data.toList);rw[<- hp];rw[HD.out] at hp;have HP:=lH hp;clear hp;cases p
   ·have hrv:r=14:=by rw[HR.out,rchk_ref,if_pos (.inl HP.out.symm)]
    subst hrv;go_wp2_with fail
    go_returns;exact⟨rfl,HB.out⟩
   ·go_wp2_with fail
    refine(qdigits_walk b _ (by have:=HSZ.out.2;omega)).mono ?_;rintro e w2 ⟨rfl,rfl⟩;obtain⟨p,hp⟩:=eX (dgs b.data.toList);rw[<- hp];rw[HPB.out] at hp;have HPP:=lH hp;clear hp;cases p
    ·have hrv:r=14:=by rw[HR.out,rchk_ref,if_pos (.inr HPP.out.symm)]
     subst hrv;go_wp2_with fail
     go_returns;exact⟨rfl,HB.out⟩
    ·have HN1:Hid (¬(dgs (body (cutA l))=false \/ dgs (partB l)=false)):=lH (by rw[<- HP.out, <- HPP.out];simp);go_wp2_with fail
     refine(qzeros_walk b _ (by have:=HSZ.out.2;omega)).mono ?_;rintro e w2 ⟨rfl,rfl⟩;obtain⟨p,hp⟩:=eX (b.data.toList.all (· ==48));rw[<- hp];rw[HPB.out] at hp;have HZ:=lH hp;clear hp;cases p
     ·have HN2:Hid (¬(partB l).all (· ==48)=true):=lH (by rw[<- HZ.out];simp)
      have hd0:0<D.size:=by
       have h1:=(dgs_parts HP.out.symm).1;rw[<- HD.out] at h1;have:=List.length_pos_iff.2 h1;rw[list_size] at this;exact this
      have hb0:0<b.size:=by
       have h1:=(dgs_parts HPP.out.symm).1;rw[<- HPB.out] at h1;have:=List.length_pos_iff.2 h1;rw[list_size] at this;exact this
      obtain⟨d,hd,HHd⟩:∃x:Nat,D[0].toNat=x /\ Hid ((body (cutA l)).head? =some 48↔x=48):=⟨_,rfl,lH (by
       rw[<- HD.out,List.head?_eq_getElem?,List.getElem?_eq_getElem (by rw[list_size];assumption), <- get_list D 0 (by assumption),Option.some.injEq]
       exact⟨fun h=>by rw[h];rfl,fun h=>UInt8.toNat_inj.1 (by rw[h];rfl)⟩)⟩
      obtain⟨e,he,HHe⟩:∃x:Nat,b[0].toNat=x /\ Hid ((partB l).head? =some 48↔x=48):=⟨_,rfl,lH (by
       rw[<- HPB.out,List.head?_eq_getElem?,List.getElem?_eq_getElem (by rw[list_size];assumption), <- get_list b 0 (by assumption),Option.some.injEq]
       exact⟨fun h=>by rw[h];rfl,fun h=>UInt8.toNat_inj.1 (by rw[h];rfl)⟩)⟩
      have hb0i:(0:Int)<((b.size:Nat):Int):=by omega
      have hd0i:(0:Int)<((D.size:Nat):Int):=by omega
      have HLD:Hid ((body (cutA l)).length=D.size):=lH (by rw[<- HD.out,list_size]);by_cases h1:1<D.size
      ·have h1i:(1:Int)<((D.size:Nat):Int):=by omega
       by_cases hd48:d=48
       ·have hrv:r=3:=by rw[HR.out,rchk_ref,if_neg HN1.out,if_neg HN2.out,if_pos (.inl ⟨by rw[HLD.out];exact h1,HHd.out.2 hd48⟩)]
        subst hrv;subst hd48;go_wp2_with fail
        go_returns;exact⟨rfl,HB.out⟩
       ·have hde:(((d:Nat):Int)==48)=false:=by rw[beq_eq_false_iff_ne];omega
        have HK1:Hid (¬(1<(body (cutA l)).length /\ (body (cutA l)).head? =some 48)):=lH (fun h=>hd48 (HHd.out.1 h.2));clear h1 hd48;by_cases hm:a.toList= [45,48]
        ·have hm1:(a.toList== [45,48])=true:=by rw[beq_iff_eq];exact hm
         have hrv:r=3:=by rw[HR.out,rchk_ref,if_neg HN1.out,if_neg HN2.out,if_pos (.inr (.inl (by rw[<- HA.out, <- ByteArray.toList_eq];exact hm)))]
         subst hrv;go_wp2_with fail
         go_returns;exact⟨rfl,HB.out⟩
        ·have hm1:(a.toList== [45,48])=false:=by rw[beq_eq_false_iff_ne];exact hm
         have HK2:Hid (cutA l≠ [45,48]):=lH (by rw[<- HA.out, <- ByteArray.toList_eq];exact hm);by_cases he48:e=48
         ·have hrv:r=3:=by rw[HR.out,rchk_ref,if_neg HN1.out,if_neg HN2.out,if_pos (.inr (.inr (HHe.out.2 he48)))]
          subst hrv;subst he48;go_wp2_with fail
          go_returns;exact⟨rfl,HB.out⟩
         ·have hee:(((e:Nat):Int)==48)=false:=by rw[beq_eq_false_iff_ne];omega
          have HK3:Hid (¬((1<(body (cutA l)).length /\ (body (cutA l)).head? =some 48) \/ cutA l= [45,48] \/ (partB l).head? =some 48)):=lH (by rintro(h | h | h);exact HK1.out h;exact HK2.out h;exact he48 (HHe.out.1 h));have HE48:=lH he48;clear he48;go_wp2_with fail
          clear hee hm hm1 he hd hb0i hd0i hde h1i;refine(hsw.out _).mono ?_;rintro e w2 ⟨rfl,rfl⟩;obtain⟨c,hc⟩:=eX ((cutA l).length);rw[<- hc];have HC:=lH hc;clear hc;by_cases hcs:¬c<s.size
          ·have hci:((s.size:Nat):Int) <= ((c:Nat):Int):=by omega
           have hcd:decide (((c:Nat):Int)<((s.size:Nat):Int))=false:=decide_eq_false (by omega);have hcn:decide (c<s.size)=false:=decide_eq_false (by omega)
           have hrv:r=0:=by
            have h1:=congrArg List.length (cut_join l);rw[List.length_append,HLL.out, <- HC.out] at h1;have h2:cutR l= []:=List.eq_nil_of_length_eq_zero (by omega);rw[HR.out,rchk_ref,if_neg HN1.out,if_neg HN2.out,if_neg HK3.out,if_neg (fun h=>h.1 h2)]
           subst hrv;clear hcs;go_wp2_with fail
           go_returns;exact⟨rfl,HB.out⟩
          ·have hci:((c:Nat):Int)<((s.size:Nat):Int):=by omega
           have HCR:Hid (cutR l≠ []):=lH (fun h=>by have h1:=congrArg List.length (cut_join l);rw[List.length_append,HLL.out, <- HC.out,h] at h1;simp at h1;omega);clear hcs;by_cases hbo:b.toList= [49]
           ·have hb1:(b.toList== [49])=true:=by rw[beq_iff_eq];exact hbo
            have hrv:r=3:=by rw[HR.out,rchk_ref,if_neg HN1.out,if_neg HN2.out,if_neg HK3.out,if_pos ⟨HCR.out, .inl (by rw[<- HPB.out, <- ByteArray.toList_eq];exact hbo)⟩]
            subst hrv;go_wp2_with fail
            go_returns;exact⟨rfl,HB.out⟩
           ·have hb1:(b.toList== [49])=false:=by rw[beq_eq_false_iff_ne];exact hbo
            have HB1:=lH hbo;have hgg:=ref_gcd HR.out HN1.out HN2.out HK3.out HCR.out (by rw[<- HPB.out, <- ByteArray.toList_eq];exact hbo);obtain⟨x,y,hxa,hyb,hx1,hy1,hrr⟩:=hgg;have hax:a=txt x:=txt_ba (by rw[HA.out];exact hxa);have hby:b=txt y:=txt_ba (by rw[HPB.out];exact hyb);have HFX:Hid (FewM x):=lH (fewm_len (by rw[<- hxa, <- HA.out,list_size];have:=HSZ.out.1;omega));have HFY:Hid (FewM y):=lH (fewm_len (by rw[<- hyb, <- HPB.out,list_size];have:=HSZ.out.2;omega));have HRR:=lH hrr;clear hbo hxa hyb hx1 hy1 hrr;subst hax;subst hby;go_wp2_with fail
            clear hci hb1;refine(rgcd_walk x y _ HFX.out HFY.out).mono ?_;rintro e w3 ⟨rfl,hb3⟩;replace HB:=bT HB hb3;clear hb3;by_cases hgc:Nat.gcd x.natAbs y.natAbs=1
            ·rw[hgc];obtain⟨T,hT⟩:=eX (txt ((1:Nat):Int));rw[<- hT];have h1t:T.toList= [49]:=by rw[hT,ByteArray.toList_eq,txt_list];exact itoa_one
             have h1b:(T.toList== [49])=true:=by rw[h1t];rfl
             have h1n:(T.toList != [49])=false:=by rw[h1t];rfl
             have hrv:r=0:=by rw[HRR.out,if_pos hgc]
             clear hT;subst hrv;go_wp2_with fail
             go_returns;exact⟨rfl,HB.out⟩
            ·have hrv:r=3:=by rw[HRR.out,if_neg hgc]
             obtain⟨T,hT⟩:=eX (txt ((Nat.gcd x.natAbs y.natAbs:Nat):Int));rw[<- hT];have h1t:T.toList≠ [49]:=by rw[hT];exact txt_ne1 hgc
             have h1b:(T.toList== [49])=false:=by rw[beq_eq_false_iff_ne];exact h1t
             have h1n:(T.toList != [49])=true:=by rw[bne,h1b];rfl
             clear hT hgc;subst hrv;go_wp2_with fail
             go_returns;exact⟨rfl,HB.out⟩
      ·have h1i:((D.size:Nat):Int) <= 1:=by omega
       have h1d:decide ((1:Int)<((D.size:Nat):Int))=false:=decide_eq_false (by omega);have h1n:decide (1<D.size)=false:=decide_eq_false (by omega);have HK1:Hid (¬(1<(body (cutA l)).length /\ (body (cutA l)).head? =some 48)):=lH (fun h=>h1 (by rw[<- HLD.out];exact h.1));clear h1;by_cases hm:a.toList= [45,48]
       ·have hm1:(a.toList== [45,48])=true:=by rw[beq_iff_eq];exact hm
        have hrv:r=3:=by rw[HR.out,rchk_ref,if_neg HN1.out,if_neg HN2.out,if_pos (.inr (.inl (by rw[<- HA.out, <- ByteArray.toList_eq];exact hm)))]
        subst hrv;go_wp2_with fail
        go_returns;exact⟨rfl,HB.out⟩
       ·have hm1:(a.toList== [45,48])=false:=by rw[beq_eq_false_iff_ne];exact hm
        have HK2:Hid (cutA l≠ [45,48]):=lH (by rw[<- HA.out, <- ByteArray.toList_eq];exact hm);by_cases he48:e=48
        ·have hrv:r=3:=by rw[HR.out,rchk_ref,if_neg HN1.out,if_neg HN2.out,if_pos (.inr (.inr (HHe.out.2 he48)))]
         subst hrv;subst he48;go_wp2_with fail
         go_returns;exact⟨rfl,HB.out⟩
        ·have hee:(((e:Nat):Int)==48)=false:=by rw[beq_eq_false_iff_ne];omega
         have HK3:Hid (¬((1<(body (cutA l)).length /\ (body (cutA l)).head? =some 48) \/ cutA l= [45,48] \/ (partB l).head? =some 48)):=lH (by rintro(h | h | h);exact HK1.out h;exact HK2.out h;exact he48 (HHe.out.1 h));have HE48:=lH he48;clear he48;go_wp2_with fail
         clear hee hm hm1 he hd hb0i hd0i h1i h1d h1n;refine(hsw.out _).mono ?_;rintro e w2 ⟨rfl,rfl⟩;obtain⟨c,hc⟩:=eX ((cutA l).length);rw[<- hc];have HC:=lH hc;clear hc;by_cases hcs:¬c<s.size
         ·have hci:((s.size:Nat):Int) <= ((c:Nat):Int):=by omega
          have hcd:decide (((c:Nat):Int)<((s.size:Nat):Int))=false:=decide_eq_false (by omega);have hcn:decide (c<s.size)=false:=decide_eq_false (by omega)
          have hrv:r=0:=by
           have h1:=congrArg List.length (cut_join l);rw[List.length_append,HLL.out, <- HC.out] at h1;have h2:cutR l= []:=List.eq_nil_of_length_eq_zero (by omega);rw[HR.out,rchk_ref,if_neg HN1.out,if_neg HN2.out,if_neg HK3.out,if_neg (fun h=>h.1 h2)]
          subst hrv;clear hcs;go_wp2_with fail
          go_returns;exact⟨rfl,HB.out⟩
         ·have hci:((c:Nat):Int)<((s.size:Nat):Int):=by omega
          have HCR:Hid (cutR l≠ []):=lH (fun h=>by have h1:=congrArg List.length (cut_join l);rw[List.length_append,HLL.out, <- HC.out,h] at h1;simp at h1;omega);clear hcs;by_cases hbo:b.toList= [49]
          ·have hb1:(b.toList== [49])=true:=by rw[beq_iff_eq];exact hbo
           have hrv:r=3:=by rw[HR.out,rchk_ref,if_neg HN1.out,if_neg HN2.out,if_neg HK3.out,if_pos ⟨HCR.out, .inl (by rw[<- HPB.out, <- ByteArray.toList_eq];exact hbo)⟩]
           subst hrv;go_wp2_with fail
           go_returns;exact⟨rfl,HB.out⟩
          ·have hb1:(b.toList== [49])=false:=by rw[beq_eq_false_iff_ne];exact hbo
           have HB1:=lH hbo;have hgg:=ref_gcd HR.out HN1.out HN2.out HK3.out HCR.out (by rw[<- HPB.out, <- ByteArray.toList_eq];exact hbo);obtain⟨x,y,hxa,hyb,hx1,hy1,hrr⟩:=hgg;have hax:a=txt x:=txt_ba (by rw[HA.out];exact hxa);have hby:b=txt y:=txt_ba (by rw[HPB.out];exact hyb);have HFX:Hid (FewM x):=lH (fewm_len (by rw[<- hxa, <- HA.out,list_size];have:=HSZ.out.1;omega));have HFY:Hid (FewM y):=lH (fewm_len (by rw[<- hyb, <- HPB.out,list_size];have:=HSZ.out.2;omega));have HRR:=lH hrr;clear hbo hxa hyb hx1 hy1 hrr;subst hax;subst hby;go_wp2_with fail
           clear hci hb1;refine(rgcd_walk x y _ HFX.out HFY.out).mono ?_;rintro e w3 ⟨rfl,hb3⟩;replace HB:=bT HB hb3;clear hb3;by_cases hgc:Nat.gcd x.natAbs y.natAbs=1
           ·rw[hgc];obtain⟨T,hT⟩:=eX (txt ((1:Nat):Int));rw[<- hT];have h1t:T.toList= [49]:=by rw[hT,ByteArray.toList_eq,txt_list];exact itoa_one
            have h1b:(T.toList== [49])=true:=by rw[h1t];rfl
            have h1n:(T.toList != [49])=false:=by rw[h1t];rfl
            have hrv:r=0:=by rw[HRR.out,if_pos hgc]
            clear hT;subst hrv;go_wp2_with fail
            go_returns;exact⟨rfl,HB.out⟩
           ·have hrv:r=3:=by rw[HRR.out,if_neg hgc]
            obtain⟨T,hT⟩:=eX (txt ((Nat.gcd x.natAbs y.natAbs:Nat):Int));rw[<- hT];have h1t:T.toList≠ [49]:=by rw[hT];exact txt_ne1 hgc
            have h1b:(T.toList== [49])=false:=by rw[beq_eq_false_iff_ne];exact h1t
            have h1n:(T.toList != [49])=true:=by rw[bne,h1b];rfl
            clear hT hgc;subst hrv;go_wp2_with fail
            go_returns;exact⟨rfl,HB.out⟩
     ·have hrv:r=19:=by rw[HR.out,rchk_ref,if_neg HN1.out,if_pos HZ.out.symm]
      subst hrv;go_wp2_with fail
      go_returns;exact⟨rfl,HB.out⟩
  ·have hbd:a.data.toList=body (cutA l):=by
    unfold body;rw[if_neg (by rw[HHD.out];exact fun e=>hx45 (H45.out.1 (by simpa using e))),HA.out]
   have HD:=lH hbd;have HDS:Hid (a.size <= 65536):=lH HSZ.out.1;have hxe:(((x:Nat):Int)==45)=false:=by rw[beq_eq_false_iff_ne];omega
   clear hbd hx45;go_wp2_with fail
   clear HHD H45 hx h0i h0 hxe;refine(qdigits_walk a _ (by have:=HDS.out;omega)).mono ?_;rintro e w2 ⟨rfl,rfl⟩;obtain⟨p,hp⟩:=eX (dgs a.data.toList);rw[<- hp];rw[HD.out] at hp;have HP:=lH hp;clear hp;cases p
   ·have hrv:r=14:=by rw[HR.out,rchk_ref,if_pos (.inl HP.out.symm)]
    subst hrv;go_wp2_with fail
    go_returns;exact⟨rfl,HB.out⟩
   ·go_wp2_with fail
    refine(qdigits_walk b _ (by have:=HSZ.out.2;omega)).mono ?_;rintro e w2 ⟨rfl,rfl⟩;obtain⟨p,hp⟩:=eX (dgs b.data.toList);rw[<- hp];rw[HPB.out] at hp;have HPP:=lH hp;clear hp;cases p
    ·have hrv:r=14:=by rw[HR.out,rchk_ref,if_pos (.inr HPP.out.symm)]
     subst hrv;go_wp2_with fail
     go_returns;exact⟨rfl,HB.out⟩
    ·have HN1:Hid (¬(dgs (body (cutA l))=false \/ dgs (partB l)=false)):=lH (by rw[<- HP.out, <- HPP.out];simp);go_wp2_with fail
     refine(qzeros_walk b _ (by have:=HSZ.out.2;omega)).mono ?_;rintro e w2 ⟨rfl,rfl⟩;obtain⟨p,hp⟩:=eX (b.data.toList.all (· ==48));rw[<- hp];rw[HPB.out] at hp;have HZ:=lH hp;clear hp;cases p
     ·have HN2:Hid (¬(partB l).all (· ==48)=true):=lH (by rw[<- HZ.out];simp)
      have hd0:0<a.size:=by
       have h1:=(dgs_parts HP.out.symm).1;rw[<- HD.out] at h1;have:=List.length_pos_iff.2 h1;rw[list_size] at this;exact this
      have hb0:0<b.size:=by
       have h1:=(dgs_parts HPP.out.symm).1;rw[<- HPB.out] at h1;have:=List.length_pos_iff.2 h1;rw[list_size] at this;exact this
      obtain⟨d,hd,HHd⟩:∃x:Nat,a[0].toNat=x /\ Hid ((body (cutA l)).head? =some 48↔x=48):=⟨_,rfl,lH (by
       rw[<- HD.out,List.head?_eq_getElem?,List.getElem?_eq_getElem (by rw[list_size];assumption), <- get_list a 0 (by assumption),Option.some.injEq]
       exact⟨fun h=>by rw[h];rfl,fun h=>UInt8.toNat_inj.1 (by rw[h];rfl)⟩)⟩
      obtain⟨e,he,HHe⟩:∃x:Nat,b[0].toNat=x /\ Hid ((partB l).head? =some 48↔x=48):=⟨_,rfl,lH (by
       rw[<- HPB.out,List.head?_eq_getElem?,List.getElem?_eq_getElem (by rw[list_size];assumption), <- get_list b 0 (by assumption),Option.some.injEq]
       exact⟨fun h=>by rw[h];rfl,fun h=>UInt8.toNat_inj.1 (by rw[h];rfl)⟩)⟩
      have hb0i:(0:Int)<((b.size:Nat):Int):=by omega
      have hd0i:(0:Int)<((a.size:Nat):Int):=by omega
      have HLD:Hid ((body (cutA l)).length=a.size):=lH (by rw[<- HD.out,list_size]);by_cases h1:1<a.size
      ·have h1i:(1:Int)<((a.size:Nat):Int):=by omega
       by_cases hd48:d=48
       ·have hrv:r=3:=by rw[HR.out,rchk_ref,if_neg HN1.out,if_neg HN2.out,if_pos (.inl ⟨by rw[HLD.out];exact h1,HHd.out.2 hd48⟩)]
        subst hrv;subst hd48;go_wp2_with fail
        go_returns;exact⟨rfl,HB.out⟩
       ·have hde:(((d:Nat):Int)==48)=false:=by rw[beq_eq_false_iff_ne];omega
        have HK1:Hid (¬(1<(body (cutA l)).length /\ (body (cutA l)).head? =some 48)):=lH (fun h=>hd48 (HHd.out.1 h.2));clear h1 hd48;by_cases hm:a.toList= [45,48]
        ·have hm1:(a.toList== [45,48])=true:=by rw[beq_iff_eq];exact hm
         have hrv:r=3:=by rw[HR.out,rchk_ref,if_neg HN1.out,if_neg HN2.out,if_pos (.inr (.inl (by rw[<- HA.out, <- ByteArray.toList_eq];exact hm)))]
         subst hrv;go_wp2_with fail
         go_returns;exact⟨rfl,HB.out⟩
        ·have hm1:(a.toList== [45,48])=false:=by rw[beq_eq_false_iff_ne];exact hm
         have HK2:Hid (cutA l≠ [45,48]):=lH (by rw[<- HA.out, <- ByteArray.toList_eq];exact hm);by_cases he48:e=48
         ·have hrv:r=3:=by rw[HR.out,rchk_ref,if_neg HN1.out,if_neg HN2.out,if_pos (.inr (.inr (HHe.out.2 he48)))]
          subst hrv;subst he48;go_wp2_with fail
          go_returns;exact⟨rfl,HB.out⟩
         ·have hee:(((e:Nat):Int)==48)=false:=by rw[beq_eq_false_iff_ne];omega
          have HK3:Hid (¬((1<(body (cutA l)).length /\ (body (cutA l)).head? =some 48) \/ cutA l= [45,48] \/ (partB l).head? =some 48)):=lH (by rintro(h | h | h);exact HK1.out h;exact HK2.out h;exact he48 (HHe.out.1 h));have HE48:=lH he48;clear he48;go_wp2_with fail
          clear hee hm hm1 he hd hb0i hd0i hde h1i;refine(hsw.out _).mono ?_;rintro e w2 ⟨rfl,rfl⟩;obtain⟨c,hc⟩:=eX ((cutA l).length);rw[<- hc];have HC:=lH hc;clear hc;by_cases hcs:¬c<s.size
          ·have hci:((s.size:Nat):Int) <= ((c:Nat):Int):=by omega
           have hcd:decide (((c:Nat):Int)<((s.size:Nat):Int))=false:=decide_eq_false (by omega);have hcn:decide (c<s.size)=false:=decide_eq_false (by omega)
           have hrv:r=0:=by
            have h1:=congrArg List.length (cut_join l);rw[List.length_append,HLL.out, <- HC.out] at h1;have h2:cutR l= []:=List.eq_nil_of_length_eq_zero (by omega);rw[HR.out,rchk_ref,if_neg HN1.out,if_neg HN2.out,if_neg HK3.out,if_neg (fun h=>h.1 h2)]
           subst hrv;clear hcs;go_wp2_with fail
           go_returns;exact⟨rfl,HB.out⟩
          ·have hci:((c:Nat):Int)<((s.size:Nat):Int):=by omega
           have HCR:Hid (cutR l≠ []):=lH (fun h=>by have h1:=congrArg List.length (cut_join l);rw[List.length_append,HLL.out, <- HC.out,h] at h1;simp at h1;omega);clear hcs;by_cases hbo:b.toList= [49]
           ·have hb1:(b.toList== [49])=true:=by rw[beq_iff_eq];exact hbo
            have hrv:r=3:=by rw[HR.out,rchk_ref,if_neg HN1.out,if_neg HN2.out,if_neg HK3.out,if_pos ⟨HCR.out, .inl (by rw[<- HPB.out, <- ByteArray.toList_eq];exact hbo)⟩]
            subst hrv;go_wp2_with fail
            go_returns;exact⟨rfl,HB.out⟩
           ·have hb1:(b.toList== [49])=false:=by rw[beq_eq_false_iff_ne];exact hbo
            have HB1:=lH hbo;have hgg:=ref_gcd HR.out HN1.out HN2.out HK3.out HCR.out (by rw[<- HPB.out, <- ByteArray.toList_eq];exact hbo);obtain⟨x,y,hxa,hyb,hx1,hy1,hrr⟩:=hgg;have hax:a=txt x:=txt_ba (by rw[HA.out];exact hxa);have hby:b=txt y:=txt_ba (by rw[HPB.out];exact hyb);have HFX:Hid (FewM x):=lH (fewm_len (by rw[<- hxa, <- HA.out,list_size];have:=HSZ.out.1;omega));have HFY:Hid (FewM y):=lH (fewm_len (by rw[<- hyb, <- HPB.out,list_size];have:=HSZ.out.2;omega));have HRR:=lH hrr;clear hbo hxa hyb hx1 hy1 hrr;subst hax;subst hby;go_wp2_with fail
            clear hci hb1;refine(rgcd_walk x y _ HFX.out HFY.out).mono ?_;rintro e w3 ⟨rfl,hb3⟩;replace HB:=bT HB hb3;clear hb3;by_cases hgc:Nat.gcd x.natAbs y.natAbs=1
            ·rw[hgc];obtain⟨T,hT⟩:=eX (txt ((1:Nat):Int));rw[<- hT];have h1t:T.toList= [49]:=by rw[hT,ByteArray.toList_eq,txt_list];exact itoa_one
             have h1b:(T.toList== [49])=true:=by rw[h1t];rfl
             have h1n:(T.toList != [49])=false:=by rw[h1t];rfl
             have hrv:r=0:=by rw[HRR.out,if_pos hgc]
             clear hT;subst hrv;go_wp2_with fail
             go_returns;exact⟨rfl,HB.out⟩
            ·have hrv:r=3:=by rw[HRR.out,if_neg hgc]
             obtain⟨T,hT⟩:=eX (txt ((Nat.gcd x.natAbs y.natAbs:Nat):Int));rw[<- hT];have h1t:T.toList≠ [49]:=by rw[hT];exact txt_ne1 hgc
             have h1b:(T.toList== [49])=false:=by rw[beq_eq_false_iff_ne];exact h1t
             have h1n:(T.toList != [49])=true:=by rw[bne,h1b];rfl
             clear hT hgc;subst hrv;go_wp2_with fail
             go_returns;exact⟨rfl,HB.out⟩
      ·have h1i:((a.size:Nat):Int) <= 1:=by omega
       have h1d:decide ((1:Int)<((a.size:Nat):Int))=false:=decide_eq_false (by omega);have h1n:decide (1<a.size)=false:=decide_eq_false (by omega);have HK1:Hid (¬(1<(body (cutA l)).length /\ (body (cutA l)).head? =some 48)):=lH (fun h=>h1 (by rw[<- HLD.out];exact h.1));clear h1;by_cases hm:a.toList= [45,48]
       ·have hm1:(a.toList== [45,48])=true:=by rw[beq_iff_eq];exact hm
        have hrv:r=3:=by rw[HR.out,rchk_ref,if_neg HN1.out,if_neg HN2.out,if_pos (.inr (.inl (by rw[<- HA.out, <- ByteArray.toList_eq];exact hm)))]
        subst hrv;go_wp2_with fail
        go_returns;exact⟨rfl,HB.out⟩
       ·have hm1:(a.toList== [45,48])=false:=by rw[beq_eq_false_iff_ne];exact hm
        have HK2:Hid (cutA l≠ [45,48]):=lH (by rw[<- HA.out, <- ByteArray.toList_eq];exact hm);by_cases he48:e=48
        ·have hrv:r=3:=by rw[HR.out,rchk_ref,if_neg HN1.out,if_neg HN2.out,if_pos (.inr (.inr (HHe.out.2 he48)))]
         subst hrv;subst he48;go_wp2_with fail
         go_returns;exact⟨rfl,HB.out⟩
        ·have hee:(((e:Nat):Int)==48)=false:=by rw[beq_eq_false_iff_ne];omega
         have HK3:Hid (¬((1<(body (cutA l)).length /\ (body (cutA l)).head? =some 48) \/ cutA l= [45,48] \/ (partB l).head? =some 48)):=lH (by rintro(h | h | h);exact HK1.out h;exact HK2.out h;exact he48 (HHe.out.1 h));have HE48:=lH he48;clear he48;go_wp2_with fail
         clear hee hm hm1 he hd hb0i hd0i h1i h1d h1n;refine(hsw.out _).mono ?_;rintro e w2 ⟨rfl,rfl⟩;obtain⟨c,hc⟩:=eX ((cutA l).length);rw[<- hc];have HC:=lH hc;clear hc;by_cases hcs:¬c<s.size
         ·have hci:((s.size:Nat):Int) <= ((c:Nat):Int):=by omega
          have hcd:decide (((c:Nat):Int)<((s.size:Nat):Int))=false:=decide_eq_false (by omega);have hcn:decide (c<s.size)=false:=decide_eq_false (by omega)
          have hrv:r=0:=by
           have h1:=congrArg List.length (cut_join l);rw[List.length_append,HLL.out, <- HC.out] at h1;have h2:cutR l= []:=List.eq_nil_of_length_eq_zero (by omega);rw[HR.out,rchk_ref,if_neg HN1.out,if_neg HN2.out,if_neg HK3.out,if_neg (fun h=>h.1 h2)]
          subst hrv;clear hcs;go_wp2_with fail
          go_returns;exact⟨rfl,HB.out⟩
         ·have hci:((c:Nat):Int)<((s.size:Nat):Int):=by omega
          have HCR:Hid (cutR l≠ []):=lH (fun h=>by have h1:=congrArg List.length (cut_join l);rw[List.length_append,HLL.out, <- HC.out,h] at h1;simp at h1;omega);clear hcs;by_cases hbo:b.toList= [49]
          ·have hb1:(b.toList== [49])=true:=by rw[beq_iff_eq];exact hbo
           have hrv:r=3:=by rw[HR.out,rchk_ref,if_neg HN1.out,if_neg HN2.out,if_neg HK3.out,if_pos ⟨HCR.out, .inl (by rw[<- HPB.out, <- ByteArray.toList_eq];exact hbo)⟩]
           subst hrv;go_wp2_with fail
           go_returns;exact⟨rfl,HB.out⟩
          ·have hb1:(b.toList== [49])=false:=by rw[beq_eq_false_iff_ne];exact hbo
           have HB1:=lH hbo;have hgg:=ref_gcd HR.out HN1.out HN2.out HK3.out HCR.out (by rw[<- HPB.out, <- ByteArray.toList_eq];exact hbo);obtain⟨x,y,hxa,hyb,hx1,hy1,hrr⟩:=hgg;have hax:a=txt x:=txt_ba (by rw[HA.out];exact hxa);have hby:b=txt y:=txt_ba (by rw[HPB.out];exact hyb);have HFX:Hid (FewM x):=lH (fewm_len (by rw[<- hxa, <- HA.out,list_size];have:=HSZ.out.1;omega));have HFY:Hid (FewM y):=lH (fewm_len (by rw[<- hyb, <- HPB.out,list_size];have:=HSZ.out.2;omega));have HRR:=lH hrr;clear hbo hxa hyb hx1 hy1 hrr;subst hax;subst hby;go_wp2_with fail
           clear hci hb1;refine(rgcd_walk x y _ HFX.out HFY.out).mono ?_;rintro e w3 ⟨rfl,hb3⟩;replace HB:=bT HB hb3;clear hb3;by_cases hgc:Nat.gcd x.natAbs y.natAbs=1
           ·rw[hgc];obtain⟨T,hT⟩:=eX (txt ((1:Nat):Int));rw[<- hT];have h1t:T.toList= [49]:=by rw[hT,ByteArray.toList_eq,txt_list];exact itoa_one
            have h1b:(T.toList== [49])=true:=by rw[h1t];rfl
            have h1n:(T.toList != [49])=false:=by rw[h1t];rfl
            have hrv:r=0:=by rw[HRR.out,if_pos hgc]
            clear hT;subst hrv;go_wp2_with fail
            go_returns;exact⟨rfl,HB.out⟩
           ·have hrv:r=3:=by rw[HRR.out,if_neg hgc]
            obtain⟨T,hT⟩:=eX (txt ((Nat.gcd x.natAbs y.natAbs:Nat):Int));rw[<- hT];have h1t:T.toList≠ [49]:=by rw[hT];exact txt_ne1 hgc
            have h1b:(T.toList== [49])=false:=by rw[beq_eq_false_iff_ne];exact h1t
            have h1n:(T.toList != [49])=true:=by rw[bne,h1b];rfl
            clear hT hgc;subst hrv;go_wp2_with fail
            go_returns;exact⟨rfl,HB.out⟩
     ·have hrv:r=19:=by rw[HR.out,rchk_ref,if_neg HN1.out,if_pos HZ.out.symm]
      subst hrv;go_wp2_with fail
      go_returns;exact⟨rfl,HB.out⟩
end
section
open Go.RowKit
open Lp (RL upd Dict)
def ReadsR(B:Nat)(w':World)(n:Nat)(s:Nat -> ByteArray)(e:Ending):Prop:=
 (∃j,j<n /\ (∀i,i<j -> rchk (s i).data.toList=0) /\ rchk (s j).data.toList≠0 /\ e= .returned (.tuple #[.slice none 0 0, .int .i64 (rchk (s j).data.toList:Nat)])) \/
 ∃g f,B <= g /\ e= .returned (.tuple #[.slice (some ⟨g,0,none⟩) n n, .int .i64 0]) /\ RB w' g n f /\ ∀j,j<n -> (s j).data.toList=qtxtL (f j)
set_option maxRecDepth 100000 in
set_option maxHeartbeats 3200000 in
theorem readx_walk(s:ByteArray)(w:World)(hs:s.size <= 65536)(hg:Glob w):
  Calls Tryz.prog 84 #[.string s] w fun e w'=>ReadR w' s.data.toList e /\ Below w.heap.size w w':=by
 have HGL:=lH hg;clear hg;obtain⟨W,hW,RO,HB⟩:=eN1 w [.bool false, .slice none 0 0, .bool false, .slice none 0 0] 105;go_enter Tryz.func84,Tryz.ntmps84;go_wp2_with fail
 rw[<- hW];clear hW;refine(read_walk s _ hs (HGL.out.below HB.out)).mono ?_;rintro e w1 ⟨hr,hb1⟩;replace RO:=rW RO hb1;replace HB:=bT HB hb1;clear hb1
 rcases hr with ⟨h0,rfl⟩ | ⟨q,v,h0,hl,rfl,hv⟩
 ·have H0:=lH h0;clear h0;obtain⟨cc,hcc⟩:=eX (rchk s.data.toList);rw[<- hcc];have HCC:=lH hcc;clear hcc;obtain⟨k0,f0,k1,f1,k2,f2,k3,f3⟩:=aF4 RO.out;have kl:=RO.out.lt;go_wp2_with fail
  clear kl k0 f0 k1 f1 k2 f2 k3 f3;have RE:=RO.out.put4 (x:= .bool false) (y:= .slice none 0 0) (z:= .bool false) (u:= .slice none 0 0);have hr:=res_store4 RO.out (by decide) (Nat.le_refl _) HB.out (IsRat.zero_ _);obtain⟨hv,hbe⟩:=hr;obtain⟨wE,hwE⟩:=eX (((((w1.setCell ⟨w.heap.size,0,none⟩ (.bool false)).setCell ⟨w.heap.size,1,none⟩ (.slice none 0 0)).setCell ⟨w.heap.size,2,none⟩ (.bool false)).setCell ⟨w.heap.size,3,none⟩ (.slice none 0 0)));rw[<- hwE] at RE hbe hv ⊢;have k0:=RE.at_ 0 rfl;have k1:=RE.at_ 1 rfl;have k2:=RE.at_ 2 rfl;have k3:=RE.at_ 3 rfl;refine bodyPost_ret (v:= .tuple #[.agg #[.bool false, .slice none 0 0, .bool false, .slice none 0 0], .int .i64 (cc:Nat)]) (by simp[results,Tryz.results84,go_sem,k0,k1,k2,k3]) rfl ?_;exact⟨.inl ⟨H0.out,by rw[HCC.out]⟩,hbe⟩
 ·obtain⟨sv,Av,lv,cv,tv,Bv,mv,dv,rfl⟩:=hv.shape;have H0:=lH h0;have HL:=lH hl;have HV:=lH hv;clear h0 hl hv;obtain⟨k0,f0,k1,f1,k2,f2,k3,f3⟩:=aF4 RO.out;have kl:=RO.out.lt;go_wp2_with fail
  clear kl k0 f0 k1 f1 k2 f2 k3 f3;have RE:=RO.out.put4 (x:= .bool sv) (y:= .slice Av lv cv) (z:= .bool tv) (u:= .slice Bv mv dv);have hr:=res_store4 RO.out (by decide) (Nat.le_refl _) HB.out HV.out;obtain⟨hv,hbe⟩:=hr;obtain⟨wE,hwE⟩:=eX (((((w1.setCell ⟨w.heap.size,0,none⟩ (.bool sv)).setCell ⟨w.heap.size,1,none⟩ (.slice Av lv cv)).setCell ⟨w.heap.size,2,none⟩ (.bool tv)).setCell ⟨w.heap.size,3,none⟩ (.slice Bv mv dv)));rw[<- hwE] at RE hbe hv ⊢;have k0:=RE.at_ 0 rfl;have k1:=RE.at_ 1 rfl;have k2:=RE.at_ 2 rfl;have k3:=RE.at_ 3 rfl;refine bodyPost_ret (v:= .tuple #[.agg #[.bool sv, .slice Av lv cv, .bool tv, .slice Bv mv dv], .int .i64 0]) (by simp[results,Tryz.results84,go_sem,k0,k1,k2,k3]) rfl ?_;exact⟨.inr ⟨q,_,H0.out,HL.out,rfl,hv⟩,hbe⟩
set_option maxRecDepth 100000 in
set_option maxHeartbeats 6400000 in
theorem all_walk(va:Value)(n:Nat)(s:Nat -> ByteArray)(w:World)(ha:TS w va n s)(hn:n <= 1000000000)(hs:∀j,j<n -> (s j).size <= 65536)(hg:Glob w):
  Calls Tryz.prog 118 #[va, .func (.func 84) #[] #[]] w fun e w'=>ReadsR w.heap.size w' n s e /\ Below w.heap.size w w':=by
 obtain⟨A,c,rfl,hca,hcm⟩:=ha.shape;have HA:=lH ha;have HS:=lH hs;have HGL:=lH hg;clear ha hs hg;go_enter Tryz.func118,Tryz.ntmps118
 go_wp2_with (at_make;refine wpList_mkR _ rfl (.tmp 11) (.tmp 11) rfl _ _ n rfl rfl rfl rfl (by omega) ?_)
 intro w1 hrb hb1 hs1;have BG0:=lH hrb;have HB0:=lH hb1;clear hrb hb1 hs1;go_wp2_with fail
 go_loopw [15] (fun iv wr=>∃ (k:Nat) (f:Nat -> Rat),k <= n /\ iv= .int .i64 k /\ Hid (∀j,j<k -> (s j).data.toList=qtxtL (f j)) /\ RB wr w.heap.size n f /\ Below w.heap.size w wr)
  (fun iv _=>n-(intOf iv).toNat)
 case atStart=>exact⟨0,_,Nat.zero_le _,rfl,lH (fun j hj=>absurd hj (by omega)),BG0.out,HB0.out⟩
 case round=>
  clear BG0 HB0;obtain⟨k,f,hk,rfl,hf,hbg,hbw⟩:=hrel;have HF:=lH hf.out;have BG:=lH hbg;have HB:=lH hbw;clear hf hbg hbw;by_cases hkn:((k:Nat):Int)<(n:Nat)
  ·have hkn1:k<n:=by omega
   obtain⟨gA,oA,rfl,hcs⟩:=HA.out.at_ (by omega);have kc:=cell_below HB.out (hcs k hkn1);have kcl:=cell_lt kc;clear hcs;go_wp2_with fail
   clear kc kcl;refine(readx_walk (s k) _ (HS.out k hkn1) (HGL.out.below HB.out)).mono ?_;rintro e w2 ⟨hr,hb2⟩;replace BG:=lH (BG.out.below hb2);replace HB:=bT HB hb2;clear hb2;obtain⟨sy,Ay,ly,cy,ty,By,my,dy,hQy,hvy⟩:=BG.out.quad hkn1;obtain⟨kq0,kq1,kq2,kq3⟩:=hQy;have kql:=BG.out.lt;have kf0:=BG.out.free (k*4);have kf1:=BG.out.free (k*4+1);have kf2:=BG.out.free (k*4+2);have kf3:=BG.out.free (k*4+3);clear hvy
   rcases hr with ⟨h0,rfl⟩ | ⟨q,v,h0,hl,rfl,hv⟩
   ·have H0:=lH h0;obtain⟨cc,hcc⟩:=eX (rchk (s k).data.toList);rw[<- hcc];have hc0:cc≠0:=by rw[hcc];exact h0
    have hci:¬((cc:Nat):Int)=0:=by omega
    have hcd:(((cc:Nat):Int) !=0)=true:=by simpa using hci
    have HCC:=lH hcc;clear hcc h0 hc0;have hg:=grownBy_set4 w2 w.heap.size (k*4) (k*4+1) (k*4+2) (k*4+3) (.bool false) (.slice none 0 0) (.bool false) (.slice none 0 0);have HBE:=lH (HB.out.grown hg HB.out.size (by first | (simp;done) | (simp;omega)));clear hg;go_wp2_with fail
    clear kq0 kq1 kq2 kq3 kql kf0 kf1 kf2 kf3;go_returns;exact⟨.inl ⟨k,hkn1,fun i hi=>by rw[HF.out i hi];exact rchk_qtxt _,H0.out,by rw[HCC.out];rfl⟩,HBE.out⟩
   ·obtain⟨sv,Av,lv,cv,tv,Bv,mv,dv,rfl⟩:=hv.shape;have HL:=lH hl;have BN:=lH (BG.out.set hkn1 hv);have hg:=grownBy_set4 w2 w.heap.size (k*4) (k*4+1) (k*4+2) (k*4+3) (.bool sv) (.slice Av lv cv) (.bool tv) (.slice Bv mv dv);have HBE:=lH (HB.out.grown hg HB.out.size (by first | (simp;done) | (simp;omega)));clear hg h0 hl hv;go_wp2_with fail
    clear kq0 kq1 kq2 kq3 kql kf0 kf1 kf2 kf3;go_roundw
    case rel=>
     refine⟨k+1,upd f k q,by omega,by simp,lH (fun j hj=> ?_),BN.out,HBE.out⟩;by_cases e:j=k
     ·subst e;rw[Lp.upd_same];exact HL.out
     ·rw[Lp.upd_other _ _ e];exact HF.out j (by omega)
    case measure=>exact mZ
  ·obtain rfl:n=k:=by omega
   go_wp2_with fail
   go_returns;exact⟨.inr ⟨_,f,Nat.le_refl _,rfl,BG.out,HF.out⟩,HB.out⟩
set_option maxRecDepth 100000 in
set_option maxHeartbeats 3200000 in
theorem reads_walk(va:Value)(n:Nat)(s:Nat -> ByteArray)(w:World)(ha:TS w va n s)(hn:n <= 1000000000)(hs:∀j,j<n -> (s j).size <= 65536)(hg:Glob w):
  Calls Tryz.prog 82 #[va] w fun e w'=>ReadsR w.heap.size w' n s e /\ Below w.heap.size w w':=by
 have HALL:=lH (all_walk va n s w ha hn hs hg);clear ha hs hg;go_enter Tryz.func82,Tryz.ntmps82;go_wp2_with fail
 refine HALL.out.mono ?_;rintro e w1 ⟨hr,hb⟩;have HB:=lH hb;clear hb
 rcases hr with ⟨j,hj,h1,h2,rfl⟩ | ⟨g,f,h0,rfl,h1,h2⟩
 ·have H1:=lH h1;have H2:=lH h2;obtain⟨cc,hcc⟩:=eX (rchk (s j).data.toList);rw[<- hcc];have HCC:=lH hcc;clear hcc h1 h2;go_wp2_with fail
  go_returns;exact⟨.inl ⟨j,hj,H1.out,H2.out,by rw[<- HCC.out];rfl⟩,HB.out⟩
 ·have H1:=lH h1;have H2:=lH h2;clear h1 h2;go_wp2_with fail
  go_returns;exact⟨.inr ⟨g,f,h0,rfl,H1.out,H2.out⟩,HB.out⟩
end
section
open Go.RowKit
open Lp (RL upd Dict)
def firstE:Nat -> (Nat -> Nat) -> Nat
 | 0,_=>0
 | n+1,e=>if firstE n e≠0 then firstE n e else e n
theorem firstE_zero{n:Nat}{e:Nat -> Nat}:firstE n e=0↔∀j,j<n -> e j=0:=by
 induction n with
 | zero=>exact⟨fun _ j hj=>absurd hj (by omega),fun _=>rfl⟩
 | succ n ih=>
  show(if firstE n e≠0 then firstE n e else e n)=0↔_;by_cases h:firstE n e=0
  ·rw[if_neg (by simpa using h)];exact⟨fun h2 j hj=>by by_cases hjn:j=n;subst hjn;exact h2;exact ih.1 h j (by omega),fun h2=>h2 n (by omega)⟩
  ·rw[if_pos h];exact⟨fun h2=>absurd h2 h,fun h2=>absurd (ih.2 fun j hj=>h2 j (by omega)) h⟩
theorem firstE_at{n j:Nat}{e:Nat -> Nat}(hj:j<n)(h1:∀i,i<j -> e i=0)(h2:e j≠0):firstE n e=e j:=by
 induction n with
 | zero=>omega
 | succ n ih=>
  show(if firstE n e≠0 then firstE n e else e n)=_;by_cases h:j=n
  ·subst h;rw[if_neg (by simpa using firstE_zero.2 h1)]
  ·have h3:=ih (by omega);rw[if_pos (by rw[h3];exact h2),h3]
def sE(s:ByteArray):Nat:=rchk s.data.toList
theorem readsR_first{B:Nat}{w:World}{n:Nat}{s:Nat -> ByteArray}{e:Ending}(h:ReadsR B w n s e):
  (firstE n (fun j=>sE (s j))≠0 /\ e= .returned (.tuple #[.slice none 0 0, .int .i64 (firstE n (fun j=>sE (s j)):Nat)])) \/
  (firstE n (fun j=>sE (s j))=0 /\ ∃g f,B <= g /\ e= .returned (.tuple #[.slice (some ⟨g,0,none⟩) n n, .int .i64 0]) /\ RB w g n f /\ ∀j,j<n -> (s j).data.toList=qtxtL (f j)):=by
 rcases h with ⟨j,hj,h1,h2,he⟩ | ⟨g,f,h0,he,hb,hf⟩
 ·have h3:=firstE_at (e:=fun j=>sE (s j)) hj h1 h2;exact .inl ⟨by rw[h3];exact h2,by rw[h3];exact he⟩
 ·exact .inr ⟨firstE_zero.2 fun j hj=>by show rchk _=0;rw[hf j hj];exact rchk_qtxt _,g,f,h0,he,hb,hf⟩
def rowE(n:Nat)(t:Nat -> ByteArray)(b:ByteArray):Nat:=if firstE n (fun j=>sE (t j))≠0 then firstE n (fun j=>sE (t j)) else sE b
def progE(n m:Nat)(k:Nat -> Nat)(o:Nat -> ByteArray)(t:Nat -> Nat -> ByteArray)(b:Nat -> ByteArray):Nat:=
 if 96<n \/ 256<m then 6 else if ¬(∀i,i<m -> k i=n) then 13 else
  if firstE n (fun j=>sE (o j))≠0 then firstE n (fun j=>sE (o j)) else firstE m (fun i=>rowE n (t i) (b i))
structure ProgIs (n m:Nat) (o:Nat -> ByteArray) (t:Nat -> Nat -> ByteArray) (b:Nat -> ByteArray) (A:Nat -> Nat -> Rat) (bq c:Nat -> Rat):Prop where
 obj:∀j,j<n -> (o j).data.toList=qtxtL (c j)
 rows:∀i,i<m -> ∀j,j<n -> (t i j).data.toList=qtxtL (A i j)
 bounds:∀i,i<m -> (b i).data.toList=qtxtL (bq i)
def RowsIn(w:World)(v:Value)(m:Nat):Prop:=m=0 \/ ∃g c cs,v= .slice (some ⟨g,0,none⟩) m c /\ Row w g 95 cs
def ParseR(w':World)(n m:Nat)(k:Nat -> Nat)(o:Nat -> ByteArray)(t:Nat -> Nat -> ByteArray)(b:Nat -> ByteArray)(e:Ending):Prop:=
 (progE n m k o t b≠0 /\ e= .returned (.tuple #[.agg #[.slice none 0 0, .slice none 0 0, .slice none 0 0], .int .i64 (progE n m k o t b:Nat)])) \/
 (progE n m k o t b=0 /\ ∃AC AR AD cC cR cD A bq c,e= .returned (.tuple #[.agg #[.slice AC n cC, .slice AR m cR, .slice AD m cD], .int .i64 0]) /\
  IsRats w' (.slice AC n cC) n c /\ IsRows w' (.slice AR m cR) m n A /\ IsRats w' (.slice AD m cD) m bq /\ ProgIs n m o t b A bq c /\ RowsIn w' (.slice AR m cR) m)
end
section
open Go.RowKit Go.Lib
def layC_ren:Go.Shelf.Ren:=⟨fun | 41=>29 | n=>n,fun | 22=>22 | 23=>30 | n=>n,fun | n=>n⟩
theorem layC:Go.Proofs.SlLaysE0.n41 Tryz.prog layC_ren:= {
 mixed:=by kernel_rfl
 f41:=⟨Tryz.f29.name,by decide,Tryz.func29.trans (congrArg some (by kernel_rfl))⟩
 t4:=Tryz.underlying4
 a4:=Tryz.isAgg4
 z4:=Tryz.sizeOf4
 v4:=Tryz.zeroValue4
 t22:=Tryz.underlying22
 a22:=Tryz.isAgg22
 z22:=Tryz.sizeOf22
 v22:=Tryz.zeroValue22}
theorem infoNc:(Tryz.prog.info? 30).map (fun i=>(i.zero,i.size,i.bytes))=some (some (.string ⟨#[]⟩),1,16):=by kernel_rfl
theorem clone_some(b off n c:Nat)(news:List Value)(w:World)(hl:news.length=n)(hn:n <= 1000000000)(hc:∀j u,news[j]? =some u -> w.cell? ⟨b,off+j,none⟩=some u)(h1:∀u ∈ news,u.oneCell'=true):
  Calls Tryz.prog 29 #[.slice (some ⟨b,off,none⟩) n c] w fun e w'=>∃v',e= .returned v' /\ w'.ownsRow w.heap.size 30 1 v' n news /\ v'≠ .slice none 0 0 /\ Below w.heap.size w w':=by
 obtain⟨i,hi,h⟩:=Option.map_eq_some_iff.1 infoNc;simp only[Prod.mk.injEq] at h;obtain⟨hz,hs,hb⟩:=h;exact AnyE.slices_Clone layC i _ 1 16 hi hz hs hb rfl (by decide) Tryz.sizeOf30 b off n c news w (by omega) (by unfold maxLen;omega) (by omega) hc h1
theorem clone_nil(n c:Nat)(w:World):Calls Tryz.prog 29 #[.slice none n c] w fun e w'=>e= .returned (.slice none 0 0) /\ w'=w:=AnyE.slices_Clone_nil layC n c w
def layE_ren:Go.Shelf.Ren:=⟨fun | 33=>47 | n=>n,fun | 22=>22 | 23=>30 | n=>n,fun | n=>n⟩
theorem layE:Go.Proofs.SlLaysE.n33 Tryz.prog layE_ren:= {
 mixed:=by kernel_rfl
 f33:=⟨Tryz.f47.name,by decide,Tryz.func47.trans (congrArg some (by kernel_rfl))⟩
 t0:=Tryz.underlying0
 a0:=Tryz.isAgg0
 z0:=Tryz.sizeOf0
 v0:=Tryz.zeroValue0
 t3:=Tryz.underlying3
 a3:=Tryz.isAgg3
 z3:=Tryz.sizeOf3
 v3:=Tryz.zeroValue3
 t4:=Tryz.underlying4
 a4:=Tryz.isAgg4
 z4:=Tryz.sizeOf4
 v4:=Tryz.zeroValue4
 t22:=Tryz.underlying22
 a22:=Tryz.isAgg22
 z22:=Tryz.sizeOf22
 v22:=Tryz.zeroValue22
 a23:=Tryz.isAgg30
 z23:=Tryz.sizeOf30}
theorem equal_some(b1 o1 n c b2 o2 m d:Nat)(xs ys:List ByteArray)(w:World)(hx:n <= xs.length)(hy:m <= ys.length)(hbig:n <= 9223372036854775807)(hbig2:m <= 9223372036854775807)(hc1:∀j,j<xs.length -> w.cell? ⟨b1,o1+j,none⟩=some (.string xs[j]!))(hc2:∀j,j<ys.length -> w.cell? ⟨b2,o2+j,none⟩=some (.string ys[j]!)):
  Calls Tryz.prog 47 #[.slice (some ⟨b1,o1,none⟩) n c, .slice (some ⟨b2,o2,none⟩) m d] w fun e w'=>e= .returned (.bool (Lib.allEq (fun x y=>x.toList==y.toList) (xs.take n) (ys.take m))) /\ ∃q,w'=w.drewN q:=
 AnyE.slices_Equal layE Value.string _ (NeqAt.string _ _) b1 o1 n c b2 o2 m d xs ys w hx hy hbig hbig2 hc1 hc2
def layF_ren:Go.Shelf.Ren:=⟨fun | 6=>117 | 8=>80 | n=>n,fun | 22=>22 | 23=>30 | 25=>125 | n=>n,fun | n=>n⟩
theorem layF:Go.Proofs.SlLaysH.n8 Tryz.prog layF_ren:= {
 mixed:=by kernel_rfl
 f6:=⟨Tryz.f117.name,by decide,Tryz.func117.trans (congrArg some (by kernel_rfl))⟩
 f8:=⟨Tryz.f80.name,by decide,Tryz.func80.trans (congrArg some (by kernel_rfl))⟩
 t0:=Tryz.underlying0
 a0:=Tryz.isAgg0
 z0:=Tryz.sizeOf0
 v0:=Tryz.zeroValue0
 t3:=Tryz.underlying3
 a3:=Tryz.isAgg3
 z3:=Tryz.sizeOf3
 v3:=Tryz.zeroValue3
 t4:=Tryz.underlying4
 a4:=Tryz.isAgg4
 z4:=Tryz.sizeOf4
 v4:=Tryz.zeroValue4
 t22:=Tryz.underlying22
 a22:=Tryz.isAgg22
 z22:=Tryz.sizeOf22
 v22:=Tryz.zeroValue22
 a23:=Tryz.isAgg30
 z23:=Tryz.sizeOf30
 t25:=Tryz.underlying125
 a25:=Tryz.isAgg125
 z25:=Tryz.sizeOf125
 v25:=Tryz.zeroValue125}
end
end Go.Proofs.YtdefghfjhgmpfaaGreatDoor
