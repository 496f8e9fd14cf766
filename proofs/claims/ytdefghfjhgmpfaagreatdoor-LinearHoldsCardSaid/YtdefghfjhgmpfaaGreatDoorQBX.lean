/- Parts of this proof: LHolds. -/
import Derived.Test.YtdefghfjhgmpfaaGreatDoorQBT
import Derived.Test.YtdefghfjhgmpfaaGreatDoorQBV
import Derived.Test.YtdefghfjhgmpfaaGreatDoorQBW
import Derived.Test.YtdefghfjhgmpfaaGreatDoorQBK
import Derived.Test.YtdefghfjhgmpfaaGreatDoorQBU
namespace Go.Proofs.YtdefghfjhgmpfaaGreatDoor
open Go.RowKit
open Lp (RL upd Dict)
theorem RWithR.nat{w:World}{n:Nat}{AR:Option Addr}{m cR:Nat}{k:Nat -> Nat}{t:Nat -> Nat -> ByteArray}{b:Nat -> ByteArray}{e:Ending}(h:RWithR w n AR m cR k t b e)(hn:n <= 96):
  ∃AO cO,e= .returned (.tuple #[.agg #[.slice AO n cO, .slice AR m cR], .int .i64 (progE n m k (fun _=>⟨#[48]⟩) t b:Nat)]) /\ OwnS w (.slice AO n cO) n (fun _=>⟨#[48]⟩):=by
 rcases h with ⟨h,_⟩ | ⟨_,_,AO,cO,h1,h2⟩
 ·omega
 ·rw[Int.toNat_natCast] at h1 h2;exact⟨AO,cO,h1,h2⟩
theorem txt_of{s:ByteArray}{q:Rat}(h:s.data.toList=qtxtL q):s=qtxt q:=ba_ext (by rw[qtxt_list];exact h)
set_option maxRecDepth 100000 in
set_option maxHeartbeats 12800000 in
theorem Holds_law(vp vr:Value)(n m:Nat)(k:Nat -> Nat)(s:Nat -> ByteArray)(t:Nat -> Nat -> ByteArray)(b:Nat -> ByteArray)(w:World)(hp:TSA w vp n s)(hr:TRA w vr m k t b)(hg:Glob w)(ht:Tab w):
  Calls Tryz.prog 8 #[vp,vr] w fun e w'=>e= .returned (.bool true) /\ Below w.heap.size w w':=by
 obtain⟨AP,cP,rfl,_,_⟩:=hp.1.shape;obtain⟨AR,cR,rfl,_,_⟩:=hr.trows.shape;have HP:=lH hp;have HR:=lH hr;have HGL:=lH hg;have HTB:=lH ht;clear hp hr hg ht;go_enter Tryz.func8,Tryz.ntmps8;go_wp2_with fail
 refine(known_walk _ HGL.out HTB.out).mono ?_;rintro e w1 ⟨rfl,hb⟩;have HB:=lH hb;clear hb;obtain⟨w2,hw2⟩:=eX (w1.alloc (.cells #[.slice AP n cP] 22));obtain⟨g1,hg1⟩:=eX (w1.heap.size);have hb2:Below w1.heap.size w1 w2:=by rw[hw2];exact below_new _ _
 have HTL:Hid (TLs w2 (.slice (some ⟨g1,0,none⟩) 1 1) 1 (fun _=>n) (fun _=>s)):=lH (tls_one (HP.out.1.below HB.out) hb2 (show Row w2 g1 22 [.slice AP n cP] by rw[hw2,hg1];exact heap_new _ _));replace HB:=bT HB hb2;clear hb2;go_wp2_with fail
 rw[<- hw2, <- hg1];clear hw2 hg1;refine(lshort_walk 6 _ 1 _ _ _ HTL.out (by decide) (by decide)).mono ?_;rintro e w4 ⟨hsh,hb⟩;replace HB:=bT HB hb;clear hb;clear HTL
 rcases hsh with ⟨hsh,rfl⟩ | ⟨_,rfl⟩
 ·have HN6:Hid (n <= 6):=lH (hsh 0 (by omega)).1;have HS12:Hid (∀j,j<n -> (s j).size <= 12):=lH (hsh 0 (by omega)).2;clear hsh;go_wp2_with fail
  refine(fewrows_walk 8 _ m k t b _ (HR.out.trows.below HB.out)).mono ?_;rintro e w5 ⟨hsh,hb⟩;replace HB:=bT HB hb;clear hb
  rcases hsh with ⟨hsh,rfl⟩ | ⟨_,rfl⟩
  ·have HM8:=lH hsh.1;have HRS:Hid (∀i,i<m -> RShort (k i) (t i) (b i)):=lH (fun i hi=>hsh.2 i hi);clear hsh;have HF:Hid (RowsFit m k t b):=lH ⟨by have:=HM8.out;omega,fun i hi j hj=>by have:=(HRS.out i hi).2.1 j hj;omega,fun i hi=>by have:=(HRS.out i hi).2.2;omega⟩;go_wp2_with fail
   refine(rwith_walk n AR m cR k t b _ (HR.out.trows.below HB.out) HF.out).mono ?_;rintro e w6 ⟨hr,hb⟩;replace HB:=bT HB hb;clear hb;obtain⟨AO,cO,rfl,_⟩:=hr.nat (by have:=HN6.out;omega);clear hr;have hb:=below_new w6 (.cells #[.slice AO n cO, .slice AR m cR] 25);obtain⟨w7,hw7⟩:=eX (w6.alloc (.cells #[.slice AO n cO, .slice AR m cR] 25));rw[<- hw7] at hb;replace HB:=bT HB hb;clear hb;obtain⟨E1,hE1⟩:=eX (progE n m k (fun _=>⟨#[48]⟩) t b);rw[<- hE1];have HE1:=lH hE1;clear hE1;by_cases h0:E1=0
   ·subst h0;go_wp2_with fail
    rw[<- hw7];clear hw7;refine(rnums_walk _ n s _ (HP.out.1.below HB.out) (by have:=HN6.out;omega) (fun j hj=>by have:=HS12.out j hj;omega)).mono ?_;rintro e w8 ⟨rfl,hb⟩;replace HB:=bT HB hb;clear hb;obtain⟨E,hE⟩:=eX (firstE n (fun j=>sE (s j)));rw[<- hE];have HE:Hid (holdE n m k s t b=E):=lH (by unfold holdE;rw[if_neg (by have:=HN6.out;omega),if_neg (by rw[<- HE1.out];simp)];exact hE.symm);clear hE;go_wp2_with fail
    refine(clone_walk _ n s _ (HP.out.below HB.out) (by have:=HN6.out;omega)).mono ?_;rintro e w9 ⟨v9,rfl,_,_,hts,hb⟩;replace HB:=bT HB hb;clear hb;obtain⟨A9,c9,rfl,_,_⟩:=hts.1.shape;have HTS:=lH hts.1;clear hts;go_wp2_with fail
    refine(copied_walk none AR 0 m 0 cR k (fun _=>⟨#[]⟩) t b _ ⟨⟨_,_,rfl,Nat.le_refl _,Nat.zero_le _, .inl rfl⟩, .inl ⟨rfl,rfl⟩⟩ (HR.out.below HB.out) (by decide) (by have:=HM8.out;omega) (fun i hi=>by have:=(HRS.out i hi).1;omega)).mono ?_;rintro e w10 ⟨vc,uc,rfl,hov,hor,hb⟩;obtain⟨Av,cv,rfl,_,_⟩:=OwnL.shape hov;clear hov;replace HTS:=lH (HTS.out.below hb);replace HB:=bT HB hb;clear hb;obtain⟨A10,c10,rfl,_,_⟩:=hor.shape;have HTR:=lH hor.trows;clear hor;have hfd:∀w:World,(Instr.field 25 (.agg #[.slice Av 0 cv, .slice A10 m c10]) 1).run Tryz.prog w= .ok (.slice A10 m c10) w:=fun _=>by kernel_rfl
    go_wp2_with fail
    clear hfd;refine(lholds_walk A9 A10 n m c9 c10 12 k s t b _ HTS.out HTR.out (by have:=HN6.out;omega) (by have:=HM8.out;omega) (by decide) HS12.out (fun i hi=>(HRS.out i hi).2.1) (fun i hi=>(HRS.out i hi).2.2) (HGL.out.below HB.out)).mono ?_;rintro e w11 ⟨hr,hb⟩;replace HB:=bT HB hb;clear hb;clear HTS HTR;unfold LHoldsR at hr;rw[HE.out] at hr
    rcases hr with ⟨h0,rfl⟩ | ⟨h0,A,bq,x,hkn,hta,hbb,hsx,hh⟩
    ·have hci:((E:Nat):Int)≠0:=by omega
     have hcd:(((E:Nat):Int) !=0)=true:=by simpa using hci
     have hcn:(E !=0)=true:=by simpa using h0
     have hce:(((E:Nat):Int)== ((E:Nat):Int))=true:=by simp
     clear h0;go_wp2_with fail
     go_returns;exact⟨rfl,HB.out⟩
    ·subst h0;have HKN:=lH hkn;have HTA:Hid (∀i,i<m -> ∀j,j<n -> t i j=qtxt (A i j)):=lH (fun i hi j hj=>txt_of (hta i hi j hj));have HBB:Hid (∀i,i<m -> b i=qtxt (bq i)):=lH (fun i hi=>txt_of (hbb i hi));have HSX:Hid (∀j,j<n -> s j=qtxt (x j)):=lH (fun j hj=>txt_of (hsx j hj));have HLA:Hid (∀i,i<m -> ∀j,j<n -> RL 12 (A i j)):=lH (fun i hi j hj=>rl_size (hta i hi j hj) ((HRS.out i hi).2.1 j (by rw[HKN.out i hi];exact hj)));have HLX:Hid (∀j,j<n -> RL 12 (x j)):=lH (fun j hj=>rl_size (hsx j hj) (HS12.out j hj));have HLB:Hid (∀i,i<m -> RL 200 (bq i)):=lH (fun i hi=>(rl_size (hbb i hi) (HRS.out i hi).2.2).mono (by decide));clear hkn hta hbb hsx;have HTH:=lH (fun(wx:World) (hbx:Below w.heap.size w wx)=>tholds_walk (.slice AP n cP) (.slice AR m cR) n m k s t b x A bq 12 12 200 wx (HP.out.1.below hbx) (HR.out.trows.below hbx) HSX.out HKN.out HTA.out HBB.out (by have:=HN6.out;omega) (by have:=HM8.out;omega) HLA.out HLX.out HLB.out ⟨by have:=HN6.out;omega,by decide,by decide⟩ (by decide))
     rcases hh with ⟨hh,rfl⟩ | ⟨hh,rfl⟩
     ·have HH:=lH hh;clear hh;go_wp2_with fail
      refine(HTH.out _ HB.out).mono ?_;rintro e w12 ⟨h12,hb⟩;replace HB:=bT HB hb;clear hb
      rcases h12 with ⟨h12,rfl⟩ | ⟨h12,rfl⟩
      ·go_wp2_with fail
       go_returns;exact⟨rfl,HB.out⟩
      ·exact absurd HH.out h12
     ·have HH:=lH hh;clear hh;go_wp2_with fail
      refine(HTH.out _ HB.out).mono ?_;rintro e w12 ⟨h12,hb⟩;replace HB:=bT HB hb;clear hb
      rcases h12 with ⟨h12,rfl⟩ | ⟨h12,rfl⟩
      ·exact absurd h12 HH.out
      ·go_wp2_with fail
       go_returns;exact⟨rfl,HB.out⟩
   ·have hci:((E1:Nat):Int)≠0:=by omega
    have hcd:(((E1:Nat):Int)==0)=false:=by simpa using hci
    have hcn:(E1==0)=false:=by simpa using h0
    have HE:Hid (holdE n m k s t b=E1):=lH (by unfold holdE;rw[if_neg (by have:=HN6.out;omega),if_pos (by rw[<- HE1.out];exact h0)];exact HE1.out.symm);have HZ:=lH h0;clear h0;go_wp2_with fail
    rw[<- hw7];clear hw7 hci hcd hcn;refine(clone_walk _ n s _ (HP.out.below HB.out) (by have:=HN6.out;omega)).mono ?_;rintro e w9 ⟨v9,rfl,_,_,hts,hb⟩;replace HB:=bT HB hb;clear hb;obtain⟨A9,c9,rfl,_,_⟩:=hts.1.shape;have HTS:=lH hts.1;clear hts;go_wp2_with fail
    refine(copied_walk none AR 0 m 0 cR k (fun _=>⟨#[]⟩) t b _ ⟨⟨_,_,rfl,Nat.le_refl _,Nat.zero_le _, .inl rfl⟩, .inl ⟨rfl,rfl⟩⟩ (HR.out.below HB.out) (by decide) (by have:=HM8.out;omega) (fun i hi=>by have:=(HRS.out i hi).1;omega)).mono ?_;rintro e w10 ⟨vc,uc,rfl,hov,hor,hb⟩;obtain⟨Av,cv,rfl,_,_⟩:=OwnL.shape hov;clear hov;replace HTS:=lH (HTS.out.below hb);replace HB:=bT HB hb;clear hb;obtain⟨A10,c10,rfl,_,_⟩:=hor.shape;have HTR:=lH hor.trows;clear hor;have hfd:∀w:World,(Instr.field 25 (.agg #[.slice Av 0 cv, .slice A10 m c10]) 1).run Tryz.prog w= .ok (.slice A10 m c10) w:=fun _=>by kernel_rfl
    go_wp2_with fail
    clear hfd;refine(lholds_walk A9 A10 n m c9 c10 12 k s t b _ HTS.out HTR.out (by have:=HN6.out;omega) (by have:=HM8.out;omega) (by decide) HS12.out (fun i hi=>(HRS.out i hi).2.1) (fun i hi=>(HRS.out i hi).2.2) (HGL.out.below HB.out)).mono ?_;rintro e w11 ⟨hr,hb⟩;replace HB:=bT HB hb;clear hb;clear HTS HTR;unfold LHoldsR at hr;rw[HE.out] at hr
    rcases hr with ⟨h0,rfl⟩ | ⟨h0,A,bq,x,hkn,hta,hbb,hsx,hh⟩
    ·have hci:((E1:Nat):Int)≠0:=by omega
     have hcd:(((E1:Nat):Int) !=0)=true:=by simpa using hci
     have hcn:(E1 !=0)=true:=by simpa using h0
     have hce:(((E1:Nat):Int)== ((E1:Nat):Int))=true:=by simp
     clear h0;go_wp2_with fail
     go_returns;exact⟨rfl,HB.out⟩
    ·exact absurd h0 HZ.out
  ·go_wp2_with fail
   refine(known_walk _ (HGL.out.below HB.out) (HTB.out.below HB.out)).mono ?_;rintro e w5 ⟨rfl,hb⟩;replace HB:=bT HB hb;clear hb;go_wp2_with fail
   go_returns;exact⟨rfl,HB.out⟩
 ·go_wp2_with fail
  refine(known_walk _ (HGL.out.below HB.out) (HTB.out.below HB.out)).mono ?_;rintro e w5 ⟨rfl,hb⟩;replace HB:=bT HB hb;clear hb;go_wp2_with fail
  go_returns;exact⟨rfl,HB.out⟩
end Go.Proofs.YtdefghfjhgmpfaaGreatDoor
