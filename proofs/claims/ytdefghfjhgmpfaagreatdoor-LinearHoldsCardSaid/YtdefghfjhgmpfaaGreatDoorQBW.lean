/- Parts of this proof: RefP RWith FewL FewP. -/
import Derived.Test.YtdefghfjhgmpfaaGreatDoorQAY
import Derived.Test.YtdefghfjhgmpfaaGreatDoorQBI
import Derived.Test.YtdefghfjhgmpfaaGreatDoorQAE
import Derived.Test.YtdefghfjhgmpfaaGreatDoorQBU
namespace Go.Proofs.YtdefghfjhgmpfaaGreatDoor
section
open Go.RowKit
open Lp (RL upd Dict)
set_option maxRecDepth 100000 in
set_option maxHeartbeats 6400000 in
theorem rprog_walk(AO AR:Option Addr)(n m cO cR:Nat)(k:Nat -> Nat)(o:Nat -> ByteArray)(t:Nat -> Nat -> ByteArray)(b:Nat -> ByteArray)(w:World)(ho:TS w (.slice AO n cO) n o)(hr:TRows w (.slice AR m cR) m k t b)(hn:n <= 1000000000)(hm:m <= 1000000000)
  (hso:∀j,j<n -> (o j).size <= 65536) (hst:∀i,i<m -> ∀j,j<k i -> (t i j).size <= 65536) (hsb:∀i,i<m -> (b i).size <= 65536):
  Calls Tryz.prog 18 #[.agg #[.slice AO n cO, .slice AR m cR]] w fun e w'=>e= .returned (.int .i64 (progE n m k o t b:Nat)) /\ Below w.heap.size w w':=by
 have HO:=lH ho;have HR:=lH hr;have HSO:=lH hso;have HST:=lH (And.intro hst hsb);have HNM:=lH (And.intro hn hm);have hni:((n:Nat):Int) <= 1000000000:=by omega
 have hmi:((m:Nat):Int) <= 1000000000:=by omega
 clear ho hr hso hst hsb;obtain⟨r,hr⟩:=eX (progE n m k o t b);rw[<- hr];have HRR:=lH hr;clear hr hn hm;obtain⟨W,hW,PB,HB⟩:=eN1 w [.slice AO n cO, .slice AR m cR] 25;go_enter Tryz.func18,Tryz.ntmps18;obtain⟨p0,p1⟩:=aT2 PB.out;have pl:=PB.out.lt;rw[hW] at p0 p1 pl;by_cases h96:96<n
 ·have hd1:(96:Int)<((n:Nat):Int):=by omega
  have hrv:r=6:=by rw[HRR.out];unfold progE;rw[if_pos (.inl h96)]
  clear h96;subst hrv;go_wp2_with fail
  rw[<- hW];clear hW p0 p1 pl;go_returns;exact⟨rfl,HB.out⟩
 ·by_cases h256:256<m
  ·have hd1:((n:Nat):Int) <= 96:=by omega
   have hd1d:decide ((96:Int)<((n:Nat):Int))=false:=decide_eq_false (by omega);have hd1n:decide (96<n)=false:=decide_eq_false h96;have hd2:(256:Int)<((m:Nat):Int):=by omega
   have hrv:r=6:=by rw[HRR.out];unfold progE;rw[if_pos (.inr h256)]
   clear h96 h256;subst hrv;go_wp2_with fail
   rw[<- hW];clear hW p0 p1 pl;go_returns;exact⟨rfl,HB.out⟩
  ·have hd1:((n:Nat):Int) <= 96:=by omega
   have hd1d:decide ((96:Int)<((n:Nat):Int))=false:=decide_eq_false (by omega);have hd1n:decide (96<n)=false:=decide_eq_false h96;have hd2d:decide ((256:Int)<((m:Nat):Int))=false:=decide_eq_false (by omega);have hd2n:decide (256<m)=false:=decide_eq_false h256;have hd2:((m:Nat):Int) <= 256:=by omega
   have HL:Hid (¬(96<n \/ 256<m)):=lH (by omega);clear h96 h256;go_wp2_with fail
   rw[<- hW];clear hW p0 p1 pl hd1 hd1d hd1n hd2 hd2d hd2n;have PB0:=PB;have HB0:=HB;clear PB HB
   go_loopw [3] (fun iv wr=>∃q:Nat,((q:Nat):Int) <= ((m:Nat):Int) /\ iv= .int .i64 q /\ Hid (∀i,i<q -> k i=n) /\ Below W.heap.size W wr) (fun iv _=>m-(intOf iv).toNat)
   case atStart=>exact⟨0,by omega,rfl,lH (fun i hi=>absurd hi (by omega)),Below.refl _ _⟩
   case round=>
    obtain⟨q,hq,rfl,hz,hbw⟩:=hrel;have HZ:=lH hz.out;have PB:=lH (PB0.out.below hbw PB0.out.lt);have HB:=lH (HB0.out.trans (hbw.mono HB0.out.size));have HBW:=lH hbw;clear hz hbw;obtain⟨p0,p1⟩:=aT2 PB.out;have pl:=PB.out.lt;by_cases hqm0:((q:Nat):Int)<((m:Nat):Int)
    ·have hqm:q<m:=by omega
     obtain⟨gR,oR,rfl,hcs⟩:=HR.out.at_ (by omega);obtain⟨uv,hc1,hc2,hts⟩:=hcs q hqm;obtain⟨X,x,rfl,_,_⟩:=hts.shape;have c1:=cell_below HB.out hc1;have cl:=cell_lt c1;clear hcs hc1 hc2 hts;by_cases hkn:k q=n
     ·have HKN:=lH hkn;rw[hkn] at c1;clear hkn;have hkd:(n !=n)=false:=by simp
      go_wp2_with fail
      go_region
      go_wp2_with fail
      go_roundw
      case rel=>exact⟨q+1,by omega,by go_num,lH (fun i hi=>by by_cases e:i=q;subst e;exact HKN.out;exact HZ.out i (by omega)),HBW.out.drew⟩
      case measure=>exact mZ
     ·have hrv:r=13:=by rw[HRR.out];unfold progE;rw[if_neg HL.out,if_pos (fun h=>hkn (h q hqm))]
      subst hrv;have hki:((k q:Nat):Int)≠((n:Nat):Int):=by omega
      have hkd:(((k q:Nat):Int) != ((n:Nat):Int))=true:=by simpa using hki
      have hkd2:(k q !=n)=true:=by simpa using hkn
      go_wp2_with fail
      go_region
      go_wp2_with fail
      go_returns;exact⟨rfl,HB.out.drew⟩
    ·obtain rfl:m=q:=by omega
     clear hqm0 HBW;go_wp2_with fail
     clear p0 p1 pl;refine(rnums_walk _ n o _ (HO.out.below HB.out) HNM.out.1 HSO.out).mono ?_;rintro e w1 ⟨rfl,hb1⟩;replace PB:=rW PB hb1;replace HB:=bT HB hb1;clear hb1;obtain⟨cc,hcc⟩:=eX (firstE n (fun j=>sE (o j)));rw[<- hcc];have HCCO:=lH hcc;clear hcc;by_cases h0:cc=0
     ·have HE0:Hid (firstE n (fun j=>sE (o j))=0):=lH (by rw[<- HCCO.out];exact h0);subst h0;go_wp2_with fail
      have PB1:=PB;have HB1:=HB;clear PB HB PB0 HB0
      go_loopw [5] (fun iv wr=>∃q:Nat,((q:Nat):Int) <= ((m:Nat):Int) /\ iv= .int .i64 q /\ Hid (∀i,i<q -> rowE n (t i) (b i)=0) /\ Below w1.heap.size w1 wr) (fun iv _=>m-(intOf iv).toNat)
      case atStart=>exact⟨0,by omega,rfl,lH (fun i hi=>absurd hi (by omega)),Below.refl _ _⟩
      case round=>
       obtain⟨q,hq,rfl,hz,hbw⟩:=hrel;have HRE:=lH hz.out;have PB:=lH (PB1.out.below hbw PB1.out.lt);have HB:=lH (HB1.out.trans (hbw.mono HB1.out.size));have HBW:=lH hbw;clear hz hbw;obtain⟨p0,p1⟩:=aT2 PB.out;have pl:=PB.out.lt;by_cases hqm0:((q:Nat):Int)<((m:Nat):Int)
       ·have hqm:q<m:=by omega
        obtain⟨gR,oR,rfl,hcs⟩:=HR.out.at_ (by omega);obtain⟨uv,hc1,hc2,hts⟩:=hcs q hqm;rw[HZ.out q hqm] at hts;obtain⟨X,x,rfl,_,_⟩:=hts.shape;have HTS:=lH (hts.below HB.out);have C1:=lH (cell_below HB.out hc1);have C2:=lH (cell_below HB.out hc2);clear hcs hc1 hc2 hts;have c1:=C1.out;have c2:=C2.out;have cl:=cell_lt c1;go_wp2_with fail
        clear c1 c2 cl p0 p1 pl;refine(rnums_walk _ n (t q) _ HTS.out HNM.out.1 (fun j hj=>HST.out.1 q hqm j (by rw[HZ.out q hqm];exact hj))).mono ?_;rintro e w2 ⟨rfl,hb2⟩;replace C1:=lH (cell_below hb2 C1.out);replace C2:=lH (cell_below hb2 C2.out);replace HBW:=lH (HBW.out.trans (hb2.mono HBW.out.size));replace PB:=rW PB hb2;replace HB:=bT HB hb2;clear hb2;obtain⟨cc,hcc⟩:=eX (firstE n (fun j=>sE (t q j)));rw[<- hcc];have HCCT:=lH hcc;clear hcc;by_cases h0:cc=0
        ·have HF0:Hid (firstE n (fun j=>sE (t q j))=0):=lH (by rw[<- HCCT.out];exact h0);subst h0;obtain⟨p0,p1⟩:=aT2 PB.out;have pl:=PB.out.lt;have c1:=C1.out;have c2:=C2.out;have cl:=cell_lt c1;go_wp2_with fail
         clear c1 c2 cl p0 p1 pl;refine(rnum_walk (b q) _ (HST.out.2 q hqm)).mono ?_;rintro e w3 ⟨rfl,hb3⟩;replace HBW:=lH (HBW.out.trans (hb3.mono HBW.out.size));replace PB:=rW PB hb3;replace HB:=bT HB hb3;clear hb3;obtain⟨cc,hcc⟩:=eX (sE (b q));rw[<- hcc];have HCCB:=lH hcc;clear hcc;by_cases h0:cc=0
         ·have HRW:Hid (rowE n (t q) (b q)=0):=lH (by unfold rowE;rw[if_neg (by rw[HF0.out];simp), <- HCCB.out];exact h0);subst h0;go_wp2_with fail
          go_roundw
          case rel=>exact⟨q+1,by omega,by go_num,lH (fun i hi=>by by_cases e:i=q;subst e;exact HRW.out;exact HRE.out i (by omega)),HBW.out⟩
          case measure=>exact mZ
         ·have HRW:Hid (rowE n (t q) (b q)=cc):=lH (by unfold rowE;rw[if_neg (by rw[HF0.out];simp)];exact HCCB.out.symm);have hci:((cc:Nat):Int)≠0:=by omega
          have hcd:(((cc:Nat):Int) !=0)=true:=by simpa using hci
          have hcn:(cc !=0)=true:=by simpa using h0
          have hrv:r=cc:=by rw[HRR.out];unfold progE;rw[if_neg HL.out,if_neg (fun h=>h HZ.out),if_neg (by rw[HE0.out];simp),firstE_at hqm (fun i hi=>HRE.out i hi) (by show rowE n (t q) (b q)≠0;rw[HRW.out];exact h0)];exact HRW.out
          clear h0;subst hrv;go_wp2_with fail
          go_returns;exact⟨rfl,HB.out⟩
        ·have HRW:Hid (rowE n (t q) (b q)=cc):=lH (by unfold rowE;rw[<- HCCT.out,if_pos h0]);have hci:((cc:Nat):Int)≠0:=by omega
         have hcd:(((cc:Nat):Int) !=0)=true:=by simpa using hci
         have hcn:(cc !=0)=true:=by simpa using h0
         have hrv:r=cc:=by rw[HRR.out];unfold progE;rw[if_neg HL.out,if_neg (fun h=>h HZ.out),if_neg (by rw[HE0.out];simp),firstE_at hqm (fun i hi=>HRE.out i hi) (by show rowE n (t q) (b q)≠0;rw[HRW.out];exact h0)];exact HRW.out
         clear h0;subst hrv;go_wp2_with fail
         go_returns;exact⟨rfl,HB.out⟩
       ·obtain rfl:m=q:=by omega
        have hrv:r=0:=by rw[HRR.out];unfold progE;rw[if_neg HL.out,if_neg (fun h=>h HZ.out),if_neg (by rw[HE0.out];simp)];exact firstE_zero.2 (fun i hi=>HRE.out i hi)
        subst hrv;go_wp2_with fail
        go_returns;exact⟨rfl,HB.out⟩
     ·have hci:((cc:Nat):Int)≠0:=by omega
      have hcd:(((cc:Nat):Int) !=0)=true:=by simpa using hci
      have hcn:(cc !=0)=true:=by simpa using h0
      have hrv:r=cc:=by rw[HRR.out,HCCO.out];unfold progE;rw[if_neg HL.out,if_neg (fun h=>h HZ.out),if_pos (by rw[<- HCCO.out];exact h0)]
      clear h0;subst hrv;go_wp2_with fail
      go_returns;exact⟨rfl,HB.out⟩
end
section
open Go.RowKit
open Lp (RL upd Dict)
def RWithR(w':World)(v:Int)(AR:Option Addr)(m cR:Nat)(k:Nat -> Nat)(t:Nat -> Nat -> ByteArray)(b:Nat -> ByteArray)(e:Ending):Prop:=
 ((v<0 \/ 96<v) /\ e= .returned (.tuple #[.agg #[.slice none 0 0, .slice none 0 0], .int .i64 2])) \/
 (0 <= v /\ v <= 96 /\ ∃AO cO,e= .returned (.tuple #[.agg #[.slice AO v.toNat cO, .slice AR m cR], .int .i64 (progE v.toNat m k (fun _=>⟨#[48]⟩) t b:Nat)]) /\ OwnS w' (.slice AO v.toNat cO) v.toNat (fun _=>⟨#[48]⟩))
set_option maxRecDepth 100000 in
set_option maxHeartbeats 6400000 in
theorem rwith_walk(v:Int)(AR:Option Addr)(m cR:Nat)(k:Nat -> Nat)(t:Nat -> Nat -> ByteArray)(b:Nat -> ByteArray)(w:World)(hr:TRows w (.slice AR m cR) m k t b)(hf:RowsFit m k t b):
  Calls Tryz.prog 23 #[.int .i64 v, .slice AR m cR] w fun e w'=>RWithR w' v AR m cR k t b e /\ Below w.heap.size w w':=by
 have HR:=lH hr;have HF:=lH hf;obtain⟨iN,hiN,hzN0,hzN1,hzN2⟩:=info_parts infoNc;clear hr hf;obtain⟨W,hW,RO,HB⟩:=eN1 w [.slice none 0 0, .slice none 0 0] 25;go_enter Tryz.func23,Tryz.ntmps23;by_cases h0:v<0
 ·have HV:Hid (v<0 \/ 96<v):=lH (.inl h0);have hd0:decide (v<0)=true:=decide_eq_true h0;obtain⟨r0,f0,r1,f1⟩:=aF2 RO.out;have rl:=RO.out.lt;rw[hW] at r0 r1 f0 f1 rl;go_wp2_with fail
  rw[<- hW];clear hW rl r0 f0 r1 f1;obtain⟨k0,k1⟩:=aT2 RO.out;refine bodyPost_ret (v:= .tuple #[.agg #[.slice none 0 0, .slice none 0 0], .int .i64 2]) (by simp[results,Tryz.results23,go_sem,k0,k1]) rfl ?_;exact⟨.inl ⟨HV.out,rfl⟩,HB.out⟩
 ·by_cases h96:96<v
  ·have HV:Hid (v<0 \/ 96<v):=lH (.inr h96);have hd0:decide (v<0)=false:=decide_eq_false h0;have hd1:decide (96<v)=true:=decide_eq_true h96;obtain⟨r0,f0,r1,f1⟩:=aF2 RO.out;have rl:=RO.out.lt;rw[hW] at r0 r1 f0 f1 rl;go_wp2_with fail
   rw[<- hW];clear hW rl r0 f0 r1 f1;obtain⟨k0,k1⟩:=aT2 RO.out;refine bodyPost_ret (v:= .tuple #[.agg #[.slice none 0 0, .slice none 0 0], .int .i64 2]) (by simp[results,Tryz.results23,go_sem,k0,k1]) rfl ?_;exact⟨.inl ⟨HV.out,rfl⟩,HB.out⟩
  ·obtain⟨n,rfl⟩:∃n:Nat,v=n:=⟨v.toNat,by omega⟩
   have hd0:decide (((n:Nat):Int)<0)=false:=decide_eq_false h0;have hd1:decide ((96:Int)<((n:Nat):Int))=false:=decide_eq_false h96;have hd2:decide (96<n)=false:=decide_eq_false (by omega);have hn:n <= 96:=by omega
   have HN96:=lH hn;clear h0 h96;obtain⟨w3,hw3⟩:=eX (W.alloc (.cells #[.slice none 0 0, .slice AR m cR] 25));have hsz:W.heap.size=w.heap.size+1:=by rw[hW];simp
   have hb3:Below W.heap.size W w3:=by rw[hw3];exact below_new _ _
   have QB:Hid (Row w3 (w.heap.size+1) 25 [.slice none 0 0, .slice AR m cR]):=lH (by rw[hw3, <- hsz];exact heap_new _ _);replace RO:=rW RO hb3;replace HB:=bT HB hb3;have rl:=RO.out.lt;rw[hw3,hW] at rl;go_wp2_with fail
   rw[<- hW, <- hw3];clear hw3 hsz hb3 rl hW;have QB0:=QB;have RO0:=RO;have HB0:=HB;clear QB RO HB
   go_loopw [7] (fun iv wr=>∃ (q:Nat) (B:Option Addr) (d:Nat),q <= n /\ iv= .int .i64 q /\ Row wr (w.heap.size+1) 25 [.slice B q d, .slice AR m cR] /\ OwnS wr (.slice B q d) q (fun _=>⟨#[48]⟩) /\ Hid (∀g,(Value.slice B q d).ownBlock=some g -> w.heap.size <= g) /\ Row wr w.heap.size 25 [.slice none 0 0, .slice none 0 0] /\ Below w.heap.size w wr)
    (fun iv _=>n-(intOf iv).toNat)
   case atStart=>exact⟨0,none,0,Nat.zero_le _,rfl,QB0.out,OwnS.nil _ _,lH (fun g hg=>by simp[Value.ownBlock] at hg),RO0.out,HB0.out⟩
   case round=>
    clear QB0 RO0 HB0;obtain⟨q,B,d,hq,rfl,hqb,hos,hlo,hro,hbw⟩:=hrel;have QB:=lH hqb;have OS:=lH hos;have LO:=lH hlo.out;have RO:=lH hro;have HB:=lH hbw;clear hqb hos hlo hro hbw;by_cases hqm:((q:Nat):Int)<((n:Nat):Int)
    ·have hqn1:q<n:=by omega
     obtain⟨q0,q1⟩:=aT2 QB.out;have f0:=QB.out.free 0;have ql:=QB.out.lt
     go_wp2_with (at_builtin;(refine wpList_plain rfl fun K hK=>wp_appL _ (.tmp 23) (.tmp 24) 22 rfl 30 iN (.string ⟨#[]⟩) 16 Tryz.underlying22 hiN hzN0 hzN1 hzN2 rfl (.slice B q d) q _ rfl OS.out (.string ⟨#[48]⟩) rfl rfl rfl ⟨by unfold maxLen;omega,by omega⟩ ?_))
     clear q0 q1 f0 ql;intro va w5 ho ht;obtain⟨B2,d2,hvn,_,_⟩:=OwnL.shape ho;subst hvn;have hqq:(Value.slice B q d).ownBlock≠some (w.heap.size+1):=fun e=>by obtain⟨_,hx⟩:=OwnL.row OS.out e;exact absurd (QB.out.ty hx) (by decide)
     have hqr:(Value.slice B q d).ownBlock≠some w.heap.size:=fun e=>by obtain⟨_,hx⟩:=OwnL.row OS.out e;exact absurd (RO.out.ty hx) (by decide)
     replace QB:=lH (QB.out.turned ht hqq);replace RO:=lH (RO.out.turned ht hqr);have hbt:=ht.below (B:=w.heap.size) HB.out.size LO.out;have LO2:=lH (ht.base HB.out.size LO.out);replace HB:=lH (HB.out.trans hbt);have OS2:Hid (OwnS w5 (.slice B2 (q+1) d2) (q+1) (fun _=>⟨#[48]⟩)):=lH ho;clear hbt ht ho hqq hqr OS LO;refine hK _ _ ?_;have q0:=aI 0 QB;have f0:=QB.out.free 0;have ql:=QB.out.lt;go_wp2_with fail
     clear q0 f0 ql;have hg:World.grownBy w5 (w5.setCell ⟨w.heap.size+1,0,none⟩ (.slice B2 (q+1) d2)) (some (w.heap.size+1)):=grownBy_set _ _ _ _;have QN:Row (w5.setCell ⟨w.heap.size+1,0,none⟩ (.slice B2 (q+1) d2)) (w.heap.size+1) 25 [.slice B2 (q+1) d2, .slice AR m cR]:=QB.out.set 0 (.slice B2 (q+1) d2);have ON:OwnS (w5.setCell ⟨w.heap.size+1,0,none⟩ (.slice B2 (q+1) d2)) (.slice B2 (q+1) d2) (q+1) (fun _=>⟨#[48]⟩):=OwnL.other OS2.out hg (fun e1=>by obtain⟨_,hx⟩:=OwnL.row OS2.out e1;exact absurd (QB.out.ty hx) (by decide));have RN:=RO.out.other hg (by omega);have HN:=HB.out.grown hg HB.out.size (by first | (simp;done) | (simp;omega));go_roundw
     case rel=>exact⟨q+1,B2,d2,by omega,by go_num,QN,ON,LO2,RN,HN⟩
     case measure=>exact mZ
    ·have hqm0:n=q:=by omega
     subst hqm0;have HTS:=lH (OwnS.ts OS.out);go_wp2_with fail
     have HRG:=rG wr;have glQB:=QB.out.lt;obtain⟨g0QB,g1QB⟩:=aT2 QB.out;have KS:=lH (kC g0QB (kN g1QB));clear glQB g0QB g1QB;refine rL KS.out (fun i=>decide (3 <= i)) ?_;have hh:=KS.out _ HRG.out;refine tKs 0 27 hh ?_;refine tKs 1 28 hh ?_;refine rD 2 (fun K hK=> ?_);go_simp;refine(rprog_walk B AR n m d cR k (fun _=>⟨#[48]⟩) t b _ (by exact OwnS.ts OS.out) (by exact TRows.below (HR.out.below HB.out) (Below.refl _ _).drew) (by have:=HN96.out;omega) HF.out.1 (fun j _=>by show(1:Nat) <= 65536;omega) HF.out.2.1 HF.out.2.2).mono ?_;rintro e w9 ⟨rfl,hb9⟩;have hb9:Below wr.heap.size wr w9:=bD hb9;replace QB:=rW QB hb9;replace RO:=rW RO hb9;replace HB:=bT HB hb9;replace HRG:=bT HRG hb9;replace OS:Hid (OwnS w9 (.slice B n d) n (fun _=>⟨#[48]⟩)):=lH (OwnL.below OS.out hb9);clear hh hb9;have hh:=KS.out _ HRG.out;refine kH hK hh ?_;clear hK K;obtain⟨r0,r1⟩:=aT2 RO.out;have f0:=RO.out.free 0;have f1:=RO.out.free 1;have rl:=RO.out.lt;refine rD 3 (fun K hK=> ?_);go_simp;refine kL hK ?_;clear hK K;refine tWs 4 5 ?_;refine dN ?_ _;clear hh KS HRG;clear r0 r1 f0 f1 rl;go_wp2_with fail
     have hg:World.grownBy w9 ((w9.setCell ⟨w.heap.size,0,none⟩ (.slice B n d)).setCell ⟨w.heap.size,1,none⟩ (.slice AR m cR)) (some w.heap.size):=grownBy_trans (grownBy_set _ _ _ _) (grownBy_set _ _ _ _);have RE:Row ((w9.setCell ⟨w.heap.size,0,none⟩ (.slice B n d)).setCell ⟨w.heap.size,1,none⟩ (.slice AR m cR)) w.heap.size 25 [.slice B n d, .slice AR m cR]:=(RO.out.set 0 (.slice B n d)).set 1 (.slice AR m cR);have ON:OwnS ((w9.setCell ⟨w.heap.size,0,none⟩ (.slice B n d)).setCell ⟨w.heap.size,1,none⟩ (.slice AR m cR)) (.slice B n d) n (fun _=>⟨#[48]⟩):=OwnL.other OS.out hg (fun e1=>by obtain⟨_,hx⟩:=OwnL.row OS.out e1;exact absurd (RO.out.ty hx) (by decide));have HN:=HB.out.grown hg HB.out.size (by first | (simp;done) | (simp;omega));obtain⟨wE,hwE⟩:=eX (((w9.setCell ⟨w.heap.size,0,none⟩ (.slice B n d)).setCell ⟨w.heap.size,1,none⟩ (.slice AR m cR)));rw[<- hwE] at RE ON HN ⊢;have k0:=RE.at_ 0 rfl;have k1:=RE.at_ 1 rfl;refine bodyPost_ret (v:= .tuple #[.agg #[.slice B n d, .slice AR m cR], .int .i64 (progE n m k (fun _=>⟨#[48]⟩) t b:Nat)]) (by simp[results,Tryz.results23,go_sem,k0,k1]) rfl ?_;exact⟨.inr ⟨by omega,by omega,B,d,rfl,ON⟩,HN⟩
end
section
open Go.RowKit
open Lp (RL upd Dict)
def RShort(n:Nat)(t:Nat -> ByteArray)(b:ByteArray):Prop:=n <= 6 /\ (∀j,j<n -> (t j).size <= 12) /\ b.size <= 12
theorem rshort_iff{n:Nat}{t:Nat -> ByteArray}{b:ByteArray}:Shorts 6 2 (fun i=>if i=0 then n else 1) (fun i j=>if i=0 then t j else b)↔RShort n t b:=by
 constructor
 ·intro h;have h0:=h 0 (by omega);have h1:=h 1 (by omega);exact⟨h0.1,h0.2,h1.2 0 (by show(0:Nat)<1;omega)⟩
 ·rintro⟨h1,h2,h3⟩ i hi
  rcases i with _ | _ | i
  ·exact⟨h1,h2⟩
  ·exact⟨by show(1:Nat) <= 6;omega,fun j _=>h3⟩
  ·omega
theorem tls_two{w w1 w2:World}{A:Option Addr}{n c g1 g2:Nat}{t:Nat -> ByteArray}{b:ByteArray}(ht:TS w (.slice A n c) n t)(h1:Below w.heap.size w w1)(h2:Below w1.heap.size w1 w2)(r1:Row w1 g1 30 [.string b])(r2:Row w2 g2 22 [.slice A n c, .slice (some ⟨g1,0,none⟩) 1 1]):
  TLs w2 (.slice (some ⟨g2,0,none⟩) 2 2) 2 (fun i=>if i=0 then n else 1) (fun i j=>if i=0 then t j else b):=by
 refine⟨_,_,rfl,Nat.le_refl _,by unfold maxLen;omega, .inr ⟨g2,0,rfl,fun i hi=> ?_⟩⟩
 rcases i with _ | _ | i
 ·exact⟨_,r2.at_ 0 rfl,(ht.below h1).below h2⟩
 ·exact⟨_,r2.at_ 1 rfl,⟨_,_,rfl,Nat.le_refl _,by unfold maxLen;omega, .inr ⟨g1,0,rfl,fun j hj=>by have hj:j<1:=hj;rw[show 0+j=0 by omega];exact(r1.below h2 r1.lt).at_ 0 rfl⟩⟩⟩
 ·omega
set_option maxRecDepth 100000 in
set_option maxHeartbeats 1600000 in
theorem fewrow_walk(A:Option Addr)(n c:Nat)(t:Nat -> ByteArray)(b:ByteArray)(w:World)(ht:TS w (.slice A n c) n t):
  Calls Tryz.prog 62 #[.agg #[.slice A n c, .string b]] w fun e w'=>((RShort n t b /\ e= .returned (.bool false)) \/ (¬RShort n t b /\ e= .returned (.bool true))) /\ Below w.heap.size w w':=by
 have HT:=lH ht;clear ht;obtain⟨w1,hw1⟩:=eX (w.alloc (.cells #[.slice A n c, .string b] 53));obtain⟨w2,hw2⟩:=eX (w1.alloc (.cells #[.string b] 30));obtain⟨w3,hw3⟩:=eX (w2.alloc (.cells #[.slice A n c, .slice (some ⟨w.heap.size+1,0,none⟩) 1 1] 22));have hb1:Below w.heap.size w w1:=by rw[hw1];exact below_new _ _
 have hb2:Below w1.heap.size w1 w2:=by rw[hw2];exact below_new _ _
 have hb3:Below w2.heap.size w2 w3:=by rw[hw3];exact below_new _ _
 have e1:w1.heap.size=w.heap.size+1:=by rw[hw1];simp
 have e2:w2.heap.size=w.heap.size+1+1:=by rw[hw2,size_alloc,e1]
 have R1:Row w2 (w.heap.size+1) 30 [.string b]:=by rw[hw2, <- e1];exact heap_new _ _
 have R2:Row w3 (w.heap.size+1+1) 22 [.slice A n c, .slice (some ⟨w.heap.size+1,0,none⟩) 1 1]:=by rw[hw3, <- e2];exact heap_new _ _
 have HTL:=lH (tls_two (HT.out.below hb1) hb2 hb3 R1 R2);have HB:Hid (Below w.heap.size w w3):=lH ((hb1.trans (hb2.mono hb1.size)).trans (hb3.mono (Nat.le_trans hb1.size hb2.size)));clear R1 R2 hb1 hb2 hb3 e1 e2;go_enter Tryz.func62,Tryz.ntmps62;go_wp2_with fail
 rw[<- hw1, <- hw2, <- hw3];clear hw1 hw2 hw3;refine(lshort_walk 6 _ 2 _ _ _ HTL.out (by decide) (by decide)).mono ?_;rintro e w4 ⟨hsh,hb⟩;replace HB:=bT HB hb;clear hb HTL;rw[rshort_iff] at hsh
 rcases hsh with ⟨h,rfl⟩ | ⟨h,rfl⟩
 ·have H:=lH h;clear h;go_wp2_with fail
  go_returns;exact⟨.inl ⟨H.out,rfl⟩,HB.out⟩
 ·have H:=lH h;clear h;go_wp2_with fail
  go_returns;exact⟨.inr ⟨H.out,rfl⟩,HB.out⟩
def RShorts(m:Nat)(k:Nat -> Nat)(t:Nat -> Nat -> ByteArray)(b:Nat -> ByteArray):Prop:=∀i,i<m -> RShort (k i) (t i) (b i)
set_option maxRecDepth 100000 in
set_option maxHeartbeats 1600000 in
theorem rowidx_walk(va:Value)(m:Nat)(k:Nat -> Nat)(t:Nat -> Nat -> ByteArray)(b:Nat -> ByteArray)(w:World)(hr:TRows w va m k t b):
  Calls Tryz.prog 99 #[va, .func (.func 62) #[] #[]] w fun e w'=>((RShorts m k t b /\ e= .returned (.int .i64 (-1))) \/ (¬RShorts m k t b /\ ∃z:Nat,e= .returned (.int .i64 z))) /\ Below w.heap.size w w':=by
 obtain⟨A,c,rfl,hmc,hcm⟩:=hr.shape;have HR:=lH hr;have hmi:((m:Nat):Int) <= 9223372036854775807:=by unfold maxLen at hcm;omega
 clear hr hmc hcm;go_enter Tryz.func99,Tryz.ntmps99;go_wp2_with fail
 go_loopw [8] (fun iv wr=>∃q:Nat,((q:Nat):Int) <= ((m:Nat):Int) /\ iv= .int .i64 q /\ Hid (RShorts q k t b) /\ Below w.heap.size w wr) (fun iv _=>m-(intOf iv).toNat)
 case atStart=>exact⟨0,by omega,rfl,lH (fun i hi=>absurd hi (by omega)),Below.refl _ _⟩
 case round=>
  obtain⟨q,hq,rfl,hz,hb⟩:=hrel;have HZ:=lH hz.out;have HB:=lH hb;clear hz hb;by_cases hqm:((q:Nat):Int)<((m:Nat):Int)
  ·have hqm1:q<m:=by omega
   obtain⟨gR,oR,rfl,hcs⟩:=HR.out.at_ (by omega);obtain⟨u,hc1,hc2,hts⟩:=hcs q hqm1;obtain⟨X,x,rfl,_,_⟩:=hts.shape;have HTS:=lH (hts.below HB.out);have c1:=cell_below HB.out hc1;have c2:=cell_below HB.out hc2;have cl:=cell_lt c1;clear hcs hc1 hc2 hts;go_wp2_with fail
   clear c1 c2 cl;refine(fewrow_walk X (k q) x (t q) (b q) _ HTS.out).mono ?_;rintro e w2 ⟨hsh,hb⟩;replace HB:=bT HB hb;clear hb
   rcases hsh with ⟨h,rfl⟩ | ⟨h,rfl⟩
   ·have H:=lH h;clear h;go_wp2_with fail
    go_roundw
    case rel=>exact⟨q+1,by omega,by go_num,lH (fun i hi=>by by_cases e:i=q;subst e;exact H.out;exact HZ.out i (by omega)),HB.out⟩
    case measure=>simp[intOf];omega
   ·have H:Hid (¬RShorts m k t b):=lH (fun h2=>h (h2 q hqm1));clear h;go_wp2_with fail
    go_returns;exact⟨.inr ⟨H.out,q,rfl⟩,HB.out⟩
  ·obtain rfl:q=m:=by omega
   go_wp2_with fail
   go_returns;exact⟨.inl ⟨HZ.out,rfl⟩,HB.out⟩
theorem rowhas_walk(va:Value)(m:Nat)(k:Nat -> Nat)(t:Nat -> Nat -> ByteArray)(b:Nat -> ByteArray)(w:World)(hr:TRows w va m k t b):
  Calls Tryz.prog 61 #[va, .func (.func 62) #[] #[]] w fun e w'=>((RShorts m k t b /\ e= .returned (.bool false)) \/ (¬RShorts m k t b /\ e= .returned (.bool true))) /\ Below w.heap.size w w':=by
 have HW:=lH (rowidx_walk va m k t b w hr);clear hr;go_enter Tryz.func61,Tryz.ntmps61;go_wp2_with fail
 refine HW.out.mono ?_;rintro e w2 ⟨hsh,hb⟩;have HB:=lH hb;clear hb
 rcases hsh with ⟨h,rfl⟩ | ⟨h,z,rfl⟩
 ·have H:=lH h;clear h;go_wp2_with fail
  go_returns;exact⟨.inl ⟨H.out,rfl⟩,HB.out⟩
 ·have H:=lH h;have hz:(0:Int) <= ((z:Nat):Int):=by omega
  clear h;go_wp2_with fail
  go_returns;exact⟨.inr ⟨H.out,rfl⟩,HB.out⟩
theorem fewrows_walk(most:Nat)(va:Value)(m:Nat)(k:Nat -> Nat)(t:Nat -> Nat -> ByteArray)(b:Nat -> ByteArray)(w:World)(hr:TRows w va m k t b):
  Calls Tryz.prog 22 #[.int .i64 most,va] w fun e w'=>(((m <= most /\ RShorts m k t b) /\ e= .returned (.bool true)) \/ (¬(m <= most /\ RShorts m k t b) /\ e= .returned (.bool false))) /\ Below w.heap.size w w':=by
 have HW:=lH (fun w' hb=>rowhas_walk va m k t b w' (hr.below hb));obtain⟨A,c,rfl,_,_⟩:=hr.shape;clear hr;go_enter Tryz.func22,Tryz.ntmps22;by_cases hm:m <= most
 ·have hmi:((m:Nat):Int) <= ((most:Nat):Int):=by omega
  have HM:=lH hm;clear hm;go_wp2_with fail
  refine(HW.out _ (Below.refl _ _)).mono ?_;rintro e w2 ⟨hsh,hb⟩;have HB:=lH hb;clear hb
  rcases hsh with ⟨h,rfl⟩ | ⟨h,rfl⟩
  ·have H:=lH h;clear h;go_wp2_with fail
   go_returns;exact⟨.inl ⟨⟨HM.out,H.out⟩,rfl⟩,HB.out⟩
  ·have H:=lH h;clear h;go_wp2_with fail
   go_returns;exact⟨.inr ⟨fun h=>H.out h.2,rfl⟩,HB.out⟩
 ·have hmi:((most:Nat):Int)<((m:Nat):Int):=by omega
  have hmd:decide (((m:Nat):Int) <= ((most:Nat):Int))=false:=decide_eq_false (by omega);have hmn:decide (m <= most)=false:=decide_eq_false hm;have HM:=lH hm;clear hm;go_wp2_with fail
  go_returns;exact⟨.inr ⟨fun h=>HM.out h.1,rfl⟩,Below.refl _ _⟩
end
section
open Go.RowKit
open Lp (RL upd Dict)
theorem tls_one{w w1:World}{A:Option Addr}{n c g:Nat}{t:Nat -> ByteArray}{e:TypeId}(ht:TS w (.slice A n c) n t)(h1:Below w.heap.size w w1)(r1:Row w1 g e [.slice A n c]):
  TLs w1 (.slice (some ⟨g,0,none⟩) 1 1) 1 (fun _=>n) (fun _=>t):=by
 refine⟨_,_,rfl,Nat.le_refl _,by unfold maxLen;omega, .inr ⟨g,0,rfl,fun i hi=> ?_⟩⟩;obtain rfl:i=0:=by omega
 exact⟨_,r1.at_ 0 rfl,ht.below h1⟩
def FewP(n m:Nat)(k:Nat -> Nat)(o:Nat -> ByteArray)(t:Nat -> Nat -> ByteArray)(b:Nat -> ByteArray):Prop:=(n <= 6 /\ ∀j,j<n -> (o j).size <= 12) /\ m <= 8 /\ RShorts m k t b
end
end Go.Proofs.YtdefghfjhgmpfaaGreatDoor
