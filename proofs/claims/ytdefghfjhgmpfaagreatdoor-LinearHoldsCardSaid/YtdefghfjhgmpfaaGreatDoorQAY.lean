/- Parts of this proof: ShortL QArith Copies. -/
import Derived.Test.YtdefghfjhgmpfaaGreatDoorQAX
import Derived.Test.YtdefghfjhgmpfaaGreatDoorQAL
import Derived.Test.YtdefghfjhgmpfaaGreatDoorQAU
import Derived.Test.YtdefghfjhgmpfaaGreatDoorQAW
import Derived.Test.YtdefghfjhgmpfaaGreatDoorQAV
import Derived.Test.YtdefghfjhgmpfaaGreatDoorQAS
namespace Go.Proofs.YtdefghfjhgmpfaaGreatDoor
section
open Go.RowKit
open Lp (RL upd Dict)
theorem rnum_walk(s:ByteArray)(w:World)(hs:s.size <= 65536):Calls Tryz.prog 31 #[.string s] w fun e w'=>e= .returned (.int .i64 (sE s:Nat)) /\ Below w.heap.size w w':=by
 have HW:=lH (qcheck_walk s w hs);clear hs;go_enter Tryz.func31,Tryz.ntmps31;go_wp2_with fail
 refine HW.out.mono ?_;rintro e w1 ⟨rfl,hb⟩;have HB:=lH hb;clear hb;go_wp2_with fail
 go_returns;exact⟨rfl,HB.out⟩
set_option maxHeartbeats 1600000 in
theorem rnums_walk(va:Value)(n:Nat)(s:Nat -> ByteArray)(w:World)(ha:TS w va n s)(hn:n <= 1000000000)(hs:∀j,j<n -> (s j).size <= 65536):
  Calls Tryz.prog 39 #[va] w fun e w'=>e= .returned (.int .i64 (firstE n (fun j=>sE (s j)):Nat)) /\ Below w.heap.size w w':=by
 obtain⟨A,c,rfl,_,_⟩:=ha.shape;have HA:=lH ha;have HS:=lH hs;have hni:((n:Nat):Int) <= 1000000000:=by omega
 clear ha hs hn;obtain⟨r,hr⟩:=eX (firstE n (fun j=>sE (s j)));rw[<- hr];have HR:=lH hr;clear hr;go_enter Tryz.func39,Tryz.ntmps39;go_wp2_with fail
 go_loopw [3] (fun iv wr=>∃k:Nat,((k:Nat):Int) <= ((n:Nat):Int) /\ iv= .int .i64 k /\ Hid (∀j,j<k -> sE (s j)=0) /\ Below w.heap.size w wr)
  (fun iv _=>n-(intOf iv).toNat)
 case atStart=>exact⟨0,by omega,rfl,lH (fun j hj=>absurd hj (by omega)),Below.refl _ _⟩
 case round=>
  obtain⟨k,hk,rfl,hz,hb⟩:=hrel;have HZ:=lH hz.out;have HB:=lH hb;clear hz hb;by_cases hkn:((k:Nat):Int)<((n:Nat):Int)
  ·have hkn1:k<n:=by omega
   obtain⟨gA,oA,rfl,hcs⟩:=HA.out.at_ (by omega);have kc:=cell_below HB.out (hcs k hkn1);have kcl:=cell_lt kc;clear hcs;go_wp2_with fail
   clear kc kcl;refine(rnum_walk (s k) _ (HS.out k hkn1)).mono ?_;rintro e w2 ⟨rfl,hb2⟩;replace HB:=bT HB hb2;clear hb2;obtain⟨cc,hcc⟩:=eX (sE (s k));rw[<- hcc];have HCC:=lH hcc;clear hcc;by_cases h0:cc=0
   ·have HS0:Hid (sE (s k)=0):=lH (by rw[<- HCC.out];exact h0);subst h0;go_wp2_with fail
    go_roundw
    case rel=>exact⟨k+1,by omega,by go_num,lH (fun j hj=>by by_cases e:j=k;subst e;exact HS0.out;exact HZ.out j (by omega)),HB.out⟩
    case measure=>simp[intOf];omega
   ·have hr1:r=cc:=by rw[HR.out,HCC.out];exact firstE_at hkn1 (fun i hi=>HZ.out i hi) (by rw[<- HCC.out];exact h0)
    have hci:((cc:Nat):Int)≠0:=by omega
    have hcd:(((cc:Nat):Int) !=0)=true:=by simpa using hci
    have hcn:(cc !=0)=true:=by simpa using h0
    clear h0;subst hr1;go_wp2_with fail
    go_returns;exact⟨rfl,HB.out⟩
  ·have hkk:k=n:=by omega
   have hr0:r=0:=by rw[HR.out,firstE_zero];intro j hj;exact HZ.out j (by omega)
   clear hkk;subst hr0;go_wp2_with fail
   go_returns;exact⟨rfl,HB.out⟩
def bigAny(n:Nat)(s:Nat -> ByteArray):Bool:=((List.range n).map s).any (fun x=>decide (12<x.size))
theorem bigAny_no{n:Nat}{s:Nat -> ByteArray}:bigAny n s=false↔∀j,j<n -> (s j).size <= 12:=by
 unfold bigAny;rw[List.any_eq_false];constructor
 ·intro h j hj;have:=h (s j) (List.mem_map.2 ⟨j,List.mem_range.2 hj,rfl⟩);simp at this;exact this
 ·intro h x hx;obtain⟨j,hj,rfl⟩:=List.mem_map.1 hx;have:=h j (List.mem_range.1 hj);simp;exact this
theorem short1_walk(x:ByteArray)(w:World):Calls Tryz.prog 81 #[.string x] w fun e w'=>e= .returned (.bool (decide (12<x.size))) /\ ∃q,w'=w.drewN q:=by
 go_enter Tryz.func81,Tryz.ntmps81;go_wp2_with fail
 go_returns;exact⟨by show Ending.returned (Value.bool (decide ((12:Int)<((x.size:Nat):Int))))=_;rw[show decide ((12:Int)<((x.size:Nat):Int))=decide (12<x.size) from decide_eq_decide.2 (by omega)],0,rfl⟩
theorem lcontains_walk(va:Value)(n:Nat)(s:Nat -> ByteArray)(w:World)(ha:TS w va n s)(hn:n <= 1000000000):
  Calls Tryz.prog 80 #[va, .func (.func 81) #[] #[]] w fun e w'=>e= .returned (.bool (bigAny n s)) /\ Below w.heap.size w w':=by
 obtain⟨A,c,rfl,_,_⟩:=ha.shape
 rcases Nat.eq_zero_or_pos n with h0 | h0
 ·subst h0;refine(AnyE.slices_ContainsFunc_empty layF A c _ w).mono ?_;rintro e w' ⟨rfl,rfl⟩;exact⟨rfl,Below.refl _ _⟩
 ·obtain⟨g,o,rfl,hc⟩:=ha.at_ h0;refine(AnyE.slices_ContainsFunc layF Value.string (fun x=>decide (12<x.size)) 81 #[] (enters_of Tryz.func81 rfl rfl) g o n c ((List.range n).map s) w (fun W x _=>short1_walk x W) (by simp) (by omega) (fun j hj=> ?_)).mono ?_
  ·have hj':j<n:=by simpa using hj
   rw[hc j hj'];simp[hj']
  ·rintro e w' ⟨rfl,q,rfl⟩;refine⟨?_,below_drewN _ _ _⟩;unfold bigAny;rw[List.take_of_length_le (by simp)]
def TLs(w:World)(v:Value)(q:Nat)(k:Nat -> Nat)(s:Nat -> Nat -> ByteArray):Prop:=
 ∃A c,v= .slice A q c /\ q <= c /\ c <= maxLen /\ (q=0 \/ ∃g o,A=some ⟨g,o,none⟩ /\ ∀i,i<q -> ∃u,w.cell? ⟨g,o+i,none⟩=some u /\ TS w u (k i) (s i))
theorem TLs.at_{w:World}{A:Option Addr}{c q:Nat}{k:Nat -> Nat}{s:Nat -> Nat -> ByteArray}(h:TLs w (.slice A q c) q k s)(hq:0<q):∃g o,A=some ⟨g,o,none⟩ /\ ∀i,i<q -> ∃u,w.cell? ⟨g,o+i,none⟩=some u /\ TS w u (k i) (s i):=by
 obtain⟨A',c',hv,_,_,h3⟩:=h;simp only[Value.slice.injEq,true_and] at hv;obtain⟨rfl,rfl⟩:=hv
 rcases h3 with h3 | h3
 ·omega
 ·exact h3
theorem TLs.below{w w':World}{v:Value}{q:Nat}{k:Nat -> Nat}{s:Nat -> Nat -> ByteArray}(h:TLs w v q k s)(hb:Below w.heap.size w w'):TLs w' v q k s:=by
 obtain⟨A,c,hv,h1,h2,h3⟩:=h;refine⟨A,c,hv,h1,h2,h3.imp id fun⟨g,o,hA,hr⟩=>⟨g,o,hA,fun i hi=> ?_⟩⟩;obtain⟨u,a1,a2⟩:=hr i hi;exact⟨u,cell_below hb a1,a2.below hb⟩
def Shorts(most q:Nat)(k:Nat -> Nat)(s:Nat -> Nat -> ByteArray):Prop:=∀i,i<q -> k i <= most /\ ∀j,j<k i -> (s i j).size <= 12
set_option maxHeartbeats 1600000 in
theorem lshort_walk(most:Nat)(v:Value)(q:Nat)(k:Nat -> Nat)(s:Nat -> Nat -> ByteArray)(w:World)(h:TLs w v q k s)(hm:most <= 1000)(hq:q <= 1000000000):
  Calls Tryz.prog 43 #[.int .i64 most,v] w fun e w'=>((Shorts most q k s /\ e= .returned (.bool true)) \/ (¬Shorts most q k s /\ e= .returned (.bool false))) /\ Below w.heap.size w w':=by
 obtain⟨A,c,rfl,_⟩:∃A c,v= .slice A q c /\ True:=by obtain⟨A,c,hv,_⟩:=h;exact⟨A,c,hv,trivial⟩
 have HL:=lH h;have HM:=lH hm;clear h hm;go_enter Tryz.func43,Tryz.ntmps43;go_wp2_with fail
 go_loopw [9] (fun iv wr=>∃p:Nat,((p:Nat):Int) <= ((q:Nat):Int) /\ iv= .int .i64 p /\ Hid (Shorts most p k s) /\ Below w.heap.size w wr)
  (fun iv _=>q-(intOf iv).toNat)
 case atStart=>exact⟨0,by omega,rfl,lH (fun i hi=>absurd hi (by omega)),Below.refl _ _⟩
 case round=>
  obtain⟨p,hp,rfl,hz,hb⟩:=hrel;have HZ:=lH hz.out;have HB:=lH hb;clear hz hb;by_cases hpq:((p:Nat):Int)<((q:Nat):Int)
  ·have hpq1:p<q:=by omega
   obtain⟨gA,oA,rfl,hcs⟩:=HL.out.at_ (by omega);obtain⟨u,hu,hts⟩:=hcs p hpq1;obtain⟨X,x,rfl,_,_⟩:=hts.shape;have HTS:=lH (hts.below HB.out);have kc:=cell_below HB.out hu;have kcl:=cell_lt kc;obtain⟨kp,hkp⟩:=eX (k p);rw[<- hkp] at kc HTS;have HKP:=lH hkp;clear hcs hts hu hkp;by_cases hl:most<kp
   ·have hli:((most:Nat):Int)<((kp:Nat):Int):=by omega
    have HN:Hid (¬Shorts most q k s):=lH (fun h=>by have:=(h p hpq1).1;rw[<- HKP.out] at this;omega);clear hl;go_wp2_with fail
    go_returns;exact⟨.inr ⟨HN.out,rfl⟩,HB.out⟩
   ·have hli:((kp:Nat):Int) <= ((most:Nat):Int):=by omega
    have hld:decide (((most:Nat):Int)<((kp:Nat):Int))=false:=decide_eq_false (by omega);have hln:decide (most<kp)=false:=decide_eq_false hl;have HLE:Hid (kp <= most):=lH (by omega);clear hl;go_wp2_with fail
    clear kc kcl hli hld hln;refine(lcontains_walk _ kp (s p) _ HTS.out (by have:=HLE.out;have:=HM.out;omega)).mono ?_;rintro e w2 ⟨rfl,hb2⟩;replace HB:=bT HB hb2;clear hb2;obtain⟨t,ht⟩:=eX (bigAny kp (s p));rw[<- ht];have HT:=lH ht;clear ht;cases t
    ·have HS1:=lH (bigAny_no.1 HT.out.symm);go_wp2_with fail
     go_roundw
     case rel=>exact⟨p+1,by omega,by go_num,lH (fun i hi=>by by_cases e:i=p;subst e;rw[<- HKP.out];exact⟨HLE.out,HS1.out⟩;exact HZ.out i (by omega)),HB.out⟩
     case measure=>simp[intOf];omega
    ·have HN:Hid (¬Shorts most q k s):=lH (fun h=>by have h2:=(h p hpq1).2;rw[<- HKP.out] at h2;have:=bigAny_no.2 h2;rw[<- HT.out] at this;cases this);go_wp2_with fail
     go_returns;exact⟨.inr ⟨HN.out,rfl⟩,HB.out⟩
  ·obtain rfl:p=q:=by omega
   go_wp2_with fail
   go_returns;exact⟨.inl ⟨HZ.out,rfl⟩,HB.out⟩
end
section
open Go.RowKit
open Lp (RL upd Dict)
theorem fewm_lim{a:Int}{k:Nat}(h:a.natAbs<10^k)(hk:k <= 1000000):FewM a:=by
 unfold FewM;have h1:=digsT_le a.natAbs;have h2:=dec_len_le k a.natAbs (Nat.lt_of_lt_of_le h (Nat.pow_le_pow_right (by decide) (by omega)));omega
theorem txt_len{a:Int}{k:Nat}(h:a.natAbs<10^k):(txt a).size <= k+2:=by
 have h2:=dec_len_le k a.natAbs (Nat.lt_of_lt_of_le h (Nat.pow_le_pow_right (by decide) (by omega)));rw[show(txt a).size=(Lib.itoa a).length by unfold txt;rfl];by_cases h':a<0
 ·rw[itoa_neg h',List.length_cons];omega
 ·rw[itoa_nonneg' h'];omega
theorem qtxt_len{q:Rat}{k:Nat}(h:RL k q):(qtxt q).size <= 2*k+5:=by
 have h1:=txt_len h.1;have h2:=txt_len (a:=(q.den:Int)) (k:=k) (by rw[Int.natAbs_natCast];exact h.2);by_cases e:q.den=1
 ·rw[qtxt_whole e];omega
 ·rw[<- qtxt_frac e,ByteArray.size_append,ByteArray.size_append];have:(⟨#[47]⟩:ByteArray).size=1:=rfl;omega
theorem partB_qtxt(q:Rat):partB (qtxtL q)=Lib.itoa (q.den:Int):=by
 unfold partB;by_cases e:q.den=1
 ·rw[if_pos (qcut_whole e).2,e];exact itoa_one.symm
 ·obtain⟨_,h2,h3⟩:=qcut_frac e;rw[if_neg (by rw[h2];simp),h3,itoa_nonneg' (by omega),Int.natAbs_natCast]
theorem cutA_qtxt(q:Rat):cutA (qtxtL q)=Lib.itoa q.num:=by
 by_cases e:q.den=1
 ·exact(qcut_whole e).1
 ·exact(qcut_frac e).1
theorem parts_q(q:Rat)(k:Nat)(w:World)(h:RL k q)(hk:k <= 1000000):Calls Tryz.prog 58 #[.string (qtxt q)] w fun e w'=>e= .returned (.tuple #[.string (txt q.num), .string (txt (q.den:Int))]) /\ Below w.heap.size w w':=by
 refine(parts_walk (qtxt q) w (by have:=qtxt_len h;omega)).mono ?_;rintro e w' ⟨a,b,rfl,ha,hb,hbw⟩;rw[qtxt_list] at ha hb;rw[txt_ba (ha.trans (cutA_qtxt q)),txt_ba (hb.trans (partB_qtxt q))];exact⟨rfl,hbw⟩
set_option maxRecDepth 100000 in
set_option maxHeartbeats 3200000 in
theorem ttext_walk(p d:Int)(q:Rat)(k:Nat)(w:World)(hq:q=Rat.divInt p d)(hd:d≠0)(hp:p.natAbs<10^k)(hdk:d.natAbs<10^k)(hk:k <= 1000000):
  Calls Tryz.prog 59 #[.string (txt p), .string (txt d)] w fun e w'=>e= .returned (.string (qtxt q)) /\ Below w.heap.size w w':=by
 have HB:Hid (Below w.heap.size w w):=lH (Below.refl _ _);have hrl:RL k q:=by rw[hq];exact Lp.rl_divInt hd hp hdk
 have HRL:=lH hrl;have HK:=lH hk;have HFp:=lH (fewm_lim hp hk);have HFd:=lH (fewm_lim hdk hk);clear hp hdk hk hrl;go_enter Tryz.func59,Tryz.ntmps59;go_wp2_with fail
 refine(rsign_walk d _).mono ?_;rintro e w1 ⟨rfl,rfl⟩;by_cases hn:d<0
 ·have hsg:sgI d<0:=sgI_neg.2 hn;have HP0:Hid (0< -d):=lH (by omega);have HQ:Hid (Rat.divInt (-p) (-d)=q):=lH (by rw[hq];exact red_neg p d);have HFP:Hid (FewM (-p)):=lH (by unfold FewM;rw[Int.natAbs_neg];exact HFp.out);have HFD:Hid (FewM (-d)):=lH (by unfold FewM;rw[Int.natAbs_neg];exact HFd.out);clear hn hd hq;go_wp2_with fail
  clear hsg;refine(rneg_walk p _ HFp.out.few).mono ?_;rintro e w9 ⟨rfl,hb⟩;replace HB:=bT HB hb;clear hb;go_wp2_with fail
  refine(rneg_walk d _ HFd.out.few).mono ?_;rintro e w9 ⟨rfl,hb⟩;replace HB:=bT HB hb;clear hb;go_wp2_with fail
  obtain⟨P,hP⟩:=eX (-p);obtain⟨D,hD⟩:=eX (-d);rw[<- hP] at HQ HFP ⊢;rw[<- hD] at HQ HFD HP0 ⊢;clear hP hD;refine(rgcd_walk P D _ HFP.out HFD.out).mono ?_;rintro e w2 ⟨rfl,hb⟩;replace HB:=bT HB hb;clear hb;have HG:Hid (((Nat.gcd P.natAbs D.natAbs:Nat):Int)≠0 /\ FewM ((Nat.gcd P.natAbs D.natAbs:Nat):Int)):=lH ⟨by have:=gcd_pos' P D HP0.out;omega,fewM_le HFD.out (gcd_le' P D HP0.out)⟩;have HN:=lH (red_num P D HP0.out);have HD:=lH (red_den P D HP0.out);obtain⟨G,hG⟩:=eX (((Nat.gcd P.natAbs D.natAbs:Nat):Int));rw[<- hG] at HG HN HD ⊢;clear hG;go_wp2_with fail
  refine(rdivmod_walk P G _ HFP.out HG.out.2 HG.out.1).mono ?_;rintro e w3 ⟨rfl,hb⟩;replace HB:=bT HB hb;clear hb;rw[HN.out];go_wp2_with fail
  refine(rdivmod_walk D G _ HFD.out HG.out.2 HG.out.1).mono ?_;rintro e w4 ⟨rfl,hb⟩;replace HB:=bT HB hb;clear hb;rw[HD.out];rw[HQ.out];by_cases hden:q.den=1
  ·obtain⟨T,hT⟩:=eX (txt (q.den:Int));rw[<- hT];have h1t:T.toList= [49]:=by rw[hT,hden,ByteArray.toList_eq,txt_list];exact itoa_one
   have h1b:(T.toList== [49])=true:=by rw[h1t];rfl
   have HDE:=lH hden;clear hT hden;go_wp2_with fail
   rw[<- qtxt_whole HDE.out];go_returns;exact⟨rfl,HB.out⟩
  ·obtain⟨T,hT⟩:=eX (txt (q.den:Int));rw[<- hT];have h1t:T.toList≠ [49]:=by rw[hT];exact txt_ne1 hden
   have h1b:(T.toList== [49])=false:=by rw[beq_eq_false_iff_ne];exact h1t
   obtain⟨N,hN⟩:=eX (txt q.num);rw[<- hN];have hs1:N.size <= 1000002:=by rw[hN];have:=txt_len HRL.out.1;have:=HK.out;omega
   have hs2:T.size <= 1000002:=by rw[hT];have:=txt_len (a:=(q.den:Int)) (by rw[Int.natAbs_natCast];exact HRL.out.2);have:=HK.out;omega
   have HE:Hid (N++ ⟨#[47]⟩++T=qtxt q):=lH (by rw[hN,hT];exact qtxt_frac hden);have hs3:(N++ ⟨#[47]⟩).size <= 1000003:=by rw[ByteArray.size_append];show N.size+1 <= _;omega
   clear hT hN hden;go_wp2_with fail
   rw[HE.out];go_returns;exact⟨rfl,HB.out⟩
 ·have hsg:0 <= sgI d:=by have:= @sgI_neg d;omega
  have hsd:decide (sgI d<0)=false:=decide_eq_false (by omega);have HP0:Hid (0<d):=lH (by omega);have HQ:Hid (Rat.divInt p d=q):=lH hq.symm;have HFP:=HFp;have HFD:=HFd;clear hn hd hq;go_wp2_with fail
  clear hsg hsd;refine(rgcd_walk p d _ HFP.out HFD.out).mono ?_;rintro e w2 ⟨rfl,hb⟩;replace HB:=bT HB hb;clear hb;have HG:Hid (((Nat.gcd p.natAbs d.natAbs:Nat):Int)≠0 /\ FewM ((Nat.gcd p.natAbs d.natAbs:Nat):Int)):=lH ⟨by have:=gcd_pos' p d HP0.out;omega,fewM_le HFD.out (gcd_le' p d HP0.out)⟩;have HN:=lH (red_num p d HP0.out);have HD:=lH (red_den p d HP0.out);obtain⟨G,hG⟩:=eX (((Nat.gcd p.natAbs d.natAbs:Nat):Int));rw[<- hG] at HG HN HD ⊢;clear hG;go_wp2_with fail
  refine(rdivmod_walk p G _ HFP.out HG.out.2 HG.out.1).mono ?_;rintro e w3 ⟨rfl,hb⟩;replace HB:=bT HB hb;clear hb;rw[HN.out];go_wp2_with fail
  refine(rdivmod_walk d G _ HFD.out HG.out.2 HG.out.1).mono ?_;rintro e w4 ⟨rfl,hb⟩;replace HB:=bT HB hb;clear hb;rw[HD.out];rw[HQ.out];by_cases hden:q.den=1
  ·obtain⟨T,hT⟩:=eX (txt (q.den:Int));rw[<- hT];have h1t:T.toList= [49]:=by rw[hT,hden,ByteArray.toList_eq,txt_list];exact itoa_one
   have h1b:(T.toList== [49])=true:=by rw[h1t];rfl
   have HDE:=lH hden;clear hT hden;go_wp2_with fail
   rw[<- qtxt_whole HDE.out];go_returns;exact⟨rfl,HB.out⟩
  ·obtain⟨T,hT⟩:=eX (txt (q.den:Int));rw[<- hT];have h1t:T.toList≠ [49]:=by rw[hT];exact txt_ne1 hden
   have h1b:(T.toList== [49])=false:=by rw[beq_eq_false_iff_ne];exact h1t
   obtain⟨N,hN⟩:=eX (txt q.num);rw[<- hN];have hs1:N.size <= 1000002:=by rw[hN];have:=txt_len HRL.out.1;have:=HK.out;omega
   have hs2:T.size <= 1000002:=by rw[hT];have:=txt_len (a:=(q.den:Int)) (by rw[Int.natAbs_natCast];exact HRL.out.2);have:=HK.out;omega
   have HE:Hid (N++ ⟨#[47]⟩++T=qtxt q):=lH (by rw[hN,hT];exact qtxt_frac hden);have hs3:(N++ ⟨#[47]⟩).size <= 1000003:=by rw[ByteArray.size_append];show N.size+1 <= _;omega
   clear hT hN hden;go_wp2_with fail
   rw[HE.out];go_returns;exact⟨rfl,HB.out⟩
theorem cmpI_cross(a b:Rat):cmpI (a.num* (b.den:Int)) (b.num* (a.den:Int))=cmpQ a b:=cmpQ_cross a b
set_option maxRecDepth 100000 in
set_option maxHeartbeats 1600000 in
theorem tmul_walk(a b:Rat)(k:Nat)(w:World)(ha:RL k a)(hb:RL k b)(hk:4*k <= 1000000):
  Calls Tryz.prog 33 #[.string (qtxt a), .string (qtxt b)] w fun e w'=>e= .returned (.string (qtxt (a*b))) /\ Below w.heap.size w w':=by
 have HB:Hid (Below w.heap.size w w):=lH (Below.refl _ _);have HA:=lH ha;have HC:=lH hb;have HK:=lH hk;clear ha hb hk;go_enter Tryz.func33,Tryz.ntmps33;go_wp2_with fail
 refine(parts_q a k _ HA.out (by have:=HK.out;omega)).mono ?_;rintro e w9 ⟨rfl,hb⟩;replace HB:=bT HB hb;clear hb;go_wp2_with fail
 refine(parts_q b k _ HC.out (by have:=HK.out;omega)).mono ?_;rintro e w9 ⟨rfl,hb⟩;replace HB:=bT HB hb;clear hb;go_wp2_with fail
 refine(rmul_walk a.num b.num _ (fewm_lim HA.out.limn (by have:=HK.out;omega)) (fewm_lim HC.out.limn (by have:=HK.out;omega))).mono ?_;rintro e w9 ⟨rfl,hb⟩;replace HB:=bT HB hb;clear hb;go_wp2_with fail
 refine(rmul_walk (a.den:Int) (b.den:Int) _ (fewm_lim HA.out.limd (by have:=HK.out;omega)) (fewm_lim HC.out.limd (by have:=HK.out;omega))).mono ?_;rintro e w9 ⟨rfl,hb⟩;replace HB:=bT HB hb;clear hb;go_wp2_with fail
 refine(ttext_walk _ _ (a*b) (k+k) _ (qmul a b).symm (by have:=a.den_nz;have:=b.den_nz;exact Int.mul_ne_zero (by omega) (by omega)) (Lim.mul HA.out.limn HC.out.limn) (Lim.mul HA.out.limd HC.out.limd) (by have:=HK.out;omega)).mono ?_;rintro e w9 ⟨rfl,hb⟩;replace HB:=bT HB hb;clear hb;go_wp2_with fail
 go_returns;exact⟨rfl,HB.out⟩
set_option maxRecDepth 100000 in
set_option maxHeartbeats 1600000 in
theorem tadd_walk(a b:Rat)(k:Nat)(w:World)(ha:RL k a)(hb:RL k b)(hk:4*k <= 1000000):
  Calls Tryz.prog 114 #[.string (qtxt a), .string (qtxt b)] w fun e w'=>e= .returned (.string (qtxt (a+b))) /\ Below w.heap.size w w':=by
 have HB:Hid (Below w.heap.size w w):=lH (Below.refl _ _);have HA:=lH ha;have HC:=lH hb;have HK:=lH hk;clear ha hb hk;go_enter Tryz.func114,Tryz.ntmps114;go_wp2_with fail
 refine(parts_q a k _ HA.out (by have:=HK.out;omega)).mono ?_;rintro e w9 ⟨rfl,hb⟩;replace HB:=bT HB hb;clear hb;go_wp2_with fail
 refine(parts_q b k _ HC.out (by have:=HK.out;omega)).mono ?_;rintro e w9 ⟨rfl,hb⟩;replace HB:=bT HB hb;clear hb;go_wp2_with fail
 refine(rmul_walk a.num (b.den:Int) _ (fewm_lim HA.out.limn (by have:=HK.out;omega)) (fewm_lim HC.out.limd (by have:=HK.out;omega))).mono ?_;rintro e w9 ⟨rfl,hb⟩;replace HB:=bT HB hb;clear hb;go_wp2_with fail
 refine(rmul_walk b.num (a.den:Int) _ (fewm_lim HC.out.limn (by have:=HK.out;omega)) (fewm_lim HA.out.limd (by have:=HK.out;omega))).mono ?_;rintro e w9 ⟨rfl,hb⟩;replace HB:=bT HB hb;clear hb;go_wp2_with fail
 refine(radd_walk _ _ _ (fewm_lim (Lim.mul HA.out.limn HC.out.limd) (by have:=HK.out;omega)).few (fewm_lim (Lim.mul HC.out.limn HA.out.limd) (by have:=HK.out;omega)).few).mono ?_;rintro e w9 ⟨rfl,hb⟩;replace HB:=bT HB hb;clear hb;go_wp2_with fail
 refine(rmul_walk (a.den:Int) (b.den:Int) _ (fewm_lim HA.out.limd (by have:=HK.out;omega)) (fewm_lim HC.out.limd (by have:=HK.out;omega))).mono ?_;rintro e w9 ⟨rfl,hb⟩;replace HB:=bT HB hb;clear hb;go_wp2_with fail
 refine(ttext_walk _ _ (a+b) (k+k+1) _ (qadd a b).symm (by have:=a.den_nz;have:=b.den_nz;exact Int.mul_ne_zero (by omega) (by omega)) (Lim.add (Lim.mul HA.out.limn HC.out.limd) (Lim.mul HC.out.limn HA.out.limd)) ((Lim.mul HA.out.limd HC.out.limd).mono (by omega)) (by have:=HK.out;by_cases h:k=0;subst h;decide;omega)).mono ?_;rintro e w9 ⟨rfl,hb⟩;replace HB:=bT HB hb;clear hb;go_wp2_with fail
 go_returns;exact⟨rfl,HB.out⟩
set_option maxRecDepth 100000 in
set_option maxHeartbeats 1600000 in
theorem tcmp_walk(a b:Rat)(k:Nat)(w:World)(ha:RL k a)(hb:RL k b)(hk:4*k <= 1000000):
  Calls Tryz.prog 37 #[.string (qtxt a), .string (qtxt b)] w fun e w'=>e= .returned (.int .i64 (cmpQ a b)) /\ Below w.heap.size w w':=by
 have HB:Hid (Below w.heap.size w w):=lH (Below.refl _ _);have HA:=lH ha;have HC:=lH hb;have HK:=lH hk;clear ha hb hk;go_enter Tryz.func37,Tryz.ntmps37;go_wp2_with fail
 refine(parts_q a k _ HA.out (by have:=HK.out;omega)).mono ?_;rintro e w9 ⟨rfl,hb⟩;replace HB:=bT HB hb;clear hb;go_wp2_with fail
 refine(parts_q b k _ HC.out (by have:=HK.out;omega)).mono ?_;rintro e w9 ⟨rfl,hb⟩;replace HB:=bT HB hb;clear hb;go_wp2_with fail
 refine(rmul_walk a.num (b.den:Int) _ (fewm_lim HA.out.limn (by have:=HK.out;omega)) (fewm_lim HC.out.limd (by have:=HK.out;omega))).mono ?_;rintro e w9 ⟨rfl,hb⟩;replace HB:=bT HB hb;clear hb;go_wp2_with fail
 refine(rmul_walk b.num (a.den:Int) _ (fewm_lim HC.out.limn (by have:=HK.out;omega)) (fewm_lim HA.out.limd (by have:=HK.out;omega))).mono ?_;rintro e w9 ⟨rfl,hb⟩;replace HB:=bT HB hb;clear hb;go_wp2_with fail
 refine(rcompare_walk _ _ _ (fewm_lim (Lim.mul HA.out.limn HC.out.limd) (by have:=HK.out;omega)).few (fewm_lim (Lim.mul HC.out.limn HA.out.limd) (by have:=HK.out;omega)).few).mono ?_;rintro e w9 ⟨rfl,hb⟩;replace HB:=bT HB hb;clear hb;rw[cmpI_cross];go_wp2_with fail
 go_returns;exact⟨rfl,HB.out⟩
end
section
open Go.RowKit
open Lp (RL upd Dict)
def OwnS(w:World)(v:Value)(n:Nat)(s:Nat -> ByteArray):Prop:=OwnL w v 30 n (fun j u=>u= .string (s j))
theorem OwnS.ts{w:World}{v:Value}{n:Nat}{s:Nat -> ByteArray}(h:OwnS w v n s):TS w v n s:=by
 obtain⟨A,c,hv,h1,h2⟩:=OwnL.shape h;subst hv;refine⟨A,c,rfl,h1,h2,?_⟩
 rcases Nat.eq_zero_or_pos n with h0 | h0
 ·exact .inl h0
 ·obtain⟨g,c2,cs,hv,hr,_,hc⟩:=OwnL.done h h0;simp only[Value.slice.injEq,true_and] at hv;refine .inr ⟨g,0,hv.1,fun j hj=> ?_⟩;obtain⟨u,hu,rfl⟩:=hc j hj;rw[Nat.zero_add];exact hr.at_ j hu
theorem OwnS.nil(w:World)(s:Nat -> ByteArray):OwnS w (.slice none 0 0) 0 s:=OwnL.nil _ _ _
set_option maxRecDepth 100000 in
theorem clone_empty(ad:Addr)(c:Nat)(w:World):
  Calls Tryz.prog 29 #[.slice (some ad) 0 c] w fun e w'=>∃v',e= .returned v' /\ OwnS w' v' 0 (fun _=>⟨#[]⟩) /\ (∀g,v'.ownBlock=some g -> w.heap.size <= g) /\ (∃g c',v'= .slice (some ⟨g,0,none⟩) 0 c') /\ Below w.heap.size w w':=by
 obtain⟨iN,hiN,hzN0,hzN1,hzN2⟩:=info_parts infoNc;have q22:∀ (w:World) (a:Option Addr) (n c n' c':Nat),(binOp .eql 22 (.slice a n c) (.slice none n' c')).run Tryz.prog w= .ok (.bool a.isNone) w:=fun w a n c n' c'=>Lib.run_eql_slice_nil w _ _ a n c n' c' Tryz.underlying22
 go_enter Tryz.func29,Tryz.ntmps29
 go_wp2_with (at_builtin;refine wpList_append_own _ rfl _ _ 22 rfl w.heap.size 30 iN _ 1 16 Tryz.underlying22 hiN hzN0 hzN1 hzN2 rfl (by decide) _ _ _ rfl (World.ownsRow_made w #[] 0 (Nat.le_refl _) (Nat.zero_le _) (by simp)) ad 0 c [] rfl ?qc1 ?qc2 ?qc3 ?qc4 ?qc5 ?qc6 ?_)
 case qc1=>rfl
 case qc2=>intro j u hj;simp at hj
 case qc3=>intro u hu;simp at hu
 case qc4=>unfold maxLen;omega
 case qc5=>omega
 case qc6=>simp
 intro v' w1 hown hgrow hnil
 go_wp2
 go_ret
 have ho:w1.ownsRow w.heap.size 30 1 v' 0 []:=by simpa using hown
 have hos:OwnS w1 v' 0 (fun _=>⟨#[]⟩):=⟨_,own_mono ho (Nat.zero_le _),fun j hj=>absurd hj (by omega)⟩;obtain⟨A,c',hv,_,_⟩:=OwnL.shape hos;refine⟨v',rfl,hos,fun g hg=>(ho.lt g hg).1,?_,((Below.refl _ w).alloc (Nat.le_refl _) _).grown hgrow (by simp) (by intro k hk;simp[Value.ownBlock] at hk;omega)⟩
 rcases ho.2 with ⟨rfl,_⟩ | ⟨g,cap,cur,rfl,_⟩
 ·exact absurd rfl hnil
 ·exact⟨g,cap,rfl⟩
theorem clone_walk(v:Value)(n:Nat)(s:Nat -> ByteArray)(w:World)(h:TSA w v n s)(hn:n <= 1000000000):
  Calls Tryz.prog 29 #[v] w fun e w'=>∃v',e= .returned v' /\ OwnS w' v' n s /\ (∀g,v'.ownBlock=some g -> w.heap.size <= g) /\ TSA w' v' n s /\ Below w.heap.size w w':=by
 obtain⟨ht,⟨rfl,rfl⟩ | ⟨g,o,c,rfl⟩ | ⟨rfl,ad,c,rfl⟩⟩:=h
 ·refine(clone_nil 0 0 w).mono ?_;rintro e w' ⟨rfl,rfl⟩;exact⟨_,rfl,OwnS.nil _ _,fun g hg=>by simp[Value.ownBlock] at hg,⟨ht, .inl ⟨rfl,rfl⟩⟩,Below.refl _ _⟩
 ·have hc:∀ (j:Nat) u,((List.range n).map fun j=>Value.string (s j))[j]? =some u -> w.cell? ⟨g,o+j,none⟩=some u:=by
   intro j u hj
   have hj':j<n:=by
    have:=(List.getElem?_eq_some_iff.1 hj).1
    simpa using this
   obtain⟨g',o',hA,hcs⟩:=ht.at_ (by omega);simp only[Option.some.injEq,Addr.mk.injEq,and_true] at hA;obtain⟨rfl,rfl⟩:=hA;rw[hcs j hj'];simp[hj'] at hj;rw[hj]
  refine(clone_some g o n c ((List.range n).map fun j=>Value.string (s j)) w (by simp) hn hc (fun u hu=>by obtain⟨j,_,rfl⟩:=List.mem_map.1 hu;rfl)).mono ?_;rintro e w' ⟨v',rfl,ho,hne,hb⟩;have hos:OwnS w' v' n s:=⟨_,own_mono ho (Nat.zero_le _),fun j hj=>⟨_,by simp[hj],rfl⟩⟩;refine⟨v',rfl,hos,fun g hg=>(ho.lt g hg).1,⟨hos.ts,?_⟩,hb⟩
  rcases ho.2 with ⟨rfl,h0⟩ | ⟨g',cap,cur,rfl,_⟩
  ·exact absurd rfl hne
  ·exact .inr (.inl ⟨g',0,cap,rfl⟩)
 ·refine(clone_empty ad c w).mono ?_;rintro e w' ⟨v',rfl,ho,hlt,⟨g,c',rfl⟩,hb⟩
  have hos:OwnS w' (.slice (some ⟨g,0,none⟩) 0 c') 0 s:=by
   obtain⟨xs,h1,_⟩:=ho;exact⟨xs,h1,fun j hj=>absurd hj (by omega)⟩
  exact⟨_,rfl,hos,hlt,⟨hos.ts, .inr (.inl ⟨g,0,c',rfl⟩)⟩,hb⟩
end
end Go.Proofs.YtdefghfjhgmpfaaGreatDoor
