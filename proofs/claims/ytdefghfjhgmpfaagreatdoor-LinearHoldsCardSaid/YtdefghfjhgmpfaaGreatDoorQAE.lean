/- Parts of this proof: QTxt ReadM Held Held2 Held3 Sq Digits Knuth. -/
import Derived.Test.YtdefghfjhgmpfaaGreatDoorQAD
import Derived.Lib.IndexMore
import Derived.Lib.SlTrimSet
import Derived.Lib.Strings
import Derived.Test.YtdefghfjhgmpfaaGreatDoorQAC
import Derived.Deep.RegionHeld3
import Derived.Test.YtdefghfjhgmpfaaGreatDoorQAB
import Derived.Shelf.Strings.SlTrimAscii
namespace Go.Proofs.YtdefghfjhgmpfaaGreatDoor
section
open Go.Lib
def cutA(l:List UInt8):List UInt8:=l.takeWhile (· !=47)
def cutR(l:List UInt8):List UInt8:=l.dropWhile (· !=47)
def cutB(l:List UInt8):List UInt8:=(cutR l).tail
theorem cut_join(l:List UInt8):cutA l++cutR l=l:=List.takeWhile_append_dropWhile
theorem cutR_shape(l:List UInt8):cutR l= [] \/ ∃m,cutR l=47::m:=by
 unfold cutR
 induction l with
 | nil=>exact .inl rfl
 | cons c l ih=>
  rw[List.dropWhile_cons];split
  ·exact ih
  ·rename_i h;refine .inr ⟨l,?_⟩;have:c=47:=by simpa using h
   rw[this]
theorem cut_some{l:List UInt8}(h:cutR l≠ []):l=cutA l++47::cutB l:=by
 rcases cutR_shape l with h' | ⟨m,h'⟩
 ·exact absurd h' h
 ·conv=>lhs;rw[<- cut_join l]
  unfold cutB;rw[h'];rfl
theorem cut_none{l:List UInt8}(h:cutR l= []):cutA l=l:=by
 have:=cut_join l;rw[h,List.append_nil] at this;exact this
theorem cutA_no(l:List UInt8):∀c ∈ cutA l,c≠47:=by
 intro c hc;have h:=List.all_takeWhile (p:=(· !=47)) (l:=l);have:=List.all_eq_true.1 h c hc
 simpa using this
theorem cut_append{a b:List UInt8}(h:∀c ∈ a,c≠47):cutA (a++47::b)=a /\ cutR (a++47::b)=47::b:=by
 unfold cutA cutR
 induction a with
 | nil=>simp
 | cons c a ih=>
  have hc:=h c (by simp);obtain⟨h1,h2⟩:=ih fun x hx=>h x (by simp[hx])
  have hb:(c !=47)=true:=by simpa using hc
  simp only[List.cons_append,List.takeWhile_cons,List.dropWhile_cons,hb,if_true];exact⟨by rw[h1],h2⟩
theorem cut_free{a:List UInt8}(h:∀c ∈ a,c≠47):cutA a=a /\ cutR a= []:=by
 unfold cutA cutR
 induction a with
 | nil=>simp
 | cons c a ih=>
  have hc:=h c (by simp);obtain⟨h1,h2⟩:=ih fun x hx=>h x (by simp[hx])
  have hb:(c !=47)=true:=by simpa using hc
  simp only[List.takeWhile_cons,List.dropWhile_cons,hb,if_true];exact⟨by rw[h1],h2⟩
def qtxtL(q:Rat):List UInt8:=if q.den=1 then itoa q.num else itoa q.num++47::decDigits q.den
def qtxt(q:Rat):ByteArray:=⟨(qtxtL q).toArray⟩
theorem qtxt_list(q:Rat):(qtxt q).data.toList=qtxtL q:=by simp[qtxt]
theorem qtxt_whole{q:Rat}(h:q.den=1):qtxt q=txt q.num:=by unfold qtxt qtxtL txt;rw[if_pos h]
theorem qtxtL_frac{q:Rat}(h:q.den≠1):qtxtL q=itoa q.num++47::decDigits q.den:=by unfold qtxtL;rw[if_neg h]
theorem no_slash_dec(n:Nat):∀c ∈ decDigits n,c≠47:=by
 intro c hc e;have:=isDg_iff.1 (dec_isDg n c hc);rw[e] at this;simp at this
theorem no_slash_itoa(a:Int):∀c ∈ itoa a,c≠47:=by
 intro c hc;by_cases h:a<0
 ·rw[itoa_neg h] at hc
  rcases List.mem_cons.1 hc with rfl | hc
  ·decide
  ·exact no_slash_dec _ c hc
 ·rw[itoa_nonneg' h] at hc;exact no_slash_dec _ c hc
theorem qcut_whole{q:Rat}(h:q.den=1):cutA (qtxtL q)=itoa q.num /\ cutR (qtxtL q)= []:=by
 unfold qtxtL;rw[if_pos h];exact cut_free (no_slash_itoa _)
theorem qcut_frac{q:Rat}(h:q.den≠1):cutA (qtxtL q)=itoa q.num /\ cutR (qtxtL q)=47::decDigits q.den /\ cutB (qtxtL q)=decDigits q.den:=by
 rw[qtxtL_frac h];obtain⟨h1,h2⟩:=cut_append (b:=decDigits q.den) (no_slash_itoa q.num);exact⟨h1,h2,by unfold cutB;rw[h2];rfl⟩
def rchk(l:List UInt8):Nat:=
 if cutR l= [] then chk l
 else if chk (cutA l)=14 \/ cutB l= [] \/ (cutB l).all isDg=false then 14
 else if(cutB l).all (· ==48)=true then 19
 else if chk (cutA l)=3 \/ (cutB l).head? =some 48 \/ cutB l= [49] \/ Nat.gcd (dv (body (cutA l))) (dv (cutB l))≠1 then 3 else 0
theorem rchk_whole{l:List UInt8}(h:cutR l= []):rchk l=chk l:=by unfold rchk;rw[if_pos h]
theorem body_itoa(a:Int):body (itoa a)=decDigits a.natAbs:=by
 unfold body;by_cases h:a<0
 ·rw[itoa_neg h];rfl
 ·rw[itoa_nonneg' h,if_neg];intro e;have hd:=dec_isDg a.natAbs;cases hl:decDigits a.natAbs with
  | nil=>rw[hl] at e;cases e
  | cons c l=>
   rw[hl] at e hd;have h45:c=45:=by simpa using e
   have:=isDg_iff.1 (hd c (by simp));rw[h45] at this;simp at this
theorem dec_all(n:Nat):(decDigits n).all isDg=true:=List.all_eq_true.2 (dec_isDg n)
theorem dec_ne(n:Nat):decDigits n≠ []:=by intro h;have:=dec_pos n;rw[h] at this;simp at this
theorem dec_head{n:Nat}(h:(decDigits n).head? =some 48):n=0:=by
 induction n using Nat.strongRecOn with
 | _ n ih=>
  by_cases h10:n<10
  ·rw[decDigits_one h10] at h;have h1:UInt8.ofNat (48+n)=48:=by simpa using h
   have h2:(UInt8.ofNat (48+n)).toNat=48:=by rw[h1];rfl
   simp at h2;omega
  ·rw[decDigits,dif_neg h10,List.head?_append,List.head?_eq_some_head (dec_ne _)] at h;have:=ih (n / 10) (by omega) (by rw[List.head?_eq_some_head (dec_ne _)];exact h);omega
theorem dec_zeros{n:Nat}(h:(decDigits n).all (· ==48)=true):n=0:=by
 refine dec_head ?_;cases hl:decDigits n with
 | nil=>exact absurd hl (dec_ne n)
 | cons c l=>
  rw[hl] at h;simp only[List.all_cons,Bool.and_eq_true,beq_iff_eq] at h;rw[h.1];rfl
theorem chk_itoa(a:Int):chk (itoa a)=0:=by
 unfold chk;rw[body_itoa,if_neg (dec_ne _),if_neg (by rw[dec_all];decide),if_neg];rintro⟨h1,h2⟩;have h0:=dec_head h1;have ha:a=0:=by omega
 subst ha;rw[itoa_zero] at h2
 rcases h2 with h2 | h2
 ·simp[decDigits_zero] at h2
 ·simp at h2
theorem rchk_qtxt(q:Rat):rchk (qtxtL q)=0:=by
 by_cases h:q.den=1
 ·rw[rchk_whole (qcut_whole h).2];unfold qtxtL;rw[if_pos h];exact chk_itoa _
 ·obtain⟨h1,h2,h3⟩:=qcut_frac h;unfold rchk;rw[if_neg (by rw[h2];simp),h1,h3,chk_itoa,body_itoa,dv_dec,dv_dec,dec_all];rw[if_neg (by simp[dec_ne]),if_neg (fun e=>q.den_nz (dec_zeros e)),if_neg];rintro(e | e | e | e)
  ·omega
  ·exact q.den_nz (dec_head e)
  ·have:=dv_dec q.den;rw[e] at this;exact h (this.symm.trans rfl)
  ·exact e q.reduced
theorem qtxtL_inj{p q:Rat}(h:qtxtL p=qtxtL q):p=q:=by
 by_cases hp:p.den=1 <;> by_cases hq:q.den=1
 ·have h1:=(qcut_whole hp).1;rw[h,(qcut_whole hq).1] at h1;exact Rat.ext (itoa_inj h1.symm) (hp.trans hq.symm)
 ·have h1:=(qcut_whole hp).2;rw[h,(qcut_frac hq).2.1] at h1;cases h1
 ·have h1:=(qcut_whole hq).2;rw[<- h,(qcut_frac hp).2.1] at h1;cases h1
 ·obtain⟨a1,_,a3⟩:=qcut_frac hp;obtain⟨b1,_,b3⟩:=qcut_frac hq;rw[h,b1] at a1;rw[h,b3] at a3;refine Rat.ext (itoa_inj a1.symm) ?_;rw[<- dv_dec p.den, <- a3,dv_dec]
end
section
theorem idx_slash(l:List UInt8):(cutR l= [] -> Lib.index l [47]= -1) /\ (cutR l≠ [] -> Lib.index l [47]=((cutA l).length:Nat)):=by
 induction l with
 | nil=>exact⟨fun _=>rfl,fun h=>absurd rfl h⟩
 | cons c l ih=>
  by_cases hc:c=47
  ·subst hc;refine⟨fun h=> ?_,fun _=> ?_⟩
   ·simp[cutR] at h
   ·simp[Lib.index,cutA]
  ·have hb:(c !=47)=true:=by simpa using hc
   have h1:cutR (c::l)=cutR l:=by unfold cutR;rw[List.dropWhile_cons,hb];rfl
   have h2:cutA (c::l)=c::cutA l:=by unfold cutA;rw[List.takeWhile_cons,hb];rfl
   have h3:([47]:List UInt8).isPrefixOf (c::l)=false:=by
    simp only[List.isPrefixOf,Bool.and_true,beq_eq_false_iff_ne];exact fun e=>hc e.symm
   rw[h1,h2];unfold Lib.index;rw[h3];refine⟨fun h=> ?_,fun h=> ?_⟩
   ·rw[ih.1 h];rfl
   ·rw[ih.2 h];rw[if_neg (by simp),if_neg (by simp only[beq_iff_eq];omega)];simp
theorem cut_eq(l:List UInt8):Lib.cut l [47]=(cutA l,cutB l,decide (cutR l≠ [])):=by
 unfold Lib.cut;by_cases h:cutR l= []
 ·rw[(idx_slash l).1 h,if_neg (by omega),cut_none h];have:cutB l= []:=by unfold cutB;rw[h];rfl
  rw[this,decide_eq_false (by simpa using h)]
 ·rw[(idx_slash l).2 h,if_pos (by omega),decide_eq_true h]
  have key:∀a b l:List UInt8,l=a++47::b -> l.take a.length=a /\ l.drop (a.length+1)=b:=by
   intro a b l e;subst e;simp
  obtain⟨h1,h2⟩:=key _ _ _ (cut_some h);rw[Int.toNat_natCast,h1];show(cutA l,l.drop ((cutA l).length+1),true)=_;rw[h2]
theorem prefix_minus(l:List UInt8):Lib.trimPrefix l [45]=body l:=by
 unfold Lib.trimPrefix Lib.hasPrefix body;cases l with
 | nil=>rfl
 | cons c l=>
  by_cases h:c=45
  ·subst h;simp
  ·rw[if_neg (by simp[List.isPrefixOf];exact fun e=>h e.symm),if_neg (by simpa using h)]
theorem dropWhile_all{α:Type}{p:α -> Bool}{l:List α}(h:∀c ∈ l.dropWhile p,p c=true):∀c ∈ l,p c=true:=by
 induction l with
 | nil=>intro c hc;cases hc
 | cons a l ih=>
  by_cases ha:p a=true
  ·rw[List.dropWhile_cons,if_pos ha] at h;intro c hc
   rcases List.mem_cons.1 hc with rfl | hc
   ·exact ha
   ·exact ih h c hc
  ·rw[List.dropWhile_cons,if_neg ha] at h;exact absurd (h a (by simp)) ha
theorem dropWhile_none{α:Type}{p:α -> Bool}{l:List α}(h:∀c ∈ l,p c=true):l.dropWhile p= []:=by
 induction l with
 | nil=>rfl
 | cons a l ih=>rw[List.dropWhile_cons,if_pos (h a (by simp))];exact ih fun c hc=>h c (by simp[hc])
theorem trimS_nil(l cs:List UInt8):Lib.trimS l cs= []↔∀c ∈ l,cs.contains c=true:=by
 unfold Lib.trimS Lib.trimLeftS Lib.trimRightS;constructor
 ·intro h;have h1:∀c ∈ (l.reverse.dropWhile (cs.contains ·)).reverse,cs.contains c=true:=dropWhile_all (fun c hc=>by rw[h] at hc;cases hc)
  have h2:=dropWhile_all (p:=(cs.contains ·)) (l:=l.reverse) (fun c hc=>h1 c (List.mem_reverse.2 hc));exact fun c hc=>h2 c (List.mem_reverse.2 hc)
 ·intro h;rw[dropWhile_none (l:=l.reverse) (fun c hc=>h c (List.mem_reverse.1 hc))];rfl
def tenDigits:List UInt8:=[48,49,50,51,52,53,54,55,56,57]
theorem ten_iff(c:UInt8):tenDigits.contains c=isDg c:=by
 rw[Bool.eq_iff_iff,isDg_iff,List.contains_iff_mem];unfold tenDigits;simp only[List.mem_cons,List.not_mem_nil,or_false];constructor
 ·rintro(rfl | rfl | rfl | rfl | rfl | rfl | rfl | rfl | rfl | rfl) <;> decide
 ·intro h;have h2:c.toNat=48 \/ c.toNat=49 \/ c.toNat=50 \/ c.toNat=51 \/ c.toNat=52 \/ c.toNat=53 \/ c.toNat=54 \/ c.toNat=55 \/ c.toNat=56 \/ c.toNat=57:=by omega
  have e:∀d:UInt8,c.toNat=d.toNat -> c=d:=fun d h=>UInt8.toNat_inj.1 h
  rcases h2 with h | h | h | h | h | h | h | h | h | h
  ·exact .inl (e 48 h)
  ·exact .inr (.inl (e 49 h))
  ·exact .inr (.inr (.inl (e 50 h)))
  ·exact .inr (.inr (.inr (.inl (e 51 h))))
  ·exact .inr (.inr (.inr (.inr (.inl (e 52 h)))))
  ·exact .inr (.inr (.inr (.inr (.inr (.inl (e 53 h))))))
  ·exact .inr (.inr (.inr (.inr (.inr (.inr (.inl (e 54 h)))))))
  ·exact .inr (.inr (.inr (.inr (.inr (.inr (.inr (.inl (e 55 h))))))))
  ·exact .inr (.inr (.inr (.inr (.inr (.inr (.inr (.inr (.inl (e 56 h)))))))))
  ·exact .inr (.inr (.inr (.inr (.inr (.inr (.inr (.inr (.inr (e 57 h)))))))))
theorem trim_digits(l:List UInt8):Lib.trimS l tenDigits= []↔l.all isDg=true:=by
 rw[trimS_nil,List.all_eq_true];exact⟨fun h c hc=>by rw[<- ten_iff];exact h c hc,fun h c hc=>by rw[ten_iff];exact h c hc⟩
theorem trim_zeros(l:List UInt8):Lib.trimS l [48]= []↔l.all (· ==48)=true:=by
 rw[trimS_nil,List.all_eq_true];refine⟨fun h c hc=> ?_,fun h c hc=> ?_⟩
 ·have:=h c hc;simpa using this
 ·have:=h c hc;simpa using this
def dgs(l:List UInt8):Bool:=decide (l≠ []) && l.all isDg
theorem chk_form{l:List UInt8}(h:dgs (body l)=false):chk l=14:=by
 unfold dgs at h;unfold chk;by_cases h1:body l= []
 ·rw[if_pos h1]
 ·rw[if_neg h1];rw[decide_eq_true h1,Bool.true_and] at h;rw[if_pos h]
theorem chk_dgs{l:List UInt8}(h:dgs (body l)=true):chk l=0 \/ chk l=3:=by
 unfold dgs at h;rw[Bool.and_eq_true,decide_eq_true_iff] at h;unfold chk;rw[if_neg h.1,if_neg (by rw[h.2];simp)];split <;> simp
theorem chk_dgs_ne{l:List UInt8}(h:dgs (body l)=true):chk l≠14:=by rcases chk_dgs h with h | h <;> omega
theorem rchk_syntax{l:List UInt8}(h:dgs (body (cutA l))=false \/ (cutR l≠ [] /\ dgs (cutB l)=false)):rchk l=14:=by
 unfold rchk;by_cases hc:cutR l= []
 ·rw[if_pos hc]
  rcases h with h | h
  ·rw[cut_none hc] at h;exact chk_form h
  ·exact absurd hc h.1
 ·rw[if_neg hc,if_pos]
  rcases h with h | h
  ·exact .inl (chk_form h)
  ·have h:=h.2;unfold dgs at h;by_cases h1:cutB l= []
   ·exact .inr (.inl h1)
   ·rw[decide_eq_true h1,Bool.true_and] at h;exact .inr (.inr h)
theorem dgs_not{l:List UInt8}(h:dgs l=true):¬(l= [] \/ l.all isDg=false):=by
 unfold dgs at h;rw[Bool.and_eq_true,decide_eq_true_iff] at h;rintro(e | e)
 ·exact h.1 e
 ·rw[h.2] at e;cases e
theorem rchk_zero{l:List UInt8}(h:dgs (body (cutA l))=true)(hc:cutR l≠ [])(hb:dgs (cutB l)=true)(hz:(cutB l).all (· ==48)=true):rchk l=19:=by
 unfold rchk;rw[if_neg hc,if_neg (fun e=>e.elim (chk_dgs_ne h) (dgs_not hb)),if_pos hz]
theorem rchk_num{l:List UInt8}(hc:cutR l= []):rchk l=chk (cutA l):=by rw[rchk_whole hc,cut_none hc]
theorem rchk_top{l:List UInt8}(h:dgs (body (cutA l))=true)(hc:cutR l≠ [])(hb:dgs (cutB l)=true)(hz:(cutB l).all (· ==48)=false)(h3:chk (cutA l)≠0):rchk l=3:=by
 unfold rchk;rw[if_neg hc,if_neg (fun e=>e.elim (chk_dgs_ne h) (dgs_not hb)),if_neg (by rw[hz];simp),if_pos]
 rcases chk_dgs h with h' | h'
 ·exact absurd h' h3
 ·exact .inl h'
theorem body_dgs{l:List UInt8}(h:dgs l=true):body l=l /\ l.head? ≠some 45:=by
 unfold dgs at h;rw[Bool.and_eq_true] at h;have hd:=List.all_eq_true.1 h.2
 have h45: l.head? ≠some 45:=by
  intro e;cases l with
  | nil=>cases e
  | cons c l=>
   have h45:c=45:=by simpa using e
   have:=isDg_iff.1 (hd c (by simp));rw[h45] at this;simp at this
 exact⟨by unfold body;rw[if_neg h45],h45⟩
theorem chk_bottom{l:List UInt8}(h:dgs l=true)(hz:l.all (· ==48)=false):chk l=0↔ l.head? ≠some 48:=by
 obtain⟨h1,h2⟩:=body_dgs h;unfold dgs at h;rw[Bool.and_eq_true,decide_eq_true_iff] at h;unfold chk;rw[h1,if_neg h.1,if_neg (by rw[h.2];simp)];by_cases e: l.head? =some 48
 ·have hlen:1<l.length:=by
   cases l with
   | nil=>cases e
   | cons c l=>
    cases l with
    | nil=>
     have:c=48:=by simpa using e
     subst this;simp at hz
    | cons d l=>simp
  rw[if_pos ⟨e, .inl hlen⟩];simp[e]
 ·rw[if_neg (fun h=>e h.1)];simp[e]
theorem dv_one{l:List UInt8}(h:dgs l=true)(h0: l.head? ≠some 48):dv l=1↔l= [49]:=by
 unfold dgs at h;rw[Bool.and_eq_true,decide_eq_true_iff] at h;have hb:=dec_dv l h.1 (List.all_eq_true.1 h.2) (fun e=>absurd e h0);constructor
 ·intro e;rw[e] at hb;rw[<- hb];simp[Lib.decDigits]
 ·intro e;rw[e];rfl
theorem rchk_last{l:List UInt8}(h:dgs (body (cutA l))=true)(hc:cutR l≠ [])(hb:dgs (cutB l)=true)(hz:(cutB l).all (· ==48)=false)(h0:chk (cutA l)=0):
  rchk l=if chk (cutB l)≠0 \/ dv (cutB l)=1 \/ Nat.gcd (dv (body (cutA l))) (dv (cutB l))≠1 then 3 else 0:=by
 unfold rchk;rw[if_neg hc,if_neg (fun e=>e.elim (chk_dgs_ne h) (dgs_not hb)),if_neg (by rw[hz];simp)];by_cases e:(cutB l).head? =some 48
 ·rw[if_pos (.inr (.inl e)),if_pos (.inl (fun e'=>(chk_bottom hb hz).1 e' e))]
 ·have e0:=(chk_bottom hb hz).2 e;have e1:=dv_one hb e;congr 1;rw[e0,e1,h0];simp[e]
end
section
open Go.RowKit
section
variable {P:Program} {ops:Array Oper} {Q:Exit -> Act -> World -> Prop} {md:Region.Mode} {S:World -> Prop} {late:Nat -> Bool}
def rwaits(md:Region.Mode)(ops:Array Oper)(j i:Nat):Bool:=
 match ops[j]? with
 | some o=>o.after.any fun e=>Region.binds md e && e.on==i
 | none=>false
def rearly(md:Region.Mode)(ops:Array Oper)(late:Nat -> Bool)(listed:Array Bool)(i:Nat):Bool:=
 !late i && (List.range ops.size).all fun j=> !late j || listed.getD j true || rwaits md ops j i || (List.range ops.size).any fun k=> !listed.getD k true && rwaits md ops k i && rwaits md ops j k
theorem rwaits_ready{listed:Array Bool}{i j:Nat}(hj:j ∈ Region.ready md ops listed)(hw:rwaits md ops j i=true)(hi:listed.getD i true=false):False:=by
 obtain⟨_,o,ho,hall⟩:=mem_ready.1 hj;unfold rwaits at hw;rw[ho] at hw;simp only[Array.any_eq_true,Bool.and_eq_true,beq_iff_eq] at hw;obtain⟨n,hn,hb,he⟩:=hw;have h1:=hall _ (Array.getElem_mem hn) hb;rw[he] at h1
 rcases Nat.lt_or_ge i listed.size with h' | h'
 ·simp[h'] at hi h1;rw[hi] at h1;cases h1
 ·simp[Array.getElem?_eq_none h'] at h1
def wpAnyE(P:Program)(md:Region.Mode)(ops:Array Oper)(Q:Exit -> Act -> World -> Prop)(S:World -> Prop)(late:Nat -> Bool):Nat -> Array Bool -> Act -> World -> Prop
 | 0,listed,a,w=>Region.ready md ops listed= [] /\ Q .normal a w
 | fuel+1,listed,a,w=>
  (Region.ready md ops listed= [] -> Q .normal a w) /\
  ∀i ∈ Region.ready md ops listed,wpOp P ops Q i (fun a' w'=>(late i=false -> S w') /\ wpAnyE P md ops Q S late fuel (listed.setIfInBounds i true) a' w') a w
theorem wpAny_of_late:∀ (fuel:Nat) (listed:Array Bool) (a:Act) (w:World),wpAnyE P md ops Q S late fuel listed a w -> wpAny P md ops Q fuel listed a w
 | 0,_,_,_,h=>h
 | fuel+1,_,_,_,h=>⟨h.1,fun i hi=>wpOp_mono (fun a' w' h'=>wpAny_of_late fuel _ a' w' h'.2) (h.2 i hi)⟩
theorem wpAnyE_first{i:Nat}{oi:Oper}{v:Value}(hi:ops[i]? =some oi)(hsel:∀ (j:Nat) (o:Oper) cs b,ops[j]? =some o -> o.op≠ .select cs b)
  (hQ:∀c a w,Q (.panic c) (a.put oi.dst v) w -> Q (.panic c) a w) (hli:late i=false):
  ∀ (fuel:Nat) (listed:Array Bool) (a:Act) (w:World),
   (∀j oj,ops[j]? =some oj -> j≠i -> listed.getD j true=false -> (∀e ∈ oj.after,Region.binds md e=true -> e.on≠i) -> oi.apart ops oj=true) ->
   (∀j,j<ops.size -> late j=true -> listed.getD j true=false -> rwaits md ops j i=true \/ ∃k,listed.getD k true=false /\ rwaits md ops k i=true /\ rwaits md ops j k=true) ->
   i ∈ Region.ready md ops listed -> YieldsIf P ops S oi v a -> S w ->
   wpAnyE P md ops Q S late fuel (listed.setIfInBounds i true) (a.put oi.dst v) w -> wpAnyE P md ops Q S late (fuel+1) listed a w:=by
 intro fuel
 induction fuel with
 | zero=>
  intro listed a w _ _ hr hy hS H;refine⟨fun h=>(by rw[h] at hr;cases hr),fun j hj=> ?_⟩;by_cases hji:j=i
  ·subst hji;exact hy.wpOp hi hS ⟨fun _=>hS,H⟩
  ·have:=ready_mono hj hji;rw[H.1] at this;cases this
 | succ fuel ih=>
  intro listed a w hfree hlate hr hy hS H;have hun:=(mem_ready.1 hr).1;refine⟨fun h=>(by rw[h] at hr;cases hr),fun j hj=> ?_⟩;by_cases hji:j=i
  ·subst hji;exact hy.wpOp hi hS ⟨fun _=>hS,H⟩
  ·have h1:=H.2 j (ready_mono hj hji);obtain⟨hjun,oj,hoj,hall⟩:=mem_ready.1 hj
   have hjl:late j=false:=by
    rcases hb:late j with _ | _
    ·rfl
    ·rcases hlate j (Array.getElem?_eq_some_iff.1 hoj).1 hb hjun with h | ⟨k,hk,_,h⟩
     ·exact(rwaits_ready hj h hun).elim
     ·exact(rwaits_ready hj h hk).elim
   have hnot:∀e ∈ oj.after,Region.binds md e=true -> e.on≠i:=fun e he hb heq=>by
    have h1:=hall e he hb;have h0:=(mem_ready.1 hr).1;rw[heq] at h1
    rcases Nat.lt_or_ge i listed.size with h' | h'
    ·simp[h'] at h0 h1;rw[h0] at h1;cases h1
    ·simp[Array.getElem?_eq_none h'] at h1
   have h2:=wpOp_putIf hoj (hfree j oj hoj hji hjun hnot) (fun cs b=>hsel i oi cs b hi) (fun cs b=>hsel j oj cs b hoj) hQ hy h1
   have hback:∀k,(listed.setIfInBounds j true).getD k true=false -> listed.getD k true=false:=fun k hk=>by
    by_cases hjk:j=k
    ·subst hjk;exact hjun
    ·rw[getD_set_ne true hjk] at hk;exact hk
   have hfree':∀k ok,ops[k]? =some ok -> k≠i -> (listed.setIfInBounds j true).getD k true=false ->
     (∀e ∈ ok.after,Region.binds md e=true -> e.on≠i) -> oi.apart ops ok=true:=fun k ok hk hki hun hno=>
    hfree k ok hk hki (hback k hun) hno
   have hlate':∀m,m<ops.size -> late m=true -> (listed.setIfInBounds j true).getD m true=false -> rwaits md ops m i=true \/ ∃k,(listed.setIfInBounds j true).getD k true=false /\ rwaits md ops k i=true /\ rwaits md ops m k=true:=fun m hms hm hmun=>by
    rcases hlate m hms hm (hback m hmun) with h | ⟨k,hk,h3,h4⟩
    ·exact .inl h
    ·refine .inr ⟨k,?_,h3,h4⟩;have hjk:j≠k:=fun e=>by subst e;exact rwaits_ready hj h3 hun
     rw[getD_set_ne true hjk];exact hk
   refine wpOp_mono (fun a' w' h3=>⟨h3.2.1,ih (listed.setIfInBounds j true) a' w' hfree' hlate' (ready_mono hr (Ne.symm hji)) h3.1 (h3.2.1 hjl) ?_⟩) h2;rw[Array.setIfInBounds_comm _ _ hji];exact h3.2.2
theorem wpAnyE_take{i:Nat}{oi:Oper}{v:Value}{fuel:Nat}{listed:Array Bool}{a:Act}{w:World}(hi:ops[i]? =some oi)
  (hs:Region.noSelect ops=true) (hf:Region.free md ops listed i=true) (hr:(Region.ready md ops listed).contains i=true) (he:rearly md ops late listed i=true)
  (hQ:∀c a w,Q (.panic c) (a.put oi.dst v) w -> Q (.panic c) a w) (hy:YieldsIf P ops S oi v a) (hS:S w)
  (h:wpAnyE P md ops Q S late fuel (listed.setIfInBounds i true) (a.put oi.dst v) w):wpAnyE P md ops Q S late (fuel+1) listed a w:=by
 unfold rearly at he;simp only[Bool.and_eq_true,Bool.not_eq_true',List.all_eq_true,List.mem_range,Bool.or_eq_true,List.any_eq_true] at he;obtain⟨he1,he2⟩:=he;refine wpAnyE_first hi (Region.noSelect_spec hs) hQ he1 fuel listed a w (Region.free_spec hi hf) (fun j hlt hj hun=> ?_) (by simpa using hr) hy hS h
 ·rcases he2 j hlt with ((h1 | h1) | h1) | ⟨k,_,⟨h1,h2⟩,h3⟩
  ·rw[hj] at h1;cases h1
  ·rw[hun] at h1;cases h1
  ·exact .inl h1
  ·exact .inr ⟨k,by simpa using h1,h2,h3⟩
theorem wpAnyE_taked{i:Nat}{oi:Oper}{v:Value}{fuel:Nat}{listed:Array Bool}{a:Act}{w:World}(d:Option Nat)(hi:ops[i]? =some oi)(hd:oi.dst=d)
  (hs:Region.noSelect ops=true) (hf:Region.free md ops listed i=true) (hr:(Region.ready md ops listed).contains i=true) (he:rearly md ops late listed i=true)
  (hQ:∀c a w,Q (.panic c) (a.put oi.dst v) w -> Q (.panic c) a w) (hy:YieldsIf P ops S oi v a) (hS:S w)
  (h:wpAnyE P md ops Q S late fuel (listed.setIfInBounds i true) (a.put d v) w):wpAnyE P md ops Q S late (fuel+1) listed a w:=
 wpAnyE_take hi hs hf hr he hQ hy hS (hd ▸ h)
def AllReadyE(P:Program)(md:Region.Mode)(ops:Array Oper)(Q:Exit -> Act -> World -> Prop)(S:World -> Prop)(late:Nat -> Bool)(fuel:Nat)(listed:Array Bool)(a:Act)(w:World)(rs:List Nat):Prop:=
 ∀i ∈ rs,wpOp P ops Q i (fun a' w'=>(late i=false -> S w') /\ wpAnyE P md ops Q S late fuel (listed.setIfInBounds i true) a' w') a w
theorem AllReadyE.nil{fuel:Nat}{listed:Array Bool}{a:Act}{w:World}:AllReadyE P md ops Q S late fuel listed a w []:=fun _ h=>by cases h
theorem AllReadyE.cons{fuel:Nat}{listed:Array Bool}{a:Act}{w:World}{i:Nat}{o:Oper}{rs:List Nat}(ho:ops[i]? =some o)
  (h:∀K':Act -> World -> Prop,Shut (∀a w,(late i=false -> S w) -> wpAnyE P md ops Q S late fuel (listed.setIfInBounds i true) a w -> K' a w) -> if Region.wanted o (yielded ops a.tmps)=true then Oper.wp P o a w K' Q else K' (a.put o.dst undef) w)
  (hs:AllReadyE P md ops Q S late fuel listed a w rs):AllReadyE P md ops Q S late fuel listed a w (i::rs):=fun j hj=>by
 rcases List.mem_cons.1 hj with rfl | hj
 ·exact wpOp_step ho (fun K' hK=>h K' (fun a w hS hW=>hK a w ⟨hS,hW⟩))
 ·exact hs j hj
theorem wpAnyE_ready{rs:List Nat}{fuel:Nat}{listed:Array Bool}{a:Act}{w:World}(hr:Region.ready md ops listed=rs)(hne:rs≠ [])
  (h:AllReadyE P md ops Q S late fuel listed a w rs):wpAnyE P md ops Q S late (fuel+1) listed a w:=⟨fun h0=>absurd (hr ▸ h0) hne,hr ▸ h⟩
theorem wpAnyE_done{listed:Array Bool}{a:Act}{w:World}(hr:Region.ready md ops listed= [])(h:Q .normal a w):
  ∀fuel,wpAnyE P md ops Q S late fuel listed a w
 | 0=>⟨hr,h⟩
 | _+1=>⟨fun _=>h,by rw[hr];simp⟩
theorem wp_region_late{id:Nat}{a:Act}{w:World}(S:World -> Prop)(late:Nat -> Bool)(hm:P.follows .mixedOrders=true)
  (h:wpAnyE P .any ops Q S late ops.size (Array.replicate ops.size false) a w.drew):(Code.region id ops true).wp P Q a w:=
 wp_region_any hm (wpAny_of_late _ _ _ _ h)
end
end
section
open Go.RowKit
section
variable {P:Program} {ops:Array Oper} {Q:Exit -> Act -> World -> Prop} {md:Region.Mode} {S:World -> Prop} {late:Nat -> Bool}
theorem wpAnyE_firstW{i:Nat}{oi:Oper}{v:Value}(hi:ops[i]? =some oi)(hsel:∀ (j:Nat) (o:Oper) cs b,ops[j]? =some o -> o.op≠ .select cs b)
  (hQ:∀c a w,Q (.panic c) (a.put oi.dst v) w -> Q (.panic c) a w) (hli:late i=true):
  ∀ (fuel:Nat) (listed:Array Bool) (a:Act) (w:World),
   (∀j oj,ops[j]? =some oj -> j≠i -> listed.getD j true=false -> (∀e ∈ oj.after,Region.binds md e=true -> e.on≠i) -> oi.apart ops oj=true) ->
   i ∈ Region.ready md ops listed -> YieldsIf P ops (fun _=>True) oi v a ->
   wpAnyE P md ops Q S late fuel (listed.setIfInBounds i true) (a.put oi.dst v) w -> wpAnyE P md ops Q S late (fuel+1) listed a w:=by
 intro fuel;have hlt:¬late i=false:=by rw[hli];decide
 induction fuel with
 | zero=>
  intro listed a w _ hr hy H;refine⟨fun h=>(by rw[h] at hr;cases hr),fun j hj=> ?_⟩;by_cases hji:j=i
  ·subst hji;exact hy.wpOp hi trivial ⟨fun h=>absurd h hlt,H⟩
  ·have:=ready_mono hj hji;rw[H.1] at this;cases this
 | succ fuel ih=>
  intro listed a w hfree hr hy H;have hun:=(mem_ready.1 hr).1;refine⟨fun h=>(by rw[h] at hr;cases hr),fun j hj=> ?_⟩;by_cases hji:j=i
  ·subst hji;exact hy.wpOp hi trivial ⟨fun h=>absurd h hlt,H⟩
  ·have h1:=H.2 j (ready_mono hj hji);obtain⟨hjun,oj,hoj,hall⟩:=mem_ready.1 hj
   have hnot:∀e ∈ oj.after,Region.binds md e=true -> e.on≠i:=fun e he hb heq=>by
    have h1:=hall e he hb;have h0:=(mem_ready.1 hr).1;rw[heq] at h1
    rcases Nat.lt_or_ge i listed.size with h' | h'
    ·simp[h'] at h0 h1;rw[h0] at h1;cases h1
    ·simp[Array.getElem?_eq_none h'] at h1
   have h2:=wpOp_putIf hoj (hfree j oj hoj hji hjun hnot) (fun cs b=>hsel i oi cs b hi) (fun cs b=>hsel j oj cs b hoj) hQ hy h1
   have hback:∀k,(listed.setIfInBounds j true).getD k true=false -> listed.getD k true=false:=fun k hk=>by
    by_cases hjk:j=k
    ·subst hjk;exact hjun
    ·rw[getD_set_ne true hjk] at hk;exact hk
   have hfree':∀k ok,ops[k]? =some ok -> k≠i -> (listed.setIfInBounds j true).getD k true=false ->
     (∀e ∈ ok.after,Region.binds md e=true -> e.on≠i) -> oi.apart ops ok=true:=fun k ok hk hki hun hno=>
    hfree k ok hk hki (hback k hun) hno
   refine wpOp_mono (fun a' w' h3=>⟨h3.2.1,ih (listed.setIfInBounds j true) a' w' hfree' (ready_mono hr (Ne.symm hji)) h3.1 ?_⟩) h2;rw[Array.setIfInBounds_comm _ _ hji];exact h3.2.2
theorem wpAnyE_takeW{i:Nat}{oi:Oper}{v:Value}{fuel:Nat}{listed:Array Bool}{a:Act}{w:World}(d:Option Nat)(hi:ops[i]? =some oi)(hd:oi.dst=d)
  (hs:Region.noSelect ops=true) (hf:Region.free md ops listed i=true) (hr:(Region.ready md ops listed).contains i=true) (hl:late i=true)
  (hQ:∀c a w,Q (.panic c) (a.put oi.dst v) w -> Q (.panic c) a w) (hy:YieldsIf P ops (fun _=>True) oi v a)
  (h:wpAnyE P md ops Q S late fuel (listed.setIfInBounds i true) (a.put d v) w):wpAnyE P md ops Q S late (fuel+1) listed a w:=
 wpAnyE_firstW hi (Region.noSelect_spec hs) hQ hl fuel listed a w (Region.free_spec hi hf) (by simpa using hr) hy (hd ▸ h)
end
end
section
open Go.RowKit
section
variable {P:Program} {ops:Array Oper} {Q:Exit -> Act -> World -> Prop} {md:Region.Mode} {S:World -> Prop} {late:Nat -> Bool}
def rearlyB(md:Region.Mode)(ops:Array Oper)(late:Nat -> Bool)(listed:Array Bool)(i:Nat)(B:List Nat):Bool:=
 !late i && B.contains i && B.all (fun b=> !listed.getD b true && (b==i || B.any fun k=>rwaits md ops b k)) && (List.range ops.size).all fun j=> !late j || listed.getD j true || B.any fun k=>rwaits md ops j k
theorem wpAnyE_firstB{i:Nat}{oi:Oper}{v:Value}(B:List Nat)(hi:ops[i]? =some oi)(hsel:∀ (j:Nat) (o:Oper) cs b,ops[j]? =some o -> o.op≠ .select cs b)
  (hQ:∀c a w,Q (.panic c) (a.put oi.dst v) w -> Q (.panic c) a w) (hli:late i=false) (hBi:∀b ∈ B,b≠i -> ∃k ∈ B,rwaits md ops b k=true):
  ∀ (fuel:Nat) (listed:Array Bool) (a:Act) (w:World),
   (∀j oj,ops[j]? =some oj -> j≠i -> listed.getD j true=false -> (∀e ∈ oj.after,Region.binds md e=true -> e.on≠i) -> oi.apart ops oj=true) ->
   (∀b ∈ B,listed.getD b true=false) ->
   (∀j,j<ops.size -> late j=true -> listed.getD j true=false -> ∃k ∈ B,rwaits md ops j k=true) ->
   i ∈ Region.ready md ops listed -> YieldsIf P ops S oi v a -> S w ->
   wpAnyE P md ops Q S late fuel (listed.setIfInBounds i true) (a.put oi.dst v) w -> wpAnyE P md ops Q S late (fuel+1) listed a w:=by
 intro fuel
 induction fuel with
 | zero=>
  intro listed a w _ _ _ hr hy hS H;refine⟨fun h=>(by rw[h] at hr;cases hr),fun j hj=> ?_⟩;by_cases hji:j=i
  ·subst hji;exact hy.wpOp hi hS ⟨fun _=>hS,H⟩
  ·have:=ready_mono hj hji;rw[H.1] at this;cases this
 | succ fuel ih=>
  intro listed a w hfree hBl hlate hr hy hS H;have hun:=(mem_ready.1 hr).1;refine⟨fun h=>(by rw[h] at hr;cases hr),fun j hj=> ?_⟩;by_cases hji:j=i
  ·subst hji;exact hy.wpOp hi hS ⟨fun _=>hS,H⟩
  ·have h1:=H.2 j (ready_mono hj hji);obtain⟨hjun,oj,hoj,hall⟩:=mem_ready.1 hj
   have hjB:j ∉ B:=fun hm=>by
    obtain⟨k,hk,hw⟩:=hBi j hm hji;exact rwaits_ready hj hw (hBl k hk)
   have hjl:late j=false:=by
    rcases hb:late j with _ | _
    ·rfl
    ·obtain⟨k,hk,hw⟩:=hlate j (Array.getElem?_eq_some_iff.1 hoj).1 hb hjun;exact(rwaits_ready hj hw (hBl k hk)).elim
   have hnot:∀e ∈ oj.after,Region.binds md e=true -> e.on≠i:=fun e he hb heq=>by
    have h1:=hall e he hb;have h0:=(mem_ready.1 hr).1;rw[heq] at h1
    rcases Nat.lt_or_ge i listed.size with h' | h'
    ·simp[h'] at h0 h1;rw[h0] at h1;cases h1
    ·simp[Array.getElem?_eq_none h'] at h1
   have h2:=wpOp_putIf hoj (hfree j oj hoj hji hjun hnot) (fun cs b=>hsel i oi cs b hi) (fun cs b=>hsel j oj cs b hoj) hQ hy h1
   have hback:∀k,(listed.setIfInBounds j true).getD k true=false -> listed.getD k true=false:=fun k hk=>by
    by_cases hjk:j=k
    ·subst hjk;exact hjun
    ·rw[getD_set_ne true hjk] at hk;exact hk
   have hfree':∀k ok,ops[k]? =some ok -> k≠i -> (listed.setIfInBounds j true).getD k true=false ->
     (∀e ∈ ok.after,Region.binds md e=true -> e.on≠i) -> oi.apart ops ok=true:=fun k ok hk hki hun hno=>
    hfree k ok hk hki (hback k hun) hno
   have hBl':∀b ∈ B,(listed.setIfInBounds j true).getD b true=false:=fun b hb=>by
    have hjb:j≠b:=by rintro rfl;exact hjB hb
    rw[getD_set_ne true hjb];exact hBl b hb
   refine wpOp_mono (fun a' w' h3=>⟨h3.2.1,ih (listed.setIfInBounds j true) a' w' hfree' hBl' (fun m hms hm hmun=>hlate m hms hm (hback m hmun)) (ready_mono hr (Ne.symm hji)) h3.1 (h3.2.1 hjl) ?_⟩) h2;rw[Array.setIfInBounds_comm _ _ hji];exact h3.2.2
theorem wpAnyE_takeB{i:Nat}{oi:Oper}{v:Value}{fuel:Nat}{listed:Array Bool}{a:Act}{w:World}(B:List Nat)(d:Option Nat)(hi:ops[i]? =some oi)(hd:oi.dst=d)
  (hs:Region.noSelect ops=true) (hf:Region.free md ops listed i=true) (hr:(Region.ready md ops listed).contains i=true) (he:rearlyB md ops late listed i B=true)
  (hQ:∀c a w,Q (.panic c) (a.put oi.dst v) w -> Q (.panic c) a w) (hy:YieldsIf P ops S oi v a) (hS:S w)
  (h:wpAnyE P md ops Q S late fuel (listed.setIfInBounds i true) (a.put d v) w):wpAnyE P md ops Q S late (fuel+1) listed a w:=by
 unfold rearlyB at he;simp only[Bool.and_eq_true,Bool.not_eq_true',List.all_eq_true,List.mem_range,Bool.or_eq_true,List.any_eq_true,beq_iff_eq] at he;obtain⟨⟨⟨he1,_⟩,he2⟩,he3⟩:=he;refine wpAnyE_firstB B hi (Region.noSelect_spec hs) hQ he1 (fun b hb hne=> ?_) fuel listed a w (Region.free_spec hi hf) (fun b hb=>(he2 b hb).1) (fun j hlt hj hun=> ?_) (by simpa using hr) hy hS (hd ▸ h)
 ·rcases(he2 b hb).2 with h1 | h1
  ·exact absurd h1 hne
  ·exact h1
 ·rcases he3 j hlt with (h1 | h1) | h1
  ·rw[hj] at h1;cases h1
  ·rw[hun] at h1;cases h1
  ·exact h1
end
end
section
open Go.RowKit
section
variable {P:Program} {ops:Array Oper} {Q:Exit -> Act -> World -> Prop} {md:Region.Mode} {S:World -> Prop} {late:Nat -> Bool} {oi:Oper} {v:Value} {fuel:Nat} {listed:Array Bool} {a b:Act} {w:World}
theorem tB(i:Nat)(B:List Nat)(d:Option Nat)(hS:S w)(h:wpAnyE P md ops Q S late fuel (listed.setIfInBounds i true) b w)(hi:ops[i]? =some oi:=by rfl)(hy:YieldsIf P ops S oi v a:=by exact Or.inl ⟨by rfl,by intro w' hSw;(try dsimp only at hSw);go_simp;try with_reducible rfl⟩)
    (hb:a.put d v=b:=by(try simp only[Act.put,List.setIfInBounds_toArray,List.set_cons_zero,List.set_cons_succ]);rfl) (hd:oi.dst=d:=by rfl)
    (hs:Region.noSelect ops=true:=by kernel_rfl) (hf:Region.free md ops listed i=true:=by kernel_rfl) (hr:(Region.ready md ops listed).contains i=true:=by kernel_rfl) (he:rearlyB md ops late listed i B=true:=by kernel_rfl)
    (hQ:∀c a w,Q (.panic c) (a.put oi.dst v) w -> Q (.panic c) a w:=by exact fun _ _ _ h=>h):wpAnyE P md ops Q S late (fuel+1) listed a w:=wpAnyE_takeB B d hi hd hs hf hr he hQ hy hS (by rw[hb];exact h)
theorem rD(i:Nat)(h:∀K':Act -> World -> Prop,Shut (∀a w,(late i=false -> S w) -> wpAnyE P md ops Q S late fuel (listed.setIfInBounds i true) a w -> K' a w) -> if Region.wanted oi (yielded ops a.tmps)=true then Oper.wp P oi a w K' Q else K' (a.put oi.dst undef) w)
    (hr:Region.ready md ops listed= [i]:=by kernel_rfl) (ho:ops[i]? =some oi:=by rfl):wpAnyE P md ops Q S late (fuel+1) listed a w:=wpAnyE_ready hr (by simp) (AllReadyE.cons ho h AllReadyE.nil)
theorem dN(h:Q .normal a w)(fuel:Nat)(hr:Region.ready md ops listed= []:=by kernel_rfl):wpAnyE P md ops Q S late fuel listed a w:=wpAnyE_done hr h fuel
theorem rL{id:Nat}{w0:World}(_:∀w',Below w0.heap.size w0 w' -> S w')(late:Nat -> Bool)(h:wpAnyE P .any ops Q S late ops.size (Array.replicate ops.size false) a w.drew)(hm:P.follows .mixedOrders=true:=by kernel_rfl):(Code.region id ops true).wp P Q a w:=wp_region_late S late hm h
theorem tKs(i:Nat)(d:Nat)(hS:S w)(h:wpAnyE P md ops Q S late fuel (listed.setIfInBounds i true) b w)(hi:ops[i]? =some oi:=by rfl)(hy:YieldsIf P ops S oi v a:=by exact Or.inl ⟨by rfl,by intro w' hSw;(try dsimp only at hSw);go_simp;try with_reducible rfl⟩)
    (hb:a.put (some d) v=b:=by(try simp only[Act.put,List.setIfInBounds_toArray,List.set_cons_zero,List.set_cons_succ]);rfl) (hd:oi.dst=some d:=by rfl)
    (hs:Region.noSelect ops=true:=by kernel_rfl) (hf:Region.free md ops listed i=true:=by kernel_rfl) (hr:(Region.ready md ops listed).contains i=true:=by kernel_rfl) (he:rearly md ops late listed i=true:=by kernel_rfl)
    (hQ:∀c a w,Q (.panic c) (a.put oi.dst v) w -> Q (.panic c) a w:=by exact fun _ _ _ h=>h):wpAnyE P md ops Q S late (fuel+1) listed a w:=wpAnyE_taked (some d) hi hd hs hf hr he hQ hy hS (by rw[hb];exact h)
theorem tUs(i:Nat)(d:Nat)(hS:S w)(h:wpAnyE P md ops Q S late fuel (listed.setIfInBounds i true) b w)(hi:ops[i]? =some oi:=by rfl)(hy:YieldsIf P ops S oi undef a:=by exact Or.inr ⟨by rfl,rfl⟩)
    (hb:a.put (some d) undef=b:=by(try simp only[Act.put,List.setIfInBounds_toArray,List.set_cons_zero,List.set_cons_succ]);rfl) (hd:oi.dst=some d:=by rfl)
    (hs:Region.noSelect ops=true:=by kernel_rfl) (hf:Region.free md ops listed i=true:=by kernel_rfl) (hr:(Region.ready md ops listed).contains i=true:=by kernel_rfl) (he:rearly md ops late listed i=true:=by kernel_rfl)
    (hQ:∀c a w,Q (.panic c) (a.put oi.dst undef) w -> Q (.panic c) a w:=by exact fun _ _ _ h=>h):wpAnyE P md ops Q S late (fuel+1) listed a w:=wpAnyE_taked (some d) hi hd hs hf hr he hQ hy hS (by rw[hb];exact h)
theorem tWs(i:Nat)(d:Nat)(h:wpAnyE P md ops Q S late fuel (listed.setIfInBounds i true) b w)(hi:ops[i]? =some oi:=by rfl)(hy:YieldsIf P ops (fun _=>True) oi v a:=by exact Or.inl ⟨by rfl,by intro w' _;go_simp;try with_reducible rfl⟩)
    (hb:a.put (some d) v=b:=by(try simp only[Act.put,List.setIfInBounds_toArray,List.set_cons_zero,List.set_cons_succ]);rfl) (hd:oi.dst=some d:=by rfl)
    (hs:Region.noSelect ops=true:=by kernel_rfl) (hf:Region.free md ops listed i=true:=by kernel_rfl) (hr:(Region.ready md ops listed).contains i=true:=by kernel_rfl) (hl:late i=true:=by rfl)
    (hQ:∀c a w,Q (.panic c) (a.put oi.dst v) w -> Q (.panic c) a w:=by exact fun _ _ _ h=>h):wpAnyE P md ops Q S late (fuel+1) listed a w:=wpAnyE_takeW (some d) hi hd hs hf hr hl hQ hy (by rw[hb];exact h)
theorem kH{c:Prop}{S:World -> Prop}{B K:Act -> World -> Prop}(hK:Shut (∀a w,(c -> S w) -> B a w -> K a w)){a:Act}{w:World}(h:S w)(r:B a w):K a w:=hK.out _ _ (fun _=>h) r
theorem kL{S:World -> Prop}{B K:Act -> World -> Prop}{c:Bool}(hK:Shut (∀a w,(c=false -> S w) -> B a w -> K a w)){a:Act}{w:World}(r:B a w)(h:c=false -> False:=by intro h;simp at h):K a w:=hK.out _ _ (fun x=>(h x).elim) r
end
end
section
open Go.RowKit
theorem trim_ten(s:ByteArray)(w:World)(hs:s.size <= 9223372036854775807):
  Calls Tryz.prog 147 #[.string s, .string ⟨#[48,49,50,51,52,53,54,55,56,57]⟩] w fun e w'=>e= .returned (.string ⟨(Lib.trimS s.data.toList tenDigits).toArray⟩) /\ Below w.heap.size w w':=
 Any.strings_Trim_laid Tryz.lays160 (by kernel_rfl) s ⟨#[48,49,50,51,52,53,54,55,56,57]⟩ w hs (by decide) (ascii_of_all (by decide))
theorem trim_zero(s:ByteArray)(w:World)(hs:s.size <= 9223372036854775807):
  Calls Tryz.prog 147 #[.string s, .string ⟨#[48]⟩] w fun e w'=>e= .returned (.string ⟨(Lib.trimS s.data.toList [48]).toArray⟩) /\ Below w.heap.size w w':=
 Any.strings_Trim_laid Tryz.lays160 (by kernel_rfl) s ⟨#[48]⟩ w hs (by decide) (ascii_of_all (by decide))
set_option maxRecDepth 100000 in
set_option maxHeartbeats 3200000 in
theorem digits_walk(s:ByteArray)(w:World)(hs:s.size <= 9223372036854775807):
  Calls Tryz.prog 145 #[.string s] w fun e w'=>e= .returned (.bool (dgs s.data.toList)) /\ Below w.heap.size w w':=by
 obtain⟨l,hl⟩:=eX (s.data.toList);have HL:=lH hl;have HT:=lH (fun w=>trim_ten s w hs);rw[<- hl];by_cases h0:l= []
 ·subst h0
  have hse:s=⟨#[]⟩:=by
   cases s with
   | mk d=>congr 1;exact Array.toList_inj.1 HL.out.symm
  subst hse;clear hl HL HT;go_enter Tryz.func145,Tryz.ntmps145;go_wp2_with fail
  go_returns;exact⟨rfl,Below.refl _ _⟩
 ·obtain⟨he1,he2⟩:=not_empty (D:=s) (by rw[<- hl];exact h0);clear hl;go_enter Tryz.func145,Tryz.ntmps145;go_wp2_with fail
  refine(HT.out _).mono ?_;rintro e w1 ⟨rfl,hb⟩;rw[<- HL.out];by_cases hd:l.all isDg=true
  ·have ht:=(trim_digits l).2 hd;rw[ht];have hb':=lH hb;have HD:Hid (dgs l=true):=lH (by unfold dgs;rw[hd,decide_eq_true h0];rfl);clear hb ht hd he1 he2 h0;go_wp2_with fail
   go_returns;exact⟨by rw[HD.out];rfl,hb'.out⟩
  ·have ht:Lib.trimS l tenDigits≠ []:=fun e=>hd ((trim_digits l).1 e)
   obtain⟨t,htt⟩:=eX (Lib.trimS l tenDigits);rw[<- htt] at ht ⊢;obtain⟨h3,h4⟩:=not_empty (D:=⟨t.toArray⟩) (by simpa using ht);have hb':=lH hb;have HD:Hid (dgs l=false):=lH (by unfold dgs;rw[Bool.not_eq_true] at hd;rw[hd,Bool.and_false]);have H5:Hid (t.isEmpty=false):=lH (by simpa using ht);clear hb hd he1 he2 h0 htt ht;go_wp2_with fail
   go_returns;refine⟨?_,hb'.out⟩;rw[HD.out];show Ending.returned (.bool t.isEmpty)=_;rw[H5.out]
end
section
def sv(l:List Nat)(i:Nat):Nat -> Nat
 | 0=>0
 | j+1=>sv l i j+BB^j*dg l (i+j)
theorem sv_zero(l:List Nat)(i:Nat):sv l i 0=0:=rfl
theorem sv_succ(l:List Nat)(i j:Nat):sv l i (j+1)=sv l i j+BB^j*dg l (i+j):=rfl
theorem sv_lt{l:List Nat}(h:Dig l)(i j:Nat):sv l i j<BB^j:=by
 induction j with
 | zero=>simp[sv]
 | succ j ih=>
  rw[sv_succ,Nat.pow_succ];have h1:dg l (i+j)+1 <= BB:=by have:=h (i+j);simp only[BB_eq];omega
  have h2:=Nat.mul_le_mul_left (BB^j) h1;rw[Nat.mul_add] at h2;omega
theorem sv_congr{l m:List Nat}{i j:Nat}(h:∀t,t<j -> dg l (i+t)=dg m (i+t)):sv l i j=sv m i j:=by
 induction j with
 | zero=>rfl
 | succ j ih=>rw[sv_succ,sv_succ,ih (fun t ht=>h t (by omega)),h j (by omega)]
theorem sv_set_ge(l:List Nat)(i j k x:Nat)(hk:i+j <= k):sv (l.set k x) i j=sv l i j:=
 sv_congr fun t ht=>by rw[dg_set,if_neg (by omega)]
theorem sv_set(l:List Nat)(i j x:Nat)(hk:i+j<l.length):sv (l.set (i+j) x) i (j+1)=sv l i j+BB^j*x:=by
 rw[sv_succ,sv_set_ge _ _ _ _ _ (Nat.le_refl _),dg_set,if_pos ⟨rfl,hk⟩]
theorem sv_val(l:List Nat)(j:Nat):sv l 0 j=val (l.take j):=by
 induction j with
 | zero=>simp[sv,val]
 | succ j ih=>rw[sv_succ,val_take_succ,ih,Nat.zero_add]
theorem est_ge{U V h vt Pn Ul Vl:Nat}(hU:U=h*Pn+Ul)(hUl:Ul<Pn)(hV:V=vt*Pn+Vl)(hvt:0<vt):U / V <= h / vt:=by
 rw[Nat.le_div_iff_mul_le hvt];have h1:U / V*V <= U:=Nat.div_mul_le_self _ _;have h2:U / V* (vt*Pn) <= U / V*V:=Nat.mul_le_mul_left _ (by omega)
 have h3:U / V*vt*Pn<(h+1)*Pn:=by
  rw[Nat.mul_assoc,Nat.add_mul,Nat.one_mul];omega
 have:=Nat.lt_of_mul_lt_mul_right h3;omega
theorem est_down{U V q P Ul Vl H vv:Nat}(hU:U=H*P+Ul)(hUl:Ul<P)(hV:V=vv*P+Vl)(hV0:0<V)(ht:H<q*vv):U / V<q:=by
 rw[Nat.div_lt_iff_lt_mul hV0];have h1:(H+1)*P <= q*vv*P:=Nat.mul_le_mul_right _ ht;have h2:q* (vv*P) <= q*V:=Nat.mul_le_mul_left _ (by omega);rw[Nat.add_mul,Nat.one_mul,Nat.mul_assoc] at h1;omega
theorem est_up{U V q r P Ul Vl H vv:Nat}(hU:U=H*P+Ul)(hV:V=vv*P+Vl)(hVl:Vl<P)(hV0:0<V)(ht:q*vv+r <= H)(hq:q <= vv+r+1):q <= U / V+1:=by
 rcases q with _ | q
 ·exact Nat.zero_le _
 ·have:q <= U / V:=by
   rw[Nat.le_div_iff_mul_le hV0,hU,hV];have h1:q* (vv*P+Vl) <= q* (vv*P)+q*P:=by rw[Nat.mul_add];have:=Nat.mul_le_mul_left q (Nat.le_of_lt hVl);omega
   have h2:q*P <= (vv+r)*P:=Nat.mul_le_mul_right _ (by omega);have h3:((q+1)*vv+r)*P <= H*P:=Nat.mul_le_mul_right _ ht;rw[Nat.add_mul,Nat.add_mul,Nat.one_mul,Nat.add_mul,Nat.mul_assoc] at h3;rw[Nat.add_mul] at h2;omega
  omega
theorem est_mul{q y1 y0 r h:Nat}(e:q*y1+r=h):q* (y1*4294967296+y0)+r*4294967296=h*4294967296+q*y0:=by
 rw[Nat.mul_add, <- Nat.mul_assoc, <- e,Nat.add_mul];generalize q*y1=a;generalize q*y0=b;omega
theorem lin1{_r x0 b c hB rB:Nat}(g1:c+rB=hB+b)(ht:rB+x0<b):hB+x0<c:=by omega
theorem est_mulgt{q y1 y0 r h x0:Nat}(e:q*y1+r=h)(ht:r*4294967296+x0<q*y0):h*4294967296+x0<q* (y1*4294967296+y0):=
 lin1 (_r:=r) (est_mul (y0:=y0) e) ht
theorem est_mulle{q y1 y0 r h x0:Nat}(e:q*y1+r=h)(ht:q*y0 <= r*4294967296+x0):q* (y1*4294967296+y0)+0 <= h*4294967296+x0:=by
 have g1:=est_mul (y0:=y0) e;generalize q* (y1*4294967296+y0)=c at*;generalize q*y0=b at*;clear e;omega
theorem est_r{q y1 y0:Nat}(hq:q<4294967296)(htop:2147483648 <= y1):q <= y1*4294967296+y0+0+1:=by omega
theorem est_next{q r y1 h:Nat}(hq:0<q)(e:q*y1+r=h):(q-1)*y1+ (r+y1)=h:=by
 obtain⟨n,rfl⟩:∃n,q=n+1:=⟨q-1,by omega⟩
 rw[Nat.add_sub_cancel];rw[Nat.add_mul,Nat.one_mul] at e;omega
structure Est (D x0 y0 y1 h:Nat):Prop where
 start:D <= h / y1
 far:∀q r,q*y1+r=h -> 4294967296 <= r -> q<4294967296 /\ q <= D+1
 big:∀q,4294967296 <= q -> D <= q-1
 down:∀q r,q*y1+r=h -> r*4294967296+x0<q*y0 -> D <= q-1 /\ 0<q
 up:∀q r,q*y1+r=h -> q*y0 <= r*4294967296+x0 -> q<4294967296 -> q <= D+1
 lt:D<4294967296
theorem est_facts{lu lv:List Nat}{i m x0 x1 x2 y0 y1 h:Nat}(hdu:Dig lu)(hdv:Dig lv)(h0:x0=dg lu (i+m))(h1:x1=dg lu (i+ (m+1)))(h2:x2=dg lu (i+ (m+2)))(k0:y0=dg lv m)(k1:y1=dg lv (m+1))
  (hh:h=x2*4294967296+x1) (htop:2147483648 <= y1) (hlt:sv lu i (m+3)<BB*sv lv 0 (m+2)):Est (sv lu i (m+3) / sv lv 0 (m+2)) x0 y0 y1 h /\ 0<sv lv 0 (m+2):=by
 have p1:BB^ (m+1)=BB^m*4294967296:=by rw[Nat.pow_succ, <- BB_eq]
 have p2:BB^ (m+2)=BB^m*4294967296*4294967296:=by rw[Nat.pow_succ,p1, <- BB_eq]
 have eU:sv lu i (m+3)=(h*4294967296+x0)*BB^m+sv lu i m:=by
  rw[sv_succ,sv_succ,sv_succ, <- h0, <- h1, <- h2,hh,p2,p1];generalize BB^m=P;generalize sv lu i m=R;grind
 have eU1:sv lu i (m+3)=h*BB^ (m+1)+sv lu i (m+1):=by
  rw[sv_succ lu i (m+2),sv_succ lu i (m+1), <- h1, <- h2,hh,p2,p1];generalize BB^m=P;generalize sv lu i (m+1)=R;grind
 have eV:sv lv 0 (m+2)=(y1*4294967296+y0)*BB^m+sv lv 0 m:=by
  rw[sv_succ,sv_succ,Nat.zero_add,Nat.zero_add, <- k0, <- k1,p1];generalize BB^m=P;generalize sv lv 0 m=R;grind
 have eV1:sv lv 0 (m+2)=y1*BB^ (m+1)+sv lv 0 (m+1):=by
  rw[sv_succ lv 0 (m+1),Nat.zero_add, <- k1,Nat.mul_comm y1,Nat.add_comm]
 have lU:=sv_lt hdu i m;have lU1:=sv_lt hdu i (m+1);have lV:=sv_lt hdv 0 m;have lV1:=sv_lt hdv 0 (m+1);have hP:0<BB^ (m+1):=Nat.pow_pos (by decide)
 have hV0:0<sv lv 0 (m+2):=by
  rw[eV1];have:=Nat.mul_pos (show 0<y1 by omega) hP;omega
 have hx2:x2 <= y1:=by
  have g1:x2*BB^ (m+2) <= sv lu i (m+3):=by rw[sv_succ lu i (m+2), <- h2,Nat.mul_comm];omega
  have g2:sv lv 0 (m+2)<(y1+1)*BB^ (m+1):=by rw[eV1,Nat.add_mul,Nat.one_mul];omega
  have g3:x2*BB^ (m+2)<(y1+1)*BB^ (m+2):=by
   rw[Nat.pow_succ BB (m+1), <- Nat.mul_assoc, <- Nat.mul_assoc];have g4:=Nat.mul_lt_mul_of_pos_left g2 (show 0<BB by decide);rw[Nat.mul_comm BB ((y1+1)*_)] at g4;rw[Nat.pow_succ BB (m+1), <- Nat.mul_assoc] at g1;omega
  have:=Nat.lt_of_mul_lt_mul_right g3;omega
 have hx1:x1<4294967296:=by rw[h1];exact hdu _
 have hx0:x0<4294967296:=by rw[h0];exact hdu _
 have hy0:y0<4294967296:=by rw[k0];exact hdv _
 have hlt':sv lu i (m+3) / sv lv 0 (m+2)<4294967296:=by
  rw[Nat.div_lt_iff_lt_mul hV0];exact hlt
 refine⟨⟨est_ge eU1 lU1 eV1 (by omega),?_,?_,?_,?_,hlt'⟩,hV0⟩
 ·intro q r e hr
  have hq:q<4294967296:=by
   rcases Nat.lt_or_ge q 4294967296 with g | g
   ·exact g
   ·have g1:=Nat.mul_le_mul_right y1 g;have g2:=Nat.mul_le_mul_right 4294967296 hx2;omega
  exact⟨hq,est_up eU1 eV1 lV1 hV0 (r:=r) (by omega) (by omega)⟩
 ·intro q hq;exact Nat.le_sub_one_of_lt (Nat.lt_of_lt_of_le hlt' hq)
 ·intro q r e ht;have:=est_down (q:=q) eU lU eV hV0 (est_mulgt e ht);exact⟨Nat.le_sub_one_of_lt this,Nat.lt_of_le_of_lt (Nat.zero_le _) this⟩
 ·intro q r e ht hq;exact est_up eU eV lV hV0 (r:=0) (est_mulle e ht) (est_r hq htop)
theorem mulsub_step{lo l0 lv:List Nat}{i j c b b' q x s:Nat}(hk:i+j<lo.length)(h:sv l0 i j+BB^j* (c+b)=sv lo i j+q*sv lv 0 j)(hs:s=c+q*dg lv j)
  (hx:dg l0 (i+j)+4294967296*b'=x+b+s%4294967296):
  sv l0 i (j+1)+BB^ (j+1)* (s / 4294967296+b')=sv (lo.set (i+j) x) i (j+1)+q*sv lv 0 (j+1):=by
 rw[sv_set _ _ _ _ hk,sv_succ,sv_succ,Nat.zero_add,Nat.pow_succ];have h1:=pow_split (BB^j) s;have e1:BB^j*s=BB^j*c+q* (BB^j*dg lv j):=by rw[hs,Nat.mul_add,Nat.mul_left_comm]
 have e2:BB^j* (dg l0 (i+j)+4294967296*b')=BB^j* (x+b+s%4294967296):=by rw[hx]
 rw[Nat.mul_add,Nat.mul_add,Nat.mul_add, <- Nat.mul_assoc, <- BB_eq] at e2;rw[Nat.mul_add (BB^j*BB),Nat.mul_add q];rw[Nat.mul_add] at h;simp only[<- BB_eq] at*;omega
theorem back_step{lo l0 lv:List Nat}{i j c s:Nat}(hk:i+j<lo.length)(h:sv lo i j+BB^j*c=sv l0 i j+sv lv 0 j)(hs:s=c+ (dg l0 (i+j)+dg lv j)):
  sv (lo.set (i+j) (s%4294967296)) i (j+1)+BB^ (j+1)* (s / 4294967296)=sv l0 i (j+1)+sv lv 0 (j+1):=by
 rw[sv_set _ _ _ _ hk,sv_succ,sv_succ,Nat.zero_add,Nat.pow_succ];have h1:=pow_split (BB^j) s;have e1:BB^j*s=BB^j*c+BB^j*dg l0 (i+j)+BB^j*dg lv j:=by rw[hs,Nat.mul_add,Nat.mul_add];omega
 omega
theorem sub_end{U V q S:Nat}(hV:0<V)(h:U=S+q*V)(hq:U / V <= q):q=U / V /\ S=U%V:=by
 have h1:q <= U / V:=by rw[Nat.le_div_iff_mul_le hV];omega
 have h2:q=U / V:=Nat.le_antisymm h1 hq;refine⟨h2,?_⟩;have:=Nat.div_add_mod U V;rw[<- h2,Nat.mul_comm] at this;omega
theorem back_end{U V q S T X ov:Nat}(hV:0<V)(h:U+X=S+q*V)(hS:S<X)(hVX:V<X)(hq:q <= U / V+1)(hT:T+X*ov=S+V)(hTX:T<X):q-1=U / V /\ T=U%V /\ 0<q:=by
 have h1:U<q*V:=by omega
 have h2:U / V<q:=by rw[Nat.div_lt_iff_lt_mul hV];exact h1
 have h3:q=U / V+1:=by omega
 have h4:=Nat.div_add_mod U V;have h5:=Nat.mod_lt U hV;have h6:q*V=V* (U / V)+V:=by rw[h3,Nat.add_mul,Nat.one_mul,Nat.mul_comm]
 have hov:ov=1:=by
  rcases Nat.lt_or_ge ov 1 with ho | ho
  ·have:ov=0:=by omega
   subst this;omega
  ·rcases Nat.lt_or_ge 1 ov with ho2 | ho2
   ·have:=Nat.mul_le_mul_left X ho2;omega
   ·omega
 subst hov;rw[Nat.mul_one] at hT;exact⟨by rw[h3,Nat.add_sub_cancel],by omega,by rw[h3];exact Nat.succ_pos _⟩
theorem sub_step(lo lu lv:List Nat){i m q x c b:Nat}(hk:i+m<lo.length)(h:sv lu i m+BB^m* (c+b)=sv lo i m+q*sv lv 0 m)(hx:dg lu (i+m)=x+b+c):
  sv lu i (m+1)=sv (lo.set (i+m) x) i (m+1)+q*sv lv 0 m:=by
 rw[sv_set _ _ _ _ hk,sv_succ,hx];rw[Nat.mul_add] at h;rw[Nat.mul_add,Nat.mul_add];omega
theorem back_start(lo lu lv:List Nat){i m q x c b:Nat}(hk:i+m<lo.length)(h:sv lu i m+BB^m* (c+b)=sv lo i m+q*sv lv 0 m)(hx:dg lu (i+m)+4294967296=x+b+c):
  sv lu i (m+1)+BB^ (m+1)=sv (lo.set (i+m) x) i (m+1)+q*sv lv 0 m:=by
 rw[sv_set _ _ _ _ hk,sv_succ,Nat.pow_succ];have e:BB^m* (dg lu (i+m)+4294967296)=BB^m* (x+b+c):=by rw[hx]
 rw[<- BB_eq,Nat.mul_add,Nat.mul_add,Nat.mul_add] at e;rw[Nat.mul_add] at h;omega
theorem back_last(lo l1 lv:List Nat){i m c s:Nat}(hk:i+m<lo.length)(h:sv lo i m+BB^m*c=sv l1 i m+sv lv 0 m)(hs:s=dg l1 (i+m)+c):
  sv (lo.set (i+m) (s%4294967296)) i (m+1)+BB^ (m+1)* (s / 4294967296)=sv l1 i (m+1)+sv lv 0 m:=by
 rw[sv_set _ _ _ _ hk,sv_succ,Nat.pow_succ];have h1:=pow_split (BB^m) s;have e1:BB^m*s=BB^m*dg l1 (i+m)+BB^m*c:=by rw[hs,Nat.mul_add]
 omega
end
end Go.Proofs.YtdefghfjhgmpfaaGreatDoor
