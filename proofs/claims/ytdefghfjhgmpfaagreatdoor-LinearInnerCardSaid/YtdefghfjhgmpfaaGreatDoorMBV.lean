/- Parts of this proof: RWith LFeas Solved None_. -/
import Derived.Test.YtdefghfjhgmpfaaGreatDoorMAE
import Derived.Test.YtdefghfjhgmpfaaGreatDoorMBQ
import Derived.Test.YtdefghfjhgmpfaaGreatDoorMBK
import Derived.Test.YtdefghfjhgmpfaaGreatDoorMAV
import Derived.Test.YtdefghfjhgmpfaaGreatDoorMBI
import Derived.Test.YtdefghfjhgmpfaaGreatDoorMBR
import Derived.Test.YtdefghfjhgmpfaaGreatDoorMAY
namespace Go.Proofs.YtdefghfjhgmpfaaGreatDoor
open Go.Proofs.Tryz
section
open Go.RowKit
open Lp (RL upd eu)
def wV(w':World)(v:Int)(AR:Option Addr)(m cR:Nat)(k:Nat -> Nat)(t:Nat -> Nat -> ByteArray)(b:Nat -> ByteArray)(e:Ending):Prop:=
 ((v<0 \/ 96<v) /\ e= .returned (.tuple #[.agg #[.slice none 0 0, .slice none 0 0], .int .i64 2])) \/
 (0 <= v /\ v <= 96 /\ ∃AO cO,e= .returned (.tuple #[.agg #[.slice AO v.toNat cO, .slice AR m cR], .int .i64 (fD v.toNat m k (fun _=>⟨#[48]⟩) t b:Nat)]) /\ fH w' (.slice AO v.toNat cO) v.toNat (fun _=>⟨#[48]⟩))
def jF(v:Int)(m:Nat)(k:Nat -> Nat)(t:Nat -> Nat -> ByteArray)(b:Nat -> ByteArray):Nat:=if v<0 \/ 96<v then 2 else fD v.toNat m k (fun _=>⟨#[48]⟩) t b
set_option maxRecDepth 100000 in
set_option maxHeartbeats 6400000 in
theorem CF(v:Int)(G:Option Addr)(m M:Nat)(k:Nat -> Nat)(t:Nat -> Nat -> ByteArray)(b:Nat -> ByteArray)(w:World)(hr:fZ w (.slice G m M) m k t b)(hf:RowsFit m k t b):
  Calls prog 23 #[.int .i64 v, .slice G m M] w fun e w'=>wV w' v G m M k t b e /\ Below w.heap.size w w':=by
 have HR:=lH hr;have HF:=lH hf;obtain⟨iN,ap,av,aw,ax⟩:=info_parts qW;clear hr hf;obtain⟨W,T,h,E⟩:=eN1 w [.slice none 0 0, .slice none 0 0] 25;go_enter func23,ntmps23;by_cases h0:v<0
 ·have HV:Hid (v<0 \/ 96<v):=lH (.inl h0);have ad:decide (v<0)=true:=decide_eq_true h0;obtain⟨r0,O,r1,f1⟩:=aF2 h.o;have U:=h.o.lt;rw[T] at r0 r1 O f1 U;go_wp2_with fail
  rw[<- T];clear T U r0 O r1 f1;obtain⟨k0,k1⟩:=aT2 h.o;refine bodyPost_ret (v:= .tuple #[.agg #[.slice none 0 0, .slice none 0 0], .int .i64 2]) (by simp[results,results23,go_sem,k0,k1]) rfl ?_;exact⟨.inl ⟨HV.o,rfl⟩,E.o⟩
 ·by_cases a3:96<v
  ·have HV:Hid (v<0 \/ 96<v):=lH (.inr a3);have ad:decide (v<0)=false:=decide_eq_false h0;have ao:decide (96<v)=true:=decide_eq_true a3;obtain⟨r0,O,r1,f1⟩:=aF2 h.o;have U:=h.o.lt;rw[T] at r0 r1 O f1 U;go_wp2_with fail
   rw[<- T];clear T U r0 O r1 f1;obtain⟨k0,k1⟩:=aT2 h.o;refine bodyPost_ret (v:= .tuple #[.agg #[.slice none 0 0, .slice none 0 0], .int .i64 2]) (by simp[results,results23,go_sem,k0,k1]) rfl ?_;exact⟨.inl ⟨HV.o,rfl⟩,E.o⟩
  ·obtain⟨n,rfl⟩:∃n:Nat,v=n:=⟨v.toNat,by omega⟩
   have ad:decide (((n:Nat):Int)<0)=false:=decide_eq_false h0;have ao:decide ((96:Int)<((n:Nat):Int))=false:=decide_eq_false a3;have az:decide (96<n)=false:=decide_eq_false oM;have hn:n <= 96:=oM
   have al:=lH hn;clear h0 a3;obtain⟨w3,a2⟩:=eX (W.alloc (.cells #[.slice none 0 0, .slice G m M] 25));have ak:W.heap.size=w.heap.size+1:=by rw[T];simp
   have a4:Below W.heap.size W w3:=by rw[a2];exact eD _ _
   have F:Hid (Row w3 (w.heap.size+1) 25 [.slice none 0 0, .slice G m M]):=lH (by rw[a2, <- ak];exact eP _ _);replace h:=rW h a4;replace E:=bT E a4;have U:=h.o.lt;rw[a2,T] at U;go_wp2_with fail
   rw[<- T, <- a2];clear a2 ak a4 U T;have a7:=F;have a8:=h;have a5:=E;clear F h E
   go_loopw [7] (fun iv wr=>∃ (q:Nat) (B:Option Addr) (d:Nat),q <= n /\ iv= .int .i64 q /\ Row wr (w.heap.size+1) 25 [.slice B q d, .slice G m M] /\ fH wr (.slice B q d) q (fun _=>⟨#[48]⟩) /\ Hid (∀g,(Value.slice B q d).ownBlock=some g -> w.heap.size <= g) /\ Row wr w.heap.size 25 [.slice none 0 0, .slice none 0 0] /\ Below w.heap.size w wr)
    (fun iv _=>n-(intOf iv).toNat)
   case atStart=>exact⟨0,none,0,Nat.zero_le _,rfl,a7.o,fH.nil _ _,lH (fun g Z=>by simp[Value.ownBlock] at Z),a8.o,a5.o⟩
   case round=>
    clear a7 a8 a5;obtain⟨q,B,d,hq,rfl,ag,af,ae,aj,ac⟩:=hrel;have F:=lH ag;have R:=lH af;have LO:=lH ae.o;have h:=lH aj;have E:=lH ac;clear ag af ae aj ac;by_cases aA:((q:Nat):Int)<((n:Nat):Int)
    ·have aB:q<n:=oM
     obtain⟨q0,q1⟩:=aT2 F.o;have O:=F.o.free 0;have ql:=F.o.lt
     go_wp2_with (at_builtin;(refine wpList_plain rfl fun K hK=>qO _ (.tmp 23) (.tmp 24) 22 rfl 30 iN (.string ⟨#[]⟩) 16 underlying22 ap av aw ax rfl (.slice B q d) q _ rfl R.o (.string ⟨#[48]⟩) rfl rfl rfl ⟨by unfold maxLen;omega,by omega⟩ ?_))
     clear q0 q1 O ql;intro va w5 ho ht;obtain⟨X,Y,ar,_,_⟩:=eY.shape ho;subst ar;have ah:(Value.slice B q d).ownBlock≠some (w.heap.size+1):=fun e=>by obtain⟨_,hx⟩:=eY.row R.o e;exact absurd (F.o.ty hx) dC
     have ai:(Value.slice B q d).ownBlock≠some w.heap.size:=fun e=>by obtain⟨_,hx⟩:=eY.row R.o e;exact absurd (h.o.ty hx) dC
     replace F:=lH (F.o.turned ht ah);replace h:=lH (h.o.turned ht ai);have ab:=ht.below (B:=w.heap.size) E.o.size LO.o;have am:=lH (ht.base E.o.size LO.o);replace E:=lH (E.o.trans ab);have a6:Hid (fH w5 (.slice X (q+1) Y) (q+1) (fun _=>⟨#[48]⟩)):=lH ho;clear ab ht ho ah ai R LO;refine hK _ _ ?_;have q0:=aI 0 F;have O:=F.o.free 0;have ql:=F.o.lt;go_wp2_with fail
     clear q0 O ql;have Z:World.grownBy w5 (w5.setCell ⟨w.heap.size+1,0,none⟩ (.slice X (q+1) Y)) (some (w.heap.size+1)):=grownBy_set _ _ _ _;have QN:Row (w5.setCell ⟨w.heap.size+1,0,none⟩ (.slice X (q+1) Y)) (w.heap.size+1) 25 [.slice X (q+1) Y, .slice G m M]:=F.o.set 0 (.slice X (q+1) Y);have ON:fH (w5.setCell ⟨w.heap.size+1,0,none⟩ (.slice X (q+1) Y)) (.slice X (q+1) Y) (q+1) (fun _=>⟨#[48]⟩):=eY.other a6.o Z (fun e1=>by obtain⟨_,hx⟩:=eY.row a6.o e1;exact absurd (F.o.ty hx) dC);have RN:=h.o.other Z oM;have HN:=E.o.grown Z E.o.size (by first | (simp;done) | (simp;omega));go_roundw
     case rel=>exact⟨q+1,X,Y,by omega,by go_num,QN,ON,am,RN,HN⟩
     case measure=>exact mZ
    ·have aq:n=q:=oM
     subst aq;have ay:=lH (fH.ts R.o);go_wp2_with fail
     have a1:=rG wr;have an:=F.o.lt;obtain⟨a9,aa⟩:=aT2 F.o;have KS:=lH (kC a9 (kN aa));clear an a9 aa;refine rL KS.o (fun i=>decide (3 <= i)) ?_;have hh:=KS.o _ a1.o;refine tKs 0 27 hh ?_;refine tKs 1 28 hh ?_;refine rD 2 (fun K hK=> ?_);go_simp;refine(ry B G n m d M k (fun _=>⟨#[48]⟩) t b _ (by exact fH.ts R.o) (by exact fZ.below (HR.o.below E.o) (Below.refl _ _).drew) (by have:=al.o;omega) HF.o.1 (fun j _=>by show(1:Nat) <= 65536;omega) HF.o.2.1 HF.o.2.2).mono ?_;rintro e w9 ⟨rfl,a0⟩;have a0:Below wr.heap.size wr w9:=bD a0;replace h:=rW h a0;replace E:=bT E a0;replace a1:=bT a1 a0;replace R:Hid (fH w9 (.slice B n d) n (fun _=>⟨#[48]⟩)):=lH (eY.below R.o a0);clear hh a0;have hh:=KS.o _ a1.o;refine kH hK hh ?_;clear hK K;obtain⟨r0,r1⟩:=aT2 h.o;have O:=h.o.free 0;have f1:=h.o.free 1;have U:=h.o.lt;refine rD 3 (fun K hK=> ?_);go_simp;refine kL hK ?_;clear hK K;refine tWs 4 5 ?_;refine dN ?_ _;clear hh KS a1;clear r0 r1 O f1 U;go_wp2_with fail
     have Z:World.grownBy w9 ((w9.setCell ⟨w.heap.size,0,none⟩ (.slice B n d)).setCell ⟨w.heap.size,1,none⟩ (.slice G m M)) (some w.heap.size):=grownBy_trans (grownBy_set _ _ _ _) (grownBy_set _ _ _ _);have RE:Row ((w9.setCell ⟨w.heap.size,0,none⟩ (.slice B n d)).setCell ⟨w.heap.size,1,none⟩ (.slice G m M)) w.heap.size 25 [.slice B n d, .slice G m M]:=(h.o.set 0 (.slice B n d)).set 1 (.slice G m M);have ON:fH ((w9.setCell ⟨w.heap.size,0,none⟩ (.slice B n d)).setCell ⟨w.heap.size,1,none⟩ (.slice G m M)) (.slice B n d) n (fun _=>⟨#[48]⟩):=eY.other R.o Z (fun e1=>by obtain⟨_,hx⟩:=eY.row R.o e1;exact absurd (h.o.ty hx) dC);have HN:=E.o.grown Z E.o.size (by first | (simp;done) | (simp;omega));obtain⟨wE,au⟩:=eX (((w9.setCell ⟨w.heap.size,0,none⟩ (.slice B n d)).setCell ⟨w.heap.size,1,none⟩ (.slice G m M)));rw[<- au] at RE ON HN ⊢;have k0:=RE.at_ 0 rfl;have k1:=RE.at_ 1 rfl;refine bodyPost_ret (v:= .tuple #[.agg #[.slice B n d, .slice G m M], .int .i64 (fD n m k (fun _=>⟨#[48]⟩) t b:Nat)]) (by simp[results,results23,go_sem,k0,k1]) rfl ?_;exact⟨.inr ⟨by omega,by omega,B,d,rfl,ON⟩,HN⟩
end
section
open Go.RowKit
open Lp (RL upd eu)
def wW(w':World)(v:Int)(m K:Nat)(k:Nat -> Nat)(t:Nat -> Nat -> ByteArray)(b:Nat -> ByteArray)(e:Ending):Prop:=
 (jF v m k t b≠0 /\ e= .returned (.tuple #[.agg #[.int .i64 0, .string ⟨#[]⟩, .slice none 0 0, .slice none 0 0, .slice none 0 0], .int .i64 (jF v m k t b:Nat)])) \/
 (jF v m k t b=0 /\ ∃A bq c V,jk v.toNat m (fun _=>⟨#[48]⟩) t b A bq c /\ iA w' m v.toNat K A bq c V /\ e= .returned (.tuple #[V, .int .i64 0]))
theorem JV{w:World}{v:Int}{m:Nat}{k:Nat -> Nat}{t:Nat -> Nat -> ByteArray}{b:Nat -> ByteArray}{e:Ending}(h:Cu w v m k t b e):
  (jF v m k t b≠0 /\ e= .returned (.tuple #[.agg #[.slice none 0 0, .slice none 0 0, .slice none 0 0], .int .i64 (jF v m k t b:Nat)])) \/
  (jF v m k t b=0 /\ fD v.toNat m k (fun _=>⟨#[48]⟩) t b=0 /\ v=(v.toNat:Int) /\ ∃M E O R F T A bq c,e= .returned (.tuple #[.agg #[.slice M v.toNat R, .slice E m F, .slice O m T], .int .i64 0]) /\
   eZ w (.slice M v.toNat R) v.toNat c /\ iD w (.slice E m F) m v.toNat A /\ eZ w (.slice O m T) m bq /\ jk v.toNat m (fun _=>⟨#[48]⟩) t b A bq c /\ RowsIn w (.slice E m F) m):=by
 unfold jF
 rcases h with ⟨h,G⟩ | ⟨h1,h2,h⟩
 ·rw[if_pos h];exact .inl ⟨by decide,G⟩
 ·rw[if_neg oM]
  rcases h with ⟨h0,G⟩ | ⟨h0,M,E,O,R,F,T,A,bq,c,G,hc,U,X,Y,Z⟩
  ·exact .inl ⟨h0,G⟩
  ·exact .inr ⟨h0,h0,by omega,M,E,O,R,F,T,A,bq,c,G,hc,U,X,Y,Z⟩
set_option maxRecDepth 100000 in
set_option maxHeartbeats 12800000 in
theorem CG(v:Int)(AR:Option Addr)(m cR:Nat)(k:Nat -> Nat)(t:Nat -> Nat -> ByteArray)(b:Nat -> ByteArray)(R:Nat)(w:World)(hr:fZ w (.slice AR m cR) m k t b)(hf:RowsFit m k t b)
  (ae:0<R) (hK:jF v m k t b=0 -> Lp.wide m v.toNat R+1 <= 1000000) (ag:∀i,i<m -> ∀j,j<k i -> (t i j).size <= R) (af:∀i,i<m -> (b i).size <= R) (ht:Tab w) (X:iG w):
  Calls prog 24 #[.int .i64 v, .slice AR m cR] w fun e w'=>wW w' v m (Lp.wide m v.toNat R+1) k t b e /\ Below w.heap.size w w':=by
 have HR:=lH hr;have HF:=lH hf;have HL:=lH (And.intro ag af);have U:=lH (And.intro ae hK);have ai:=lH X;have al:=lH ht;clear hr hf ag af ae hK X ht;obtain⟨W,hW,E,h⟩:=eN1 w [.int .i64 0, .string ⟨#[]⟩, .slice none 0 0, .slice none 0 0, .slice none 0 0] 32;go_enter func24,ntmps24;go_wp2_with fail
 rw[<- hW];clear hW;refine(Jl v AR m cR k t b _ (HR.o.below h.o) HF.o (ai.o.below h.o)).mono ?_;rintro e T ⟨hr,G⟩;replace E:=rW E G;replace h:=bT h G;clear G
 rcases JV hr with ⟨h0,rfl⟩ | ⟨h0,a4,an,AC,AS,AD,cC,cS,cD,A,bq,c,rfl,hc,hA,hD,hP,_⟩
 ·obtain⟨cc,a3⟩:=eX (jF v m k t b);rw[<- a3] at h0 ⊢;have am:((cc:Nat):Int)≠0:=oM
  have ao:(((cc:Nat):Int) !=0)=true:=by simpa using am
  have ap:(cc !=0)=true:=by simpa using h0
  have ah:=lH h0;have ab:=lH a3;clear h0 a3;obtain⟨Y,O⟩:=eX (T.alloc (.cells #[.slice none 0 0, .slice none 0 0, .slice none 0 0] 98));obtain⟨gQ,Z⟩:=eX (T.heap.size);have M:Below T.heap.size T Y:=by rw[O];exact eD _ _
  have QB:Hid (Row Y gQ 98 [.slice none 0 0, .slice none 0 0, .slice none 0 0]):=lH (by rw[O,Z];exact eP _ _);replace E:=rW E M;replace h:=bT h M
  go_upto_region 3 with (fail)
  rw[<- O];clear O M Z;obtain⟨r0,f0,r1,f1,r2,f2,r3,f3,r4,f4⟩:=aF5 E.o;have rl:=E.o.lt;go_wp2_with fail
  clear rl r0 f0 r1 f1 r2 f2 r3 f3 r4 f4;have X:=iJ Y w.heap.size (.int .i64 0) (.string ⟨#[]⟩) (.slice none 0 0) (.slice none 0 0) (.slice none 0 0);have F:=E.o.nA (v0:= .int .i64 0) (v1:= .string ⟨#[]⟩) (v2:= .slice none 0 0) (v3:= .slice none 0 0) (v4:= .slice none 0 0);have a0:=h.o.grown X h.o.size (by first | (simp;done) | (simp;omega));obtain⟨wE,a6⟩:=eX ((((((Y.setCell ⟨w.heap.size,0,none⟩ (.int .i64 0)).setCell ⟨w.heap.size,1,none⟩ (.string ⟨#[]⟩)).setCell ⟨w.heap.size,2,none⟩ (.slice none 0 0)).setCell ⟨w.heap.size,3,none⟩ (.slice none 0 0)).setCell ⟨w.heap.size,4,none⟩ (.slice none 0 0)));rw[<- a6] at F a0 ⊢;have k0:=F.at_ 0 rfl;have k1:=F.at_ 1 rfl;have k2:=F.at_ 2 rfl;have k3:=F.at_ 3 rfl;have k4:=F.at_ 4 rfl;refine bodyPost_ret (v:= .tuple #[.agg #[.int .i64 0, .string ⟨#[]⟩, .slice none 0 0, .slice none 0 0, .slice none 0 0], .int .i64 (cc:Nat)]) (by simp[results,results24,go_sem,k0,k1,k2,k3,k4]) rfl ?_;exact⟨.inl ⟨by rw[<- ab.o];exact ah.o,by rw[<- ab.o]⟩,a0⟩
 ·replace U:=lH (And.intro U.o.1 (U.o.2 h0));have aj:=lH h0;have ak:=lH a4;have ac:=lH hP;have HC:=lH hc;have HA:=lH hA;have HD:=lH hD;have a1:=lH (mo a4);clear h0 a4 hP hc hA hD an;obtain⟨Y,O⟩:=eX (T.alloc (.cells #[.slice AC v.toNat cC, .slice AS m cS, .slice AD m cD] 98));obtain⟨gQ,Z⟩:=eX (T.heap.size);have M:Below T.heap.size T Y:=by rw[O];exact eD _ _
  have QB:Hid (Row Y gQ 98 [.slice AC v.toNat cC, .slice AS m cS, .slice AD m cD]):=lH (by rw[O,Z];exact eP _ _);replace E:=rW E M;replace HC:=lH (HC.o.below M);replace HA:=lH (HA.o.below M);replace HD:=lH (HD.o.below M);replace h:=bT h M;obtain⟨a7,a8,a9⟩:=aT3 QB.o;have aa:=QB.o.lt;rw[O] at a7 a8 a9 aa;rw[Z] at a7 a8 a9 aa;go_wp2_with fail
  rw[<- O];clear O M Z a7 a8 a9 aa;have a2:=lH (pO ak.o ac.o (fun j _=>by show 1 <= R;exact U.o.1) HL.o.1 HL.o.2);refine(Cr AC AS AD v.toNat m cC cS cD R A bq c _ HC.o (by exact a2.o.1) (by exact HA.o) (by exact HD.o) (by have:=a1.o.1;omega) (by have:=a1.o.2.1;omega) a2.o.2.1 a2.o.2.2 U.o.1 (by have:=U.o.2;omega)).mono ?_;rintro e w3 ⟨V,rfl,hv,G⟩;have HV:=lH hv;clear hv;replace E:=rW E G;replace h:=bT h G;clear G;go_wp2_with fail
  refine(Cs m v.toNat (Lp.wide m v.toNat R+1) A bq c V _ HV.o (by have:=a1.o.2.1;omega) (by have:=a1.o.1;omega) U.o.2 (al.o.below h.o)).mono ?_;rintro e w4 ⟨v2,rfl,a5,G⟩;replace E:=rW E G;replace h:=bT h G;clear G;clear HV;obtain⟨kk,s0,A0,n0,c0,A1,n1,c1,A2,n2,c2,rfl⟩:=a5.shape;have HV:=lH a5;clear a5;obtain⟨r0,f0,r1,f1,r2,f2,r3,f3,r4,f4⟩:=aF5 E.o;have rl:=E.o.lt;go_wp2_with fail
  clear rl r0 f0 r1 f1 r2 f2 r3 f3 r4 f4;have X:=iJ w4 w.heap.size (.int .i64 kk) (.string s0) (.slice A0 n0 c0) (.slice A1 n1 c1) (.slice A2 n2 c2);have F:=E.o.nA (v0:= .int .i64 kk) (v1:= .string s0) (v2:= .slice A0 n0 c0) (v3:= .slice A1 n1 c1) (v4:= .slice A2 n2 c2);have a0:=h.o.grown X h.o.size (by first | (simp;done) | (simp;omega));have ad:=HV.o.other X E.o (fun z hz=>by simpa using hz);obtain⟨wE,a6⟩:=eX ((((((w4.setCell ⟨w.heap.size,0,none⟩ (.int .i64 kk)).setCell ⟨w.heap.size,1,none⟩ (.string s0)).setCell ⟨w.heap.size,2,none⟩ (.slice A0 n0 c0)).setCell ⟨w.heap.size,3,none⟩ (.slice A1 n1 c1)).setCell ⟨w.heap.size,4,none⟩ (.slice A2 n2 c2)));rw[<- a6] at F a0 ad ⊢;have k0:=F.at_ 0 rfl;have k1:=F.at_ 1 rfl;have k2:=F.at_ 2 rfl;have k3:=F.at_ 3 rfl;have k4:=F.at_ 4 rfl;refine bodyPost_ret (v:= .tuple #[.agg #[.int .i64 kk, .string s0, .slice A0 n0 c0, .slice A1 n1 c1, .slice A2 n2 c2], .int .i64 0]) (by simp[results,results24,go_sem,k0,k1,k2,k3,k4]) rfl ?_;exact⟨.inr ⟨aj.o,A,bq,c,_,ac.o,ad,rfl⟩,a0⟩
end
section
open Go.RowKit
open Lp (RL upd eu)
def JW(w:World)(n m Kd:Nat)(o:Nat -> ByteArray)(t:Nat -> Nat -> ByteArray)(b:Nat -> ByteArray)(e:Ending):Prop:=
 ∃ (O:OTx) (v:Value),e= .returned (.tuple #[v, .bool true]) /\ mE w v O /\ O.Fit Kd /\ (1 <= O.kk /\ O.kk <= 3) /\ O.iE n m /\
  ∃A bq c q x y d,jk n m o t b A bq c /\ O.Is q x y d /\ kI m n O.kk A bq c q x y d
theorem wX{s:ByteArray}{q:Rat}(h:s.data.toList=fA q):s≠⟨#[]⟩:=fun e=>BV q ((jE h).symm.trans e)
theorem q8{O:OTx}{n m:Nat}(h:O.iE n m):O.np <= n /\ O.ny <= m /\ O.nd <= n:=by
 obtain⟨h1,t,E,_⟩:=h;refine⟨?_,?_,?_⟩
 ·rw[h1];split <;> omega
 ·rw[t];split <;> omega
 ·rw[E];split <;> omega
theorem mE.shape{w:World}{v:Value}{O:OTx}(h:mE w v O):∃E M F R t G,v= .agg #[.int .i64 O.kk, .string O.s, .slice E O.np M, .slice F O.ny R, .slice t O.nd G] /\ TSA w (.slice E O.np M) O.np O.p /\ TSA w (.slice F O.ny R) O.ny O.y /\ TSA w (.slice t O.nd G) O.nd O.d:=by
 obtain⟨Z,vy,Y,rfl,U,X,T⟩:=h;obtain⟨E,M,rfl,_,_⟩:=U.1.shape;obtain⟨F,R,rfl,_,_⟩:=X.1.shape;obtain⟨t,G,rfl,_,_⟩:=T.1.shape;exact⟨E,M,F,R,t,G,rfl,U,X,T⟩
set_option maxRecDepth 100000 in
set_option maxHeartbeats 12800000 in
theorem K6(AO AR:Option Addr)(n m cO cR:Nat)(k:Nat -> Nat)(o:Nat -> ByteArray)(t:Nat -> Nat -> ByteArray)(b:Nat -> ByteArray)(R Kd Kq:Nat)(w:World)(ho:TS w (.slice AO n cO) n o)(hr:fZ w (.slice AR m cR) m k t b)(h0:fD n m k o t b=0)
  (ap:0<R) (Z:R <= 65536) (ay:∀j,j<n -> (o j).size <= R) (az:∀i,i<m -> ∀j,j<k i -> (t i j).size <= R) (ax:∀i,i<m -> (b i).size <= R) (hW:2* (Lp.wide m n R+1)+5 <= Kd) (aq:Kd <= 65536) (ar:1+ (m+n)* (R+Kd+1) <= Kq /\ R <= Kq /\ Kd <= Kq) (hq:4*Kq <= 4000000) (hg:iG w) (ht:Tab w):
  Calls prog 19 #[.agg #[.slice AO n cO, .slice AR m cR]] w fun e w'=>JW w' n m Kd o t b e /\ Below w.heap.size w w':=by
 have HO:=lH ho;have HR:=lH hr;have H0:=lH h0;have T:=lH (And.intro ay (And.intro az ax));have HK:=lH (And.intro ap Z);have a2:=lH (And.intro hW (And.intro aq (And.intro ar hq)));have a0:=lH (mo h0);have aJ:=lH hg;have aL:=lH ht;clear ho hr h0 ap Z ay az ax hW aq ar hq hg ht;obtain⟨W,hW,Y,G,F⟩:=eN2 w [.slice AO n cO, .slice AR m cR] 25 [.int .i64 0, .string ⟨#[]⟩, .slice none 0 0, .slice none 0 0, .slice none 0 0] 32;go_enter func19,ntmps19;obtain⟨aF,aG⟩:=aT2 Y.o;have aH:=Y.o.lt;rw[hW] at aF aG aH;go_wp2_with fail
 rw[<- hW];clear hW aF aG aH;refine(Ct AO AR n m cO cR k o t b R _ (HO.o.below F.o) (HR.o.below F.o) (by have:=a0.o.1;omega) (by have:=a0.o.2.1;omega) (fun j X=>Nat.le_trans (T.o.1 j X) HK.o.2) (fun i hi j X=>Nat.le_trans (T.o.2.1 i hi j X) HK.o.2) (fun i hi=>Nat.le_trans (T.o.2.2 i hi) HK.o.2) HK.o.1 (by have:=a2.o.1;have:=a2.o.2.1;omega) T.o.1 T.o.2.1 T.o.2.2 (aL.o.below F.o) (aJ.o.below F.o)).mono ?_;rintro e w1 ⟨hs,hb⟩;replace Y:=rW Y hb;replace G:=rW G hb;replace F:=bT F hb;clear hb
 rcases hs with ⟨h0,_⟩ | ⟨_,A,bq,c,v,aA,hv,rfl⟩
 ·exact absurd H0.o h0
 obtain⟨O,hO,a6,aw,aD,au,q,x,y,d,av,aB⟩:=hv.tx;obtain⟨AP,cP,AY,cY,AD,cD,rfl,hp,hy,hd⟩:=hO.shape;replace a6:=a6.mono a2.o.1;have ac:=lH a6;have ad:=lH aw;have a5:=lH aD;have af:=lH aA;have a3:=lH av;have ag:=lH aB;have HP:=lH hp;have HY:=lH hy;have HD:=lH hd;clear hv hO a6 aw aD aA av aB hp hy hd;have aK:Hid (∀a9:Nat,ou n m k o t b O a9 -> a9=0):=lH (fun a9 h=>Ci h H0.o ad.o a5.o au af.o a3.o ag.o);clear au;have aC:=G.o.lt;obtain⟨w2,a8⟩:=eX (w1.alloc (.cells #[.int .i64 O.kk, .string O.s, .slice AP O.np cP, .slice AY O.ny cY, .slice AD O.nd cD] 32));obtain⟨gO,a7⟩:=eX (w1.heap.size);have a1:Below w1.heap.size w1 w2:=by rw[a8];exact eD _ _
 have OB:Hid (Row w2 gO 32 [.int .i64 O.kk, .string O.s, .slice AP O.np cP, .slice AY O.ny cY, .slice AD O.nd cD]):=lH (by rw[a8,a7];exact eP _ _);replace Y:=rW Y a1;replace G:=rW G a1;replace HP:=lH (HP.o.below a1);replace HY:=lH (HY.o.below a1);replace HD:=lH (HD.o.below a1);replace F:=bT F a1;have M:Hid (w.heap.size+1<gO):=lH (by rw[a7];exact aC);clear aC;go_wp2_with fail
 rw[<- a8, <- a7];clear a8 a7 a1;go_wp2_with fail
 have a4:=rG w2;have aN:=Y.o.lt;obtain⟨aj,al⟩:=aT2 Y.o;have aM:=OB.o.lt;obtain⟨ai,ak,am,an,ao⟩:=aT5 OB.o;have KS:=lH (kC aj (kC al (kC ai (kC ak (kC am (kC an (kN ao)))))));clear aN aj al aM ai ak am an ao;refine rL KS.o (fun i=>false) ?_;have E:=KS.o _ a4.o;refine tKs 0 11 E ?_;refine tKs 1 12 E ?_;refine tKs 2 13 E ?_;refine tKs 3 14 E ?_;refine tKs 4 15 E ?_;refine tKs 5 16 E ?_;refine rD 6 (fun K Z=> ?_);go_simp;refine(wO AO AR n m cO cR k o t b R Kd Kq O AP AY AD cP cY cD _ (HO.o.below F.o.drew) (HR.o.below F.o.drew) (by have:=a0.o.1;omega) (by have:=a0.o.2.1;omega) T.o.1 T.o.2.1 T.o.2.2 HK.o.2 a2.o.2.1 (HP.o.below (Below.refl _ _).drew) (HY.o.below (Below.refl _ _).drew) (HD.o.below (Below.refl _ _).drew) ⟨by have:=(q8 a5.o).1;have:=a0.o.1;omega,by have:=(q8 a5.o).2.1;have:=a0.o.2.1;omega,by have:=(q8 a5.o).2.2;have:=a0.o.1;omega⟩ ac.o a2.o.2.2.1 a2.o.2.2.2).mono ?_;rintro e w3 ⟨⟨c1,rfl,aE⟩,U⟩;have U:Below w2.heap.size w2 w3:=bD U;replace HP:=lH (HP.o.below U);replace HY:=lH (HY.o.below U);replace HD:=lH (HD.o.below U);replace G:=rW G U;replace F:=bT F U;replace a4:=bT a4 U;obtain rfl:=aK.o _ aE;clear aE;clear E U;have E:=KS.o _ a4.o;refine kH Z E ?_;clear Z K;refine tKs 7 18 E ?_;refine tKs 8 19 E ?_;obtain⟨r0,f0,r1,f1,r2,f2,r3,f3,r4,f4⟩:=aF5 G.o;have rl:=G.o.lt;refine rD 9 (fun K Z=> ?_);go_simp;refine Z.out _ _ (fun _=>⟨fP (iJ _ _ _ _ _ _ _) oM E.1,fP (iJ _ _ _ _ _ _ _) oM E.2.1,fP (iJ _ _ _ _ _ _ _) (by have:=M.o;omega) E.2.2.1,fP (iJ _ _ _ _ _ _ _) (by have:=M.o;omega) E.2.2.2.1,fP (iJ _ _ _ _ _ _ _) (by have:=M.o;omega) E.2.2.2.2.1,fP (iJ _ _ _ _ _ _ _) (by have:=M.o;omega) E.2.2.2.2.2.1,fP (iJ _ _ _ _ _ _ _) (by have:=M.o;omega) E.2.2.2.2.2.2⟩) ?_;clear Z K;refine tKs 10 3 ⟨fP (iJ _ _ _ _ _ _ _) oM E.1,fP (iJ _ _ _ _ _ _ _) oM E.2.1,fP (iJ _ _ _ _ _ _ _) (by have:=M.o;omega) E.2.2.1,fP (iJ _ _ _ _ _ _ _) (by have:=M.o;omega) E.2.2.2.1,fP (iJ _ _ _ _ _ _ _) (by have:=M.o;omega) E.2.2.2.2.1,fP (iJ _ _ _ _ _ _ _) (by have:=M.o;omega) E.2.2.2.2.2.1,fP (iJ _ _ _ _ _ _ _) (by have:=M.o;omega) E.2.2.2.2.2.2⟩ ?_;refine dN ?_ _;clear E KS a4;clear rl r0 f0 r1 f1 r2 f2 r3 f3 r4 f4;go_wp2_with fail
 have hg:=iJ w3 (w.heap.size+1) (.int .i64 O.kk) (.string O.s) (.slice AP O.np cP) (.slice AY O.ny cY) (.slice AD O.nd cD);have RE:=G.o.nA (v0:= .int .i64 O.kk) (v1:= .string O.s) (v2:= .slice AP O.np cP) (v3:= .slice AY O.ny cY) (v4:= .slice AD O.nd cD);have aa:=F.o.grown hg F.o.size (by first | (simp;done) | (simp;omega));have ae:=HP.o.other hg G.o (fun j X h=>wX (a3.o.pt j X) (by simpa using h));have ah:=HY.o.other hg G.o (fun j X h=>wX (a3.o.du j X) (by simpa using h));have ab:=HD.o.other hg G.o (fun j X h=>wX (a3.o.ray j X) (by simpa using h));obtain⟨wE,aO⟩:=eX ((((((w3.setCell ⟨w.heap.size+1,0,none⟩ (.int .i64 O.kk)).setCell ⟨w.heap.size+1,1,none⟩ (.string O.s)).setCell ⟨w.heap.size+1,2,none⟩ (.slice AP O.np cP)).setCell ⟨w.heap.size+1,3,none⟩ (.slice AY O.ny cY)).setCell ⟨w.heap.size+1,4,none⟩ (.slice AD O.nd cD)));rw[<- aO] at RE aa ae ah ab ⊢;have k0:=RE.at_ 0 rfl;have k1:=RE.at_ 1 rfl;have k2:=RE.at_ 2 rfl;have k3:=RE.at_ 3 rfl;have k4:=RE.at_ 4 rfl;refine bodyPost_ret (v:= .tuple #[.agg #[.int .i64 O.kk, .string O.s, .slice AP O.np cP, .slice AY O.ny cY, .slice AD O.nd cD], .bool true]) (by simp[results,results19,go_sem,k0,k1,k2,k3,k4]) rfl ?_;exact⟨⟨O,_,rfl,⟨_,_,_,rfl,ae,ah,ab⟩,ac.o,ad.o,a5.o,A,bq,c,q,x,y,d,af.o,a3.o,ag.o⟩,aa⟩
end
section
open Go.RowKit
set_option maxRecDepth 100000 in
set_option maxHeartbeats 12800000 in
theorem CJ(w:World):Calls prog 26 #[.agg #[.int .i64 0, .string ⟨#[]⟩, .slice none 0 0, .slice none 0 0, .slice none 0 0]] w fun e w'=>e= .returned (.bool true) /\ Below w.heap.size w w':=by
 obtain⟨W,t,h,E⟩:=eN1 w [.int .i64 0, .string ⟨#[]⟩, .slice none 0 0, .slice none 0 0, .slice none 0 0] 32;go_enter func26,ntmps26;obtain⟨F,G,M,O,R⟩:=aT5 h.o;have T:=h.o.lt;rw[t] at F G M O R T;go_wp2_with fail
 try rw[<- t]
 go_returns;exact⟨rfl,E.o⟩
end
end Go.Proofs.YtdefghfjhgmpfaaGreatDoor
