/- Parts of this proof: RWith LFeas Solved None_. -/
import Derived.Test.YtdefghfjhgmpfaaGreatDoorMAE
import Derived.Test.YtdefghfjhgmpfaaGreatDoorMBQ
import Derived.Test.YtdefghfjhgmpfaaGreatDoorMBK
import Derived.Test.YtdefghfjhgmpfaaGreatDoorMAV
import Derived.Test.YtdefghfjhgmpfaaGreatDoorMBI
import Derived.Test.YtdefghfjhgmpfaaGreatDoorMBR
import Derived.Test.YtdefghfjhgmpfaaGreatDoorMAY
namespace Go.Proofs.YtdefghfjhgmpfaaGreatDoor
open Go.Proofs.Tryz
section
open Go.RowKit
open Lp (RL upd eu)
def wV(w':World)(v:Int)(AR:Option Addr)(m cR:Nat)(k:Nat -> Nat)(t:Nat -> Nat -> ByteArray)(b:Nat -> ByteArray)(e:Ending):Prop:=
 ((v<0 \/ 96<v) /\ e= .returned (.tuple #[.agg #[.slice none 0 0, .slice none 0 0], .int .i64 2])) \/
 (0 <= v /\ v <= 96 /\ ∃AO cO,e= .returned (.tuple #[.agg #[.slice AO v.toNat cO, .slice AR m cR], .int .i64 (fD v.toNat m k (fun _=>⟨#[48]⟩) t b:Nat)]) /\ fH w' (.slice AO v.toNat cO) v.toNat (fun _=>⟨#[48]⟩))
def jF(v:Int)(m:Nat)(k:Nat -> Nat)(t:Nat -> Nat -> ByteArray)(b:Nat -> ByteArray):Nat:=if v<0 \/ 96<v then 2 else fD v.toNat m k (fun _=>⟨#[48]⟩) t b
set_option maxRecDepth 100000 in
set_option maxHeartbeats 6400000 in
theorem CF(v:Int)(E:Option Addr)(m F:Nat)(k:Nat -> Nat)(t:Nat -> Nat -> ByteArray)(b:Nat -> ByteArray)(w:World)(hr:fZ w (.slice E m F) m k t b)(hf:RowsFit m k t b):
  Calls prog 23 #[.int .i64 v, .slice E m F] w fun e w'=>wV w' v E m F k t b e /\ Below w.heap.size w w':=by
 have HR:=lH hr;have HF:=lH hf;obtain⟨iN,ao,au,av,aw⟩:=info_parts qW;clear hr hf;obtain⟨W,O,h,r⟩:=eN1 w [.slice none 0 0, .slice none 0 0] 25;go_enter func23,ntmps23;by_cases h0:v<0
 ·have HV:Hid (v<0 \/ 96<v):=lH (.inl h0);have ac:decide (v<0)=true:=decide_eq_true h0;obtain⟨r0,G,r1,X⟩:=aF2 h.o;have R:=h.o.lt;rw[O] at r0 r1 G X R;go_wp2_with fail
  rw[<- O];clear O R r0 G r1 X;obtain⟨k0,k1⟩:=aT2 h.o;refine bodyPost_ret (v:= .tuple #[.agg #[.slice none 0 0, .slice none 0 0], .int .i64 2]) (by simp[results,results23,go_sem,k0,k1]) rfl ?_;exact⟨.inl ⟨HV.o,rfl⟩,r.o⟩
 ·by_cases a2:96<v
  ·have HV:Hid (v<0 \/ 96<v):=lH (.inr a2);have ac:decide (v<0)=false:=decide_eq_false h0;have an:decide (96<v)=true:=decide_eq_true a2;obtain⟨r0,G,r1,X⟩:=aF2 h.o;have R:=h.o.lt;rw[O] at r0 r1 G X R;go_wp2_with fail
   rw[<- O];clear O R r0 G r1 X;obtain⟨k0,k1⟩:=aT2 h.o;refine bodyPost_ret (v:= .tuple #[.agg #[.slice none 0 0, .slice none 0 0], .int .i64 2]) (by simp[results,results23,go_sem,k0,k1]) rfl ?_;exact⟨.inl ⟨HV.o,rfl⟩,r.o⟩
  ·obtain⟨n,rfl⟩:∃n:Nat,v=n:=⟨v.toNat,by omega⟩
   have ac:decide (((n:Nat):Int)<0)=false:=decide_eq_false h0;have an:decide ((96:Int)<((n:Nat):Int))=false:=decide_eq_false a2;have ay:decide (96<n)=false:=decide_eq_false oM;have hn:n <= 96:=oM
   have ak:=lH hn;clear h0 a2;obtain⟨w3,a1⟩:=eX (W.alloc (.cells #[.slice none 0 0, .slice E m F] 25));have aj:W.heap.size=w.heap.size+1:=by rw[O];simp
   have a3:Below W.heap.size W w3:=by rw[a1];exact eD _ _
   have C:Hid (Row w3 (w.heap.size+1) 25 [.slice none 0 0, .slice E m F]):=lH (by rw[a1, <- aj];exact eP _ _);replace h:=rW h a3;replace r:=bT r a3;have R:=h.o.lt;rw[a1,O] at R;go_wp2_with fail
   rw[<- O, <- a1];clear a1 aj a3 R O;have a6:=C;have a7:=h;have a4:=r;clear C h r
   go_loopw [7] (fun iv wr=>∃ (q:Nat) (B:Option Addr) (d:Nat),q <= n /\ iv= .int .i64 q /\ Row wr (w.heap.size+1) 25 [.slice B q d, .slice E m F] /\ fH wr (.slice B q d) q (fun _=>⟨#[48]⟩) /\ Hid (∀g,(Value.slice B q d).ownBlock=some g -> w.heap.size <= g) /\ Row wr w.heap.size 25 [.slice none 0 0, .slice none 0 0] /\ Below w.heap.size w wr)
    (fun iv _=>n-(intOf iv).toNat)
   case atStart=>exact⟨0,none,0,Nat.zero_le _,rfl,a6.o,fH.nil _ _,lH (fun g V=>by simp[Value.ownBlock] at V),a7.o,a4.o⟩
   case round=>
    clear a6 a7 a4;obtain⟨q,B,d,hq,rfl,af,ae,ad,ai,ab⟩:=hrel;have C:=lH af;have M:=lH ae;have LO:=lH ad.o;have h:=lH ai;have r:=lH ab;clear af ae ad ai ab;by_cases az:((q:Nat):Int)<((n:Nat):Int)
    ·have aA:q<n:=oM
     obtain⟨q0,q1⟩:=aT2 C.o;have G:=C.o.free 0;have ql:=C.o.lt
     go_wp2_with (at_builtin;(refine wpList_plain rfl fun K Y=>qO _ (.tmp 23) (.tmp 24) 22 rfl 30 iN (.string ⟨#[]⟩) 16 underlying22 ao au av aw rfl (.slice B q d) q _ rfl M.o (.string ⟨#[48]⟩) rfl rfl rfl ⟨by unfold maxLen;omega,by omega⟩ ?_))
     clear q0 q1 G ql;intro va w5 ho ht;obtain⟨T,U,aq,_,_⟩:=eY.shape ho;subst aq;have ag:(Value.slice B q d).ownBlock≠some (w.heap.size+1):=fun e=>by obtain⟨_,hx⟩:=eY.row M.o e;exact absurd (C.o.ty hx) dC
     have ah:(Value.slice B q d).ownBlock≠some w.heap.size:=fun e=>by obtain⟨_,hx⟩:=eY.row M.o e;exact absurd (h.o.ty hx) dC
     replace C:=lH (C.o.turned ht ag);replace h:=lH (h.o.turned ht ah);have aa:=ht.below (B:=w.heap.size) r.o.size LO.o;have al:=lH (ht.base r.o.size LO.o);replace r:=lH (r.o.trans aa);have a5:Hid (fH w5 (.slice T (q+1) U) (q+1) (fun _=>⟨#[48]⟩)):=lH ho;clear aa ht ho ag ah M LO;refine Y _ _ ?_;have q0:=aI 0 C;have G:=C.o.free 0;have ql:=C.o.lt;go_wp2_with fail
     clear q0 G ql;have V:World.grownBy w5 (w5.setCell ⟨w.heap.size+1,0,none⟩ (.slice T (q+1) U)) (some (w.heap.size+1)):=grownBy_set _ _ _ _;have QN:Row (w5.setCell ⟨w.heap.size+1,0,none⟩ (.slice T (q+1) U)) (w.heap.size+1) 25 [.slice T (q+1) U, .slice E m F]:=C.o.set 0 (.slice T (q+1) U);have ON:fH (w5.setCell ⟨w.heap.size+1,0,none⟩ (.slice T (q+1) U)) (.slice T (q+1) U) (q+1) (fun _=>⟨#[48]⟩):=eY.other a5.o V (fun e1=>by obtain⟨_,hx⟩:=eY.row a5.o e1;exact absurd (C.o.ty hx) dC);have RN:=h.o.other V oM;have HN:=r.o.grown V r.o.size (by first | (simp;done) | (simp;omega));go_roundw
     case rel=>exact⟨q+1,T,U,by omega,by go_num,QN,ON,al,RN,HN⟩
     case measure=>exact mZ
    ·have ap:n=q:=oM
     subst ap;have ax:=lH (fH.ts M.o);go_wp2_with fail
     have a0:=rG wr;have am:=C.o.lt;obtain⟨a8,a9⟩:=aT2 C.o;have KS:=lH (kC a8 (kN a9));clear am a8 a9;refine rL KS.o (fun i=>decide (3 <= i)) ?_;have hh:=KS.o _ a0.o;refine tKs 0 27 hh ?_;refine tKs 1 28 hh ?_;refine rD 2 (fun K Y=> ?_);go_simp;refine(ry B E n m d F k (fun _=>⟨#[48]⟩) t b _ (by exact fH.ts M.o) (by exact fZ.below (HR.o.below r.o) (Below.refl _ _).drew) (by have:=ak.o;omega) HF.o.1 (fun j _=>by show(1:Nat) <= 65536;omega) HF.o.2.1 HF.o.2.2).mono ?_;rintro e w9 ⟨rfl,Z⟩;have Z:Below wr.heap.size wr w9:=bD Z;replace h:=rW h Z;replace r:=bT r Z;replace a0:=bT a0 Z;replace M:Hid (fH w9 (.slice B n d) n (fun _=>⟨#[48]⟩)):=lH (eY.below M.o Z);clear hh Z;have hh:=KS.o _ a0.o;refine kH Y hh ?_;clear Y K;obtain⟨r0,r1⟩:=aT2 h.o;have G:=h.o.free 0;have X:=h.o.free 1;have R:=h.o.lt;refine rD 3 (fun K Y=> ?_);go_simp;refine kL Y ?_;clear Y K;refine tWs 4 5 ?_;refine dN ?_ _;clear hh KS a0;clear r0 r1 G X R;go_wp2_with fail
     have V:World.grownBy w9 ((w9.setCell ⟨w.heap.size,0,none⟩ (.slice B n d)).setCell ⟨w.heap.size,1,none⟩ (.slice E m F)) (some w.heap.size):=grownBy_trans (grownBy_set _ _ _ _) (grownBy_set _ _ _ _);have RE:Row ((w9.setCell ⟨w.heap.size,0,none⟩ (.slice B n d)).setCell ⟨w.heap.size,1,none⟩ (.slice E m F)) w.heap.size 25 [.slice B n d, .slice E m F]:=(h.o.set 0 (.slice B n d)).set 1 (.slice E m F);have ON:fH ((w9.setCell ⟨w.heap.size,0,none⟩ (.slice B n d)).setCell ⟨w.heap.size,1,none⟩ (.slice E m F)) (.slice B n d) n (fun _=>⟨#[48]⟩):=eY.other M.o V (fun e1=>by obtain⟨_,hx⟩:=eY.row M.o e1;exact absurd (h.o.ty hx) dC);have HN:=r.o.grown V r.o.size (by first | (simp;done) | (simp;omega));obtain⟨wE,ar⟩:=eX (((w9.setCell ⟨w.heap.size,0,none⟩ (.slice B n d)).setCell ⟨w.heap.size,1,none⟩ (.slice E m F)));rw[<- ar] at RE ON HN ⊢;have k0:=RE.at_ 0 rfl;have k1:=RE.at_ 1 rfl;refine bodyPost_ret (v:= .tuple #[.agg #[.slice B n d, .slice E m F], .int .i64 (fD n m k (fun _=>⟨#[48]⟩) t b:Nat)]) (by simp[results,results23,go_sem,k0,k1]) rfl ?_;exact⟨.inr ⟨by omega,by omega,B,d,rfl,ON⟩,HN⟩
end
section
open Go.RowKit
open Lp (RL upd eu)
def wW(w':World)(v:Int)(m K:Nat)(k:Nat -> Nat)(t:Nat -> Nat -> ByteArray)(b:Nat -> ByteArray)(e:Ending):Prop:=
 (jF v m k t b≠0 /\ e= .returned (.tuple #[.agg #[.int .i64 0, .string ⟨#[]⟩, .slice none 0 0, .slice none 0 0, .slice none 0 0], .int .i64 (jF v m k t b:Nat)])) \/
 (jF v m k t b=0 /\ ∃A bq c V,jk v.toNat m (fun _=>⟨#[48]⟩) t b A bq c /\ iA w' m v.toNat K A bq c V /\ e= .returned (.tuple #[V, .int .i64 0]))
theorem JV{w:World}{v:Int}{m:Nat}{k:Nat -> Nat}{t:Nat -> Nat -> ByteArray}{b:Nat -> ByteArray}{e:Ending}(h:Cu w v m k t b e):
  (jF v m k t b≠0 /\ e= .returned (.tuple #[.agg #[.slice none 0 0, .slice none 0 0, .slice none 0 0], .int .i64 (jF v m k t b:Nat)])) \/
  (jF v m k t b=0 /\ fD v.toNat m k (fun _=>⟨#[48]⟩) t b=0 /\ v=(v.toNat:Int) /\ ∃F r G O C R A M c,e= .returned (.tuple #[.agg #[.slice F v.toNat O, .slice r m C, .slice G m R], .int .i64 0]) /\
   eZ w (.slice F v.toNat O) v.toNat c /\ iD w (.slice r m C) m v.toNat A /\ eZ w (.slice G m R) m M /\ jk v.toNat m (fun _=>⟨#[48]⟩) t b A M c /\ RowsIn w (.slice r m C) m):=by
 unfold jF
 rcases h with ⟨h,E⟩ | ⟨h1,Y,h⟩
 ·rw[if_pos h];exact .inl ⟨by decide,E⟩
 ·rw[if_neg oM]
  rcases h with ⟨h0,E⟩ | ⟨h0,F,r,G,O,C,R,A,M,c,E,X,T,U,V,W⟩
  ·exact .inl ⟨h0,E⟩
  ·exact .inr ⟨h0,h0,by omega,F,r,G,O,C,R,A,M,c,E,X,T,U,V,W⟩
set_option maxRecDepth 100000 in
set_option maxHeartbeats 12800000 in
theorem CG(v:Int)(AR:Option Addr)(m cR:Nat)(k:Nat -> Nat)(t:Nat -> Nat -> ByteArray)(b:Nat -> ByteArray)(M:Nat)(w:World)(hr:fZ w (.slice AR m cR) m k t b)(hf:RowsFit m k t b)
  (ad:0<M) (hK:jF v m k t b=0 -> Lp.wide m v.toNat M+1 <= 1000000) (af:∀i,i<m -> ∀j,j<k i -> (t i j).size <= M) (ae:∀i,i<m -> (b i).size <= M) (ht:Tab w) (T:iG w):
  Calls prog 24 #[.int .i64 v, .slice AR m cR] w fun e w'=>wW w' v m (Lp.wide m v.toNat M+1) k t b e /\ Below w.heap.size w w':=by
 have HR:=lH hr;have HF:=lH hf;have HL:=lH (And.intro af ae);have R:=lH (And.intro ad hK);have ah:=lH T;have ak:=lH ht;clear hr hf af ae ad hK T ht;obtain⟨W,hW,r,h⟩:=eN1 w [.int .i64 0, .string ⟨#[]⟩, .slice none 0 0, .slice none 0 0, .slice none 0 0] 32;go_enter func24,ntmps24;go_wp2_with fail
 rw[<- hW];clear hW;refine(Jl v AR m cR k t b _ (HR.o.below h.o) HF.o (ah.o.below h.o)).mono ?_;rintro e O ⟨hr,E⟩;replace r:=rW r E;replace h:=bT h E;clear E
 rcases JV hr with ⟨h0,rfl⟩ | ⟨h0,a3,am,AC,AS,AD,cC,cS,cD,A,bq,c,rfl,hc,hA,hD,hP,_⟩
 ·obtain⟨cc,a2⟩:=eX (jF v m k t b);rw[<- a2] at h0 ⊢;have al:((cc:Nat):Int)≠0:=oM
  have an:(((cc:Nat):Int) !=0)=true:=by simpa using al
  have ao:(cc !=0)=true:=by simpa using h0
  have ag:=lH h0;have aa:=lH a2;clear h0 a2;obtain⟨U,G⟩:=eX (O.alloc (.cells #[.slice none 0 0, .slice none 0 0, .slice none 0 0] 98));obtain⟨gQ,X⟩:=eX (O.heap.size);have F:Below O.heap.size O U:=by rw[G];exact eD _ _
  have QB:Hid (Row U gQ 98 [.slice none 0 0, .slice none 0 0, .slice none 0 0]):=lH (by rw[G,X];exact eP _ _);replace r:=rW r F;replace h:=bT h F
  go_upto_region 3 with (fail)
  rw[<- G];clear G F X;obtain⟨r0,f0,r1,f1,r2,f2,r3,f3,r4,f4⟩:=aF5 r.o;have rl:=r.o.lt;go_wp2_with fail
  clear rl r0 f0 r1 f1 r2 f2 r3 f3 r4 f4;have T:=iJ U w.heap.size (.int .i64 0) (.string ⟨#[]⟩) (.slice none 0 0) (.slice none 0 0) (.slice none 0 0);have C:=r.o.nA (v0:= .int .i64 0) (v1:= .string ⟨#[]⟩) (v2:= .slice none 0 0) (v3:= .slice none 0 0) (v4:= .slice none 0 0);have Y:=h.o.grown T h.o.size (by first | (simp;done) | (simp;omega));obtain⟨wE,a5⟩:=eX ((((((U.setCell ⟨w.heap.size,0,none⟩ (.int .i64 0)).setCell ⟨w.heap.size,1,none⟩ (.string ⟨#[]⟩)).setCell ⟨w.heap.size,2,none⟩ (.slice none 0 0)).setCell ⟨w.heap.size,3,none⟩ (.slice none 0 0)).setCell ⟨w.heap.size,4,none⟩ (.slice none 0 0)));rw[<- a5] at C Y ⊢;have k0:=C.at_ 0 rfl;have k1:=C.at_ 1 rfl;have k2:=C.at_ 2 rfl;have k3:=C.at_ 3 rfl;have k4:=C.at_ 4 rfl;refine bodyPost_ret (v:= .tuple #[.agg #[.int .i64 0, .string ⟨#[]⟩, .slice none 0 0, .slice none 0 0, .slice none 0 0], .int .i64 (cc:Nat)]) (by simp[results,results24,go_sem,k0,k1,k2,k3,k4]) rfl ?_;exact⟨.inl ⟨by rw[<- aa.o];exact ag.o,by rw[<- aa.o]⟩,Y⟩
 ·replace R:=lH (And.intro R.o.1 (R.o.2 h0));have ai:=lH h0;have aj:=lH a3;have ab:=lH hP;have HC:=lH hc;have HA:=lH hA;have HD:=lH hD;have a0:=lH (mo a3);clear h0 a3 hP hc hA hD am;obtain⟨U,G⟩:=eX (O.alloc (.cells #[.slice AC v.toNat cC, .slice AS m cS, .slice AD m cD] 98));obtain⟨gQ,X⟩:=eX (O.heap.size);have F:Below O.heap.size O U:=by rw[G];exact eD _ _
  have QB:Hid (Row U gQ 98 [.slice AC v.toNat cC, .slice AS m cS, .slice AD m cD]):=lH (by rw[G,X];exact eP _ _);replace r:=rW r F;replace HC:=lH (HC.o.below F);replace HA:=lH (HA.o.below F);replace HD:=lH (HD.o.below F);replace h:=bT h F;obtain⟨a6,a7,a8⟩:=aT3 QB.o;have a9:=QB.o.lt;rw[G] at a6 a7 a8 a9;rw[X] at a6 a7 a8 a9;go_wp2_with fail
  rw[<- G];clear G F X a6 a7 a8 a9;have a1:=lH (pO aj.o ab.o (fun j _=>by show 1 <= M;exact R.o.1) HL.o.1 HL.o.2);refine(Cr AC AS AD v.toNat m cC cS cD M A bq c _ HC.o (by exact a1.o.1) (by exact HA.o) (by exact HD.o) (by have:=a0.o.1;omega) (by have:=a0.o.2.1;omega) a1.o.2.1 a1.o.2.2 R.o.1 (by have:=R.o.2;omega)).mono ?_;rintro e w3 ⟨V,rfl,hv,E⟩;have HV:=lH hv;clear hv;replace r:=rW r E;replace h:=bT h E;clear E;go_wp2_with fail
  refine(Cs m v.toNat (Lp.wide m v.toNat M+1) A bq c V _ HV.o (by have:=a0.o.2.1;omega) (by have:=a0.o.1;omega) R.o.2 (ak.o.below h.o)).mono ?_;rintro e w4 ⟨v2,rfl,a4,E⟩;replace r:=rW r E;replace h:=bT h E;clear E;clear HV;obtain⟨kk,s0,Z,n0,c0,A1,n1,c1,A2,n2,c2,rfl⟩:=a4.shape;have HV:=lH a4;clear a4;obtain⟨r0,f0,r1,f1,r2,f2,r3,f3,r4,f4⟩:=aF5 r.o;have rl:=r.o.lt;go_wp2_with fail
  clear rl r0 f0 r1 f1 r2 f2 r3 f3 r4 f4;have T:=iJ w4 w.heap.size (.int .i64 kk) (.string s0) (.slice Z n0 c0) (.slice A1 n1 c1) (.slice A2 n2 c2);have C:=r.o.nA (v0:= .int .i64 kk) (v1:= .string s0) (v2:= .slice Z n0 c0) (v3:= .slice A1 n1 c1) (v4:= .slice A2 n2 c2);have Y:=h.o.grown T h.o.size (by first | (simp;done) | (simp;omega));have ac:=HV.o.other T r.o (fun z hz=>by simpa using hz);obtain⟨wE,a5⟩:=eX ((((((w4.setCell ⟨w.heap.size,0,none⟩ (.int .i64 kk)).setCell ⟨w.heap.size,1,none⟩ (.string s0)).setCell ⟨w.heap.size,2,none⟩ (.slice Z n0 c0)).setCell ⟨w.heap.size,3,none⟩ (.slice A1 n1 c1)).setCell ⟨w.heap.size,4,none⟩ (.slice A2 n2 c2)));rw[<- a5] at C Y ac ⊢;have k0:=C.at_ 0 rfl;have k1:=C.at_ 1 rfl;have k2:=C.at_ 2 rfl;have k3:=C.at_ 3 rfl;have k4:=C.at_ 4 rfl;refine bodyPost_ret (v:= .tuple #[.agg #[.int .i64 kk, .string s0, .slice Z n0 c0, .slice A1 n1 c1, .slice A2 n2 c2], .int .i64 0]) (by simp[results,results24,go_sem,k0,k1,k2,k3,k4]) rfl ?_;exact⟨.inr ⟨ai.o,A,bq,c,_,ab.o,ac,rfl⟩,Y⟩
end
section
open Go.RowKit
open Lp (RL upd eu)
def JW(w:World)(n m Kd:Nat)(o:Nat -> ByteArray)(t:Nat -> Nat -> ByteArray)(b:Nat -> ByteArray)(e:Ending):Prop:=
 ∃ (O:OTx) (v:Value),e= .returned (.tuple #[v, .bool true]) /\ mE w v O /\ O.Fit Kd /\ (1 <= O.kk /\ O.kk <= 3) /\ O.iE n m /\
  ∃A bq c q x y d,jk n m o t b A bq c /\ O.Is q x y d /\ kI m n O.kk A bq c q x y d
theorem wX{s:ByteArray}{q:Rat}(h:s.data.toList=fA q):s≠⟨#[]⟩:=fun e=>BV q ((jE h).symm.trans e)
theorem q8{O:OTx}{n m:Nat}(h:O.iE n m):O.np <= n /\ O.ny <= m /\ O.nd <= n:=by
 obtain⟨h1,r,t,_⟩:=h;refine⟨?_,?_,?_⟩
 ·rw[h1];split <;> omega
 ·rw[r];split <;> omega
 ·rw[t];split <;> omega
theorem mE.shape{w:World}{v:Value}{O:OTx}(h:mE w v O):∃t F C G r E,v= .agg #[.int .i64 O.kk, .string O.s, .slice t O.np F, .slice C O.ny G, .slice r O.nd E] /\ TSA w (.slice t O.np F) O.np O.p /\ TSA w (.slice C O.ny G) O.ny O.y /\ TSA w (.slice r O.nd E) O.nd O.d:=by
 obtain⟨V,W,U,rfl,R,T,M⟩:=h;obtain⟨t,F,rfl,_,_⟩:=R.1.shape;obtain⟨C,G,rfl,_,_⟩:=T.1.shape;obtain⟨r,E,rfl,_,_⟩:=M.1.shape;exact⟨t,F,C,G,r,E,rfl,R,T,M⟩
set_option maxRecDepth 100000 in
set_option maxHeartbeats 12800000 in
theorem K6(AO AR:Option Addr)(n m cO cR:Nat)(k:Nat -> Nat)(o:Nat -> ByteArray)(t:Nat -> Nat -> ByteArray)(b:Nat -> ByteArray)(G Kd Kq:Nat)(w:World)(ho:TS w (.slice AO n cO) n o)(hr:fZ w (.slice AR m cR) m k t b)(h0:fD n m k o t b=0)
  (ap:0<G) (V:G <= 65536) (ay:∀j,j<n -> (o j).size <= G) (az:∀i,i<m -> ∀j,j<k i -> (t i j).size <= G) (ax:∀i,i<m -> (b i).size <= G) (hW:2* (Lp.wide m n G+1)+5 <= Kd) (aq:Kd <= 65536) (ar:1+ (m+n)* (G+Kd+1) <= Kq /\ G <= Kq /\ Kd <= Kq) (hq:4*Kq <= 1000000) (hg:iG w) (ht:Tab w):
  Calls prog 19 #[.agg #[.slice AO n cO, .slice AR m cR]] w fun e w'=>JW w' n m Kd o t b e /\ Below w.heap.size w w':=by
 have HO:=lH ho;have HR:=lH hr;have H0:=lH h0;have M:=lH (And.intro ay (And.intro az ax));have HK:=lH (And.intro ap V);have a2:=lH (And.intro hW (And.intro aq (And.intro ar hq)));have a0:=lH (mo h0);have aJ:=lH hg;have aL:=lH ht;clear ho hr h0 ap V ay az ax hW aq ar hq hg ht;obtain⟨W,hW,U,E,C⟩:=eN2 w [.slice AO n cO, .slice AR m cR] 25 [.int .i64 0, .string ⟨#[]⟩, .slice none 0 0, .slice none 0 0, .slice none 0 0] 32;go_enter func19,ntmps19;obtain⟨aF,aG⟩:=aT2 U.o;have aH:=U.o.lt;rw[hW] at aF aG aH;go_wp2_with fail
 rw[<- hW];clear hW aF aG aH;refine(Ct AO AR n m cO cR k o t b G _ (HO.o.below C.o) (HR.o.below C.o) (by have:=a0.o.1;omega) (by have:=a0.o.2.1;omega) (fun j T=>Nat.le_trans (M.o.1 j T) HK.o.2) (fun i hi j T=>Nat.le_trans (M.o.2.1 i hi j T) HK.o.2) (fun i hi=>Nat.le_trans (M.o.2.2 i hi) HK.o.2) HK.o.1 (by have:=a2.o.1;have:=a2.o.2.1;omega) M.o.1 M.o.2.1 M.o.2.2 (aL.o.below C.o) (aJ.o.below C.o)).mono ?_;rintro e w1 ⟨hs,hb⟩;replace U:=rW U hb;replace E:=rW E hb;replace C:=bT C hb;clear hb
 rcases hs with ⟨h0,_⟩ | ⟨_,A,bq,c,v,aA,hv,rfl⟩
 ·exact absurd H0.o h0
 obtain⟨O,hO,a6,aw,aD,au,q,x,y,d,av,aB⟩:=hv.tx;obtain⟨Y,cP,Z,cY,X,cD,rfl,hp,hy,hd⟩:=hO.shape;replace a6:=a6.mono a2.o.1;have ac:=lH a6;have ad:=lH aw;have a5:=lH aD;have af:=lH aA;have a3:=lH av;have ag:=lH aB;have HP:=lH hp;have HY:=lH hy;have HD:=lH hd;clear hv hO a6 aw aD aA av aB hp hy hd;have aK:Hid (∀a9:Nat,ou n m k o t b O a9 -> a9=0):=lH (fun a9 h=>Ci h H0.o ad.o a5.o au af.o a3.o ag.o);clear au;have aC:=E.o.lt;obtain⟨w2,a8⟩:=eX (w1.alloc (.cells #[.int .i64 O.kk, .string O.s, .slice Y O.np cP, .slice Z O.ny cY, .slice X O.nd cD] 32));obtain⟨gO,a7⟩:=eX (w1.heap.size);have a1:Below w1.heap.size w1 w2:=by rw[a8];exact eD _ _
 have OB:Hid (Row w2 gO 32 [.int .i64 O.kk, .string O.s, .slice Y O.np cP, .slice Z O.ny cY, .slice X O.nd cD]):=lH (by rw[a8,a7];exact eP _ _);replace U:=rW U a1;replace E:=rW E a1;replace HP:=lH (HP.o.below a1);replace HY:=lH (HY.o.below a1);replace HD:=lH (HD.o.below a1);replace C:=bT C a1;have F:Hid (w.heap.size+1<gO):=lH (by rw[a7];exact aC);clear aC;go_wp2_with fail
 rw[<- a8, <- a7];clear a8 a7 a1;go_wp2_with fail
 have a4:=rG w2;have aN:=U.o.lt;obtain⟨aj,al⟩:=aT2 U.o;have aM:=OB.o.lt;obtain⟨ai,ak,am,an,ao⟩:=aT5 OB.o;have KS:=lH (kC aj (kC al (kC ai (kC ak (kC am (kC an (kN ao)))))));clear aN aj al aM ai ak am an ao;refine rL KS.o (fun i=>false) ?_;have r:=KS.o _ a4.o;refine tKs 0 11 r ?_;refine tKs 1 12 r ?_;refine tKs 2 13 r ?_;refine tKs 3 14 r ?_;refine tKs 4 15 r ?_;refine tKs 5 16 r ?_;refine rD 6 (fun K V=> ?_);go_simp;refine(wO AO AR n m cO cR k o t b G Kd Kq O Y Z X cP cY cD _ (HO.o.below C.o.drew) (HR.o.below C.o.drew) (by have:=a0.o.1;omega) (by have:=a0.o.2.1;omega) M.o.1 M.o.2.1 M.o.2.2 HK.o.2 a2.o.2.1 (HP.o.below (Below.refl _ _).drew) (HY.o.below (Below.refl _ _).drew) (HD.o.below (Below.refl _ _).drew) ⟨by have:=(q8 a5.o).1;have:=a0.o.1;omega,by have:=(q8 a5.o).2.1;have:=a0.o.2.1;omega,by have:=(q8 a5.o).2.2;have:=a0.o.1;omega⟩ ac.o a2.o.2.2.1 a2.o.2.2.2).mono ?_;rintro e w3 ⟨⟨c1,rfl,aE⟩,R⟩;have R:Below w2.heap.size w2 w3:=bD R;replace HP:=lH (HP.o.below R);replace HY:=lH (HY.o.below R);replace HD:=lH (HD.o.below R);replace E:=rW E R;replace C:=bT C R;replace a4:=bT a4 R;obtain rfl:=aK.o _ aE;clear aE;clear r R;have r:=KS.o _ a4.o;refine kH V r ?_;clear V K;refine tKs 7 18 r ?_;refine tKs 8 19 r ?_;obtain⟨r0,f0,r1,f1,r2,f2,r3,f3,r4,f4⟩:=aF5 E.o;have rl:=E.o.lt;refine rD 9 (fun K V=> ?_);go_simp;refine V.out _ _ (fun _=>⟨fP (iJ _ _ _ _ _ _ _) oM r.1,fP (iJ _ _ _ _ _ _ _) oM r.2.1,fP (iJ _ _ _ _ _ _ _) (by have:=F.o;omega) r.2.2.1,fP (iJ _ _ _ _ _ _ _) (by have:=F.o;omega) r.2.2.2.1,fP (iJ _ _ _ _ _ _ _) (by have:=F.o;omega) r.2.2.2.2.1,fP (iJ _ _ _ _ _ _ _) (by have:=F.o;omega) r.2.2.2.2.2.1,fP (iJ _ _ _ _ _ _ _) (by have:=F.o;omega) r.2.2.2.2.2.2⟩) ?_;clear V K;refine tKs 10 3 ⟨fP (iJ _ _ _ _ _ _ _) oM r.1,fP (iJ _ _ _ _ _ _ _) oM r.2.1,fP (iJ _ _ _ _ _ _ _) (by have:=F.o;omega) r.2.2.1,fP (iJ _ _ _ _ _ _ _) (by have:=F.o;omega) r.2.2.2.1,fP (iJ _ _ _ _ _ _ _) (by have:=F.o;omega) r.2.2.2.2.1,fP (iJ _ _ _ _ _ _ _) (by have:=F.o;omega) r.2.2.2.2.2.1,fP (iJ _ _ _ _ _ _ _) (by have:=F.o;omega) r.2.2.2.2.2.2⟩ ?_;refine dN ?_ _;clear r KS a4;clear rl r0 f0 r1 f1 r2 f2 r3 f3 r4 f4;go_wp2_with fail
 have hg:=iJ w3 (w.heap.size+1) (.int .i64 O.kk) (.string O.s) (.slice Y O.np cP) (.slice Z O.ny cY) (.slice X O.nd cD);have RE:=E.o.nA (v0:= .int .i64 O.kk) (v1:= .string O.s) (v2:= .slice Y O.np cP) (v3:= .slice Z O.ny cY) (v4:= .slice X O.nd cD);have aa:=C.o.grown hg C.o.size (by first | (simp;done) | (simp;omega));have ae:=HP.o.other hg E.o (fun j T h=>wX (a3.o.pt j T) (by simpa using h));have ah:=HY.o.other hg E.o (fun j T h=>wX (a3.o.du j T) (by simpa using h));have ab:=HD.o.other hg E.o (fun j T h=>wX (a3.o.ray j T) (by simpa using h));obtain⟨wE,aO⟩:=eX ((((((w3.setCell ⟨w.heap.size+1,0,none⟩ (.int .i64 O.kk)).setCell ⟨w.heap.size+1,1,none⟩ (.string O.s)).setCell ⟨w.heap.size+1,2,none⟩ (.slice Y O.np cP)).setCell ⟨w.heap.size+1,3,none⟩ (.slice Z O.ny cY)).setCell ⟨w.heap.size+1,4,none⟩ (.slice X O.nd cD)));rw[<- aO] at RE aa ae ah ab ⊢;have k0:=RE.at_ 0 rfl;have k1:=RE.at_ 1 rfl;have k2:=RE.at_ 2 rfl;have k3:=RE.at_ 3 rfl;have k4:=RE.at_ 4 rfl;refine bodyPost_ret (v:= .tuple #[.agg #[.int .i64 O.kk, .string O.s, .slice Y O.np cP, .slice Z O.ny cY, .slice X O.nd cD], .bool true]) (by simp[results,results19,go_sem,k0,k1,k2,k3,k4]) rfl ?_;exact⟨⟨O,_,rfl,⟨_,_,_,rfl,ae,ah,ab⟩,ac.o,ad.o,a5.o,A,bq,c,q,x,y,d,af.o,a3.o,ag.o⟩,aa⟩
end
section
open Go.RowKit
set_option maxRecDepth 100000 in
set_option maxHeartbeats 12800000 in
theorem CJ(w:World):Calls prog 26 #[.agg #[.int .i64 0, .string ⟨#[]⟩, .slice none 0 0, .slice none 0 0, .slice none 0 0]] w fun e w'=>e= .returned (.bool true) /\ Below w.heap.size w w':=by
 obtain⟨W,r,h,t⟩:=eN1 w [.int .i64 0, .string ⟨#[]⟩, .slice none 0 0, .slice none 0 0, .slice none 0 0] 32;go_enter func26,ntmps26;obtain⟨C,E,F,G,M⟩:=aT5 h.o;have O:=h.o.lt;rw[r] at C E F G M O;go_wp2_with fail
 try rw[<- r]
 go_returns;exact⟨rfl,t.o⟩
end
end Go.Proofs.YtdefghfjhgmpfaaGreatDoor
