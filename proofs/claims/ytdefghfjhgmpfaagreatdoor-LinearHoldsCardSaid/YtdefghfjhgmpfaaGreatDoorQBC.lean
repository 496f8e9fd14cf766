/- Parts of this proof: Wrong. -/
import Derived.Test.YtdefghfjhgmpfaaGreatDoorQBB
namespace Go.Proofs.YtdefghfjhgmpfaaGreatDoor
open Go.RowKit
open Lp (RL upd Dict)
def LeastOf(o:Nat -> Nat)(row least:Int):Prop:=(row= -1 /\ least= -1) \/ ∃x:Nat,row=(x:Nat) /\ least=(o x:Nat)
def WrongC(n m k:Nat)(D:Dict)(row col least:Int):Prop:=
 (col= -1 /\ enteringN n m D.basic D.con row /\ LeastOf D.basic row least /\ ∀c,c<k -> n <= D.off c -> (∀l:Nat,least=(l:Nat) -> D.off c<l) -> 0 <= D.top c) \/
 ∃y:Nat,row= -1 /\ col=(y:Nat) /\ least=(D.off y:Nat) /\ y<k /\ n <= D.off y /\ D.top y<0 /\ (∀c,c<k -> n <= D.off c -> D.off c<D.off y -> 0 <= D.top c) /\ ∀r,r<m -> n <= D.basic r -> D.basic r<D.off y -> 0 <= D.con r
def WrongR(n m:Nat)(D:Dict)(row col:Int):Prop:=∃least,WrongC n m n D row col least
theorem WrongC_skip{n m k:Nat}{D:Dict}{row col least:Int}(h:WrongC n m k D row col least)(hk:n <= D.off k -> 0 <= D.top k):WrongC n m (k+1) D row col least:=by
 rcases h with ⟨h1,h2,h3,h4⟩ | ⟨y,h1,h2,h3,h4,h5,h6,h7,h8⟩
 ·exact .inl ⟨h1,h2,h3,fun c hc hn hl=>by by_cases e:c=k;subst e;exact hk hn;exact h4 c (by omega) hn hl⟩
 ·exact .inr ⟨y,h1,h2,h3,by omega,h5,h6,fun c hc hn hl=>by by_cases e:c=k;subst e;exact hk hn;exact h7 c (by omega) hn hl,h8⟩
theorem WrongC_far{n m k l:Nat}{D:Dict}{row col:Int}(h:WrongC n m k D row col (l:Nat))(hk:¬D.off k<l):WrongC n m (k+1) D row col (l:Nat):=by
 rcases h with ⟨h1,h2,h3,h4⟩ | ⟨y,h1,h2,h3,h4,h5,h6,h7,h8⟩
 ·exact .inl ⟨h1,h2,h3,fun c hc hn hl=>by by_cases e:c=k;subst e;exact absurd (hl l rfl) hk;exact h4 c (by omega) hn hl⟩
 ·exact .inr ⟨y,h1,h2,h3,by omega,h5,h6,fun c hc hn hl=>by by_cases e:c=k;subst e;omega;exact h7 c (by omega) hn hl,h8⟩
theorem WrongC_take{n m k:Nat}{D:Dict}{row col least:Int}(h:WrongC n m k D row col least)(hn:n <= D.off k)(hb:D.top k<0)(hl:∀l:Nat,least=(l:Nat) -> D.off k<l):WrongC n m (k+1) D (-1) (k:Nat) (D.off k:Nat):=by
 refine .inr ⟨k,rfl,rfl,rfl,by omega,hn,hb,fun c hc hn' hl'=> ?_,fun r hr hnr hlr=> ?_⟩
 ·by_cases e:c=k
  ·subst e;omega
  ·rcases h with ⟨h1,h2,h3,h4⟩ | ⟨y,h1,h2,h3,h4,h5,h6,h7,h8⟩
   ·exact h4 c (by omega) hn' fun l e'=>by have:=hl l e';omega
   ·exact h7 c (by omega) hn' (by have:=hl _ h3;omega)
 ·rcases h with ⟨h1,h2,h3,h4⟩ | ⟨y,h1,h2,h3,h4,h5,h6,h7,h8⟩
  ·rcases h2 with ⟨g1,g2⟩ | ⟨x,g1,g2,g3,g4,g5⟩
   ·exact g2 r hr hnr
   ·rcases h3 with ⟨f1,f2⟩ | ⟨z,f1,f2⟩
    ·omega
    ·obtain rfl:x=z:=by omega
     have:=hl _ f2;exact g5 r hr hnr (by omega)
  ·have:=hl _ h3;exact h8 r hr hnr (by omega)
theorem WrongC_start{n m:Nat}{D:Dict}{row least:Int}(h:enteringN n m D.basic D.con row)(h':LeastOf D.basic row least):WrongC n m 0 D row (-1) least:= .inl ⟨rfl,h,h',fun c hc=>absurd hc (by omega)⟩
set_option maxRecDepth 100000 in
set_option maxHeartbeats 6400000 in
theorem wrong_walk(L:Lay)(m n:Nat)(D:Dict)(w:World)(hT:Tabl w L m n D)(hm:m <= 4611686018427387904)(hn:n <= 4611686018427387904):
  Calls Tryz.prog 129 #[.pointer (some ⟨L.gt,0,none⟩)] w fun e w'=>∃row col:Int,e= .returned (.tuple #[.int .i64 row, .int .i64 col]) /\ WrongR n m D row col /\ Below w.heap.size w w':=by
 have HT0:=lH hT;obtain⟨sv,Av,lv,cv,tv,Bv,mv,dv,hrt,hvv⟩:=hT.st;unfold Lay.cells at hrt;have RT:=lH hrt;clear hrt hvv;have k1:=aI 1 RT;have kl:=RT.out.lt;clear hT;have HS0:Hid (enteringN n 0 D.basic D.con (-1) /\ LeastOf D.basic (-1) (-1)):=lH ⟨.inl ⟨rfl,fun c hc=>absurd hc (by omega)⟩, .inl ⟨rfl,rfl⟩⟩;go_enter Tryz.func129,Tryz.ntmps129;go_wp2_with fail
 clear k1 kl RT
 go_loopw [2,4,14] (fun rv lv iv wr=>∃ (k:Nat) (row least:Int),k <= m /\ iv= .int .i64 k /\ rv= .int .i64 row /\ lv= .int .i64 least /\ Hid (enteringN n k D.basic D.con row /\ LeastOf D.basic row least) /\ Below w.heap.size w wr)
  (fun _ _ iv _=>m-(intOf iv).toNat)
 case atStart=>exact⟨0, -1, -1,Nat.zero_le _,rfl,rfl,rfl,HS0,Below.refl _ _⟩
 case round=>
  clear HS0;obtain⟨k,row,least,hk,rfl,rfl,rfl,HS,hbw⟩:=hrel;have HB:=lH hbw;have HT:=lH (HT0.out.below hbw);clear hbw;by_cases hkn:((k:Nat):Int)<(m:Nat)
  ·have hkb:k<m:=by omega
   have hm0:0<m:=by omega
   rw[(HT.out.ab hm0).1];obtain⟨sv,Av,lv,cv,tv,Bv,mv,dv,hrt,hvv⟩:=HT.out.st;unfold Lay.cells at hrt;rw[(HT.out.ab hm0).1,(HT.out.ab hm0).2.1,(HT.out.ab hm0).2.2] at hrt;have RT:=lH hrt;clear hrt hvv;have C0:=lH ((HT.out.bas hm0).at_ hkb);obtain⟨sx,Ax,lx,cx,tx,Bx,mx,dx,hQx,hvQx⟩:=((HT.out.con hm0)).quad hkb;have Qx:=lH hQx;have Vx:=lH hvQx;clear hQx hvQx;by_cases hf:¬n <= D.basic k
   ·have hge:decide (n <= D.basic k)=false:=by simp;omega
    have HF:=lH hf;clear hf;obtain⟨k0RT,k1RT,k2RT,k3RT⟩:=aT4 RT.out;have klRT:=RT.out.lt;have k0C0:=C0.out;have klC0:=cell_lt C0.out;obtain⟨k0Qx,k1Qx,k2Qx,k3Qx⟩:=Qx.out;have klQx:=Qx.out.lt;go_wp2_with fail
    clear k0RT k1RT k2RT k3RT klRT k0C0 klC0 k0Qx k1Qx k2Qx k3Qx klQx;go_roundw
    case rel=>exact⟨k+1,row,least,by omega,by simp,rfl,rfl,lH (⟨enteringN_skip HS.out.1 (fun e=>absurd e HF.out),HS.out.2⟩),HB.out⟩
    case measure=>exact mZ
   ·have hge:decide (n <= D.basic k)=true:=by simp;omega
    have HF:Hid (n <= D.basic k):=lH (by omega);clear hf;by_cases hc:0 <= D.con k
    ·have hsn:decide (sgI (D.con k).num<0)=false:=by have:=hc;simp;exact sgn_nn hc
     have HC:=lH hc;have HSN:=lH hsn;clear hc hsn;obtain⟨k0RT,k1RT,k2RT,k3RT⟩:=aT4 RT.out;have klRT:=RT.out.lt;have k0C0:=C0.out;have klC0:=cell_lt C0.out;obtain⟨k0Qx,k1Qx,k2Qx,k3Qx⟩:=Qx.out;have klQx:=Qx.out.lt;go_wp2_with fail
     clear k0RT k1RT k2RT k3RT klRT k0C0 klC0 k0Qx k1Qx k2Qx k3Qx klQx;refine(rsgn_walk _ (D.con k) _ Vx.out).mono ?_;rintro e w1 ⟨rfl,hb1⟩;replace HT:=lH (HT.out.below hb1);replace Vx:=lH (Vx.out.below hb1);replace RT:=rW RT hb1;replace Qx:=lH (Qx.out.below hb1);replace C0:=lH (cell_below hb1 C0.out);replace HB:=bT HB hb1;clear hb1;have hsn:=HSN.out;obtain⟨k0RT,k1RT,k2RT,k3RT⟩:=aT4 RT.out;have klRT:=RT.out.lt;have k0C0:=C0.out;have klC0:=cell_lt C0.out;obtain⟨k0Qx,k1Qx,k2Qx,k3Qx⟩:=Qx.out;have klQx:=Qx.out.lt;go_wp2_with fail
     clear k0RT k1RT k2RT k3RT klRT k0C0 klC0 k0Qx k1Qx k2Qx k3Qx klQx;go_roundw
     case rel=>exact⟨k+1,row,least,by omega,by simp,rfl,rfl,lH (⟨enteringN_skip HS.out.1 (fun _=>HC.out),HS.out.2⟩),HB.out⟩
     case measure=>exact mZ
    ·replace hc:D.con k<0:=Rat.not_le.1 hc;have hsn:decide (sgI (D.con k).num<0)=true:=by simp;exact sgn_n hc
     have HC:Hid (D.con k<0):=lH hc;have HSN:=lH hsn;clear hc hsn;by_cases ho:least= -1
     ·subst ho;obtain⟨k0RT,k1RT,k2RT,k3RT⟩:=aT4 RT.out;have klRT:=RT.out.lt;have k0C0:=C0.out;have klC0:=cell_lt C0.out;obtain⟨k0Qx,k1Qx,k2Qx,k3Qx⟩:=Qx.out;have klQx:=Qx.out.lt;go_wp2_with fail
      clear k0RT k1RT k2RT k3RT klRT k0C0 klC0 k0Qx k1Qx k2Qx k3Qx klQx;refine(rsgn_walk _ (D.con k) _ Vx.out).mono ?_;rintro e w1 ⟨rfl,hb1⟩;replace HT:=lH (HT.out.below hb1);replace Vx:=lH (Vx.out.below hb1);replace RT:=rW RT hb1;replace Qx:=lH (Qx.out.below hb1);replace C0:=lH (cell_below hb1 C0.out);replace HB:=bT HB hb1;clear hb1;have hsn:=HSN.out;obtain⟨k0RT,k1RT,k2RT,k3RT⟩:=aT4 RT.out;have klRT:=RT.out.lt;have k0C0:=C0.out;have klC0:=cell_lt C0.out;obtain⟨k0Qx,k1Qx,k2Qx,k3Qx⟩:=Qx.out;have klQx:=Qx.out.lt;go_wp2_with fail
      clear k0RT k1RT k2RT k3RT klRT k0C0 klC0 k0Qx k1Qx k2Qx k3Qx klQx;go_roundw
      case rel=>exact⟨k+1,(k:Nat),(D.basic k:Nat),by omega,by simp,rfl,rfl,lH (⟨enteringN_first (by have h1:=HS.out.2;have h2:=HS.out.1;rcases h1 with ⟨rfl,_⟩ | ⟨z,_,h3⟩;exact h2;omega) HF.out HC.out, .inr ⟨k,rfl,rfl⟩⟩),HB.out⟩
      case measure=>exact mZ
     ·obtain⟨x,hx,hz⟩:∃x:Nat,least=(x:Nat) /\ ∃z:Nat,row=(z:Nat) /\ x=D.basic z:=by rcases HS.out.2 with ⟨_,h1⟩ | ⟨z,h1,h2⟩;exact absurd h1 ho;exact⟨_,h2,z,h1,rfl⟩
      have HZ:=lH hz;clear hz;subst hx;have hx0:decide (((x:Nat):Int)<0)=false:=by simp
      clear ho;by_cases hl:D.basic k<x
      ·have hlt:decide (D.basic k<x)=true:=by simpa using hl
       have HL:=lH hl;clear hl;obtain⟨k0RT,k1RT,k2RT,k3RT⟩:=aT4 RT.out;have klRT:=RT.out.lt;have k0C0:=C0.out;have klC0:=cell_lt C0.out;obtain⟨k0Qx,k1Qx,k2Qx,k3Qx⟩:=Qx.out;have klQx:=Qx.out.lt;go_wp2_with fail
       clear k0RT k1RT k2RT k3RT klRT k0C0 klC0 k0Qx k1Qx k2Qx k3Qx klQx;refine(rsgn_walk _ (D.con k) _ Vx.out).mono ?_;rintro e w1 ⟨rfl,hb1⟩;replace HT:=lH (HT.out.below hb1);replace Vx:=lH (Vx.out.below hb1);replace RT:=rW RT hb1;replace Qx:=lH (Qx.out.below hb1);replace C0:=lH (cell_below hb1 C0.out);replace HB:=bT HB hb1;clear hb1;have hsn:=HSN.out;obtain⟨k0RT,k1RT,k2RT,k3RT⟩:=aT4 RT.out;have klRT:=RT.out.lt;have k0C0:=C0.out;have klC0:=cell_lt C0.out;obtain⟨k0Qx,k1Qx,k2Qx,k3Qx⟩:=Qx.out;have klQx:=Qx.out.lt;go_wp2_with fail
       clear k0RT k1RT k2RT k3RT klRT k0C0 klC0 k0Qx k1Qx k2Qx k3Qx klQx;go_roundw
       case rel=>exact⟨k+1,(k:Nat),(D.basic k:Nat),by omega,by simp,rfl,rfl,lH (⟨by obtain⟨z,h1,h2⟩:=HZ.out;have h3:=HS.out.1;rw[h1] at h3;exact enteringN_less h3 HF.out HC.out (by have:=HL.out;omega), .inr ⟨k,rfl,rfl⟩⟩),HB.out⟩
       case measure=>exact mZ
      ·have hlt:decide (D.basic k<x)=false:=by simpa using hl
       have HL:=lH hl;clear hl;obtain⟨k0RT,k1RT,k2RT,k3RT⟩:=aT4 RT.out;have klRT:=RT.out.lt;have k0C0:=C0.out;have klC0:=cell_lt C0.out;obtain⟨k0Qx,k1Qx,k2Qx,k3Qx⟩:=Qx.out;have klQx:=Qx.out.lt;go_wp2_with fail
       clear k0RT k1RT k2RT k3RT klRT k0C0 klC0 k0Qx k1Qx k2Qx k3Qx klQx;refine(rsgn_walk _ (D.con k) _ Vx.out).mono ?_;rintro e w1 ⟨rfl,hb1⟩;replace HT:=lH (HT.out.below hb1);replace Vx:=lH (Vx.out.below hb1);replace RT:=rW RT hb1;replace Qx:=lH (Qx.out.below hb1);replace C0:=lH (cell_below hb1 C0.out);replace HB:=bT HB hb1;clear hb1;have hsn:=HSN.out;obtain⟨k0RT,k1RT,k2RT,k3RT⟩:=aT4 RT.out;have klRT:=RT.out.lt;have k0C0:=C0.out;have klC0:=cell_lt C0.out;obtain⟨k0Qx,k1Qx,k2Qx,k3Qx⟩:=Qx.out;have klQx:=Qx.out.lt;go_wp2_with fail
       clear k0RT k1RT k2RT k3RT klRT k0C0 klC0 k0Qx k1Qx k2Qx k3Qx klQx;go_roundw
       case rel=>exact⟨k+1,row,(x:Nat),by omega,by simp,rfl,rfl,lH (⟨by obtain⟨z,h1,h2⟩:=HZ.out;have h3:=HS.out.1;rw[h1] at h3 ⊢;exact enteringN_far h3 (by have:=HL.out;omega),HS.out.2⟩),HB.out⟩
       case measure=>exact mZ
  ·obtain rfl:m=k:=by omega
   obtain⟨sv,Av,lv,cv,tv,Bv,mv,dv,hrt,hvv⟩:=HT.out.st;unfold Lay.cells at hrt;have RT:=lH hrt;clear hrt hvv;have k2:=aI 2 RT;have kl:=RT.out.lt;have HS0:Hid (WrongC n m 0 D row (-1) least):=lH (WrongC_start HS.out.1 HS.out.2);go_wp2_with fail
   clear k2 kl RT HS;obtain⟨wa,rfl⟩:=eX (wr)
   go_loopw [2,3,4,53] (fun rv cv lv iv wr=>∃ (k:Nat) (row col least:Int),k <= n /\ iv= .int .i64 k /\ rv= .int .i64 row /\ cv= .int .i64 col /\ lv= .int .i64 least /\ Hid (WrongC n m k D row col least) /\ Below w.heap.size w wr)
    (fun _ _ _ iv _=>n-(intOf iv).toNat)
   case atStart=>exact⟨0,row, -1,least,Nat.zero_le _,rfl,rfl,rfl,rfl,HS0,HB.out⟩
   case round=>
    clear HS0 HB HT;obtain⟨k,row,col,least,hk,rfl,rfl,rfl,rfl,HS,hbw⟩:=hrel;have HB:=lH hbw;have HT:=lH (HT0.out.below hbw);clear hbw;by_cases hkn:((k:Nat):Int)<(n:Nat)
    ·have hkb:k<n:=by omega
     have hn0:0<n:=by omega
     rw[(HT.out.ao hn0).1];obtain⟨sv,Av,lv,cv,tv,Bv,mv,dv,hrt,hvv⟩:=HT.out.st;unfold Lay.cells at hrt;rw[(HT.out.ao hn0).1,(HT.out.ao hn0).2] at hrt;have RT:=lH hrt;clear hrt hvv;have C0:=lH ((HT.out.off hn0).at_ hkb);obtain⟨sx,Ax,lx,cx,tx,Bx,mx,dx,hQx,hvQx⟩:=((HT.out.top hn0)).quad hkb;have Qx:=lH hQx;have Vx:=lH hvQx;clear hQx hvQx;by_cases hf:¬n <= D.off k
     ·have hge:decide (n <= D.off k)=false:=by simp;omega
      have HF:=lH hf;clear hf;have k0RT:=aI 0 RT;have k1RT:=aI 1 RT;have k2RT:=aI 2 RT;have k5RT:=aI 5 RT;have klRT:=RT.out.lt;have k0C0:=C0.out;have klC0:=cell_lt C0.out;obtain⟨k0Qx,k1Qx,k2Qx,k3Qx⟩:=Qx.out;have klQx:=Qx.out.lt;go_wp2_with fail
      clear k0RT k1RT k2RT k5RT klRT k0C0 klC0 k0Qx k1Qx k2Qx k3Qx klQx;go_roundw
      case rel=>exact⟨k+1,row,col,least,by omega,by simp,rfl,rfl,rfl,lH (WrongC_skip HS.out (fun e=>absurd e HF.out)),HB.out⟩
      case measure=>exact mZ
     ·have hge:decide (n <= D.off k)=true:=by simp;omega
      have HF:Hid (n <= D.off k):=lH (by omega);clear hf;by_cases hc:0 <= D.top k
      ·have hsn:decide (sgI (D.top k).num<0)=false:=by have:=hc;simp;exact sgn_nn hc
       have HC:=lH hc;have HSN:=lH hsn;clear hc hsn;have k0RT:=aI 0 RT;have k1RT:=aI 1 RT;have k2RT:=aI 2 RT;have k5RT:=aI 5 RT;have klRT:=RT.out.lt;have k0C0:=C0.out;have klC0:=cell_lt C0.out;obtain⟨k0Qx,k1Qx,k2Qx,k3Qx⟩:=Qx.out;have klQx:=Qx.out.lt;go_wp2_with fail
       clear k0RT k1RT k2RT k5RT klRT k0C0 klC0 k0Qx k1Qx k2Qx k3Qx klQx;refine(rsgn_walk _ (D.top k) _ Vx.out).mono ?_;rintro e w1 ⟨rfl,hb1⟩;replace HT:=lH (HT.out.below hb1);replace Vx:=lH (Vx.out.below hb1);replace RT:=rW RT hb1;replace Qx:=lH (Qx.out.below hb1);replace C0:=lH (cell_below hb1 C0.out);replace HB:=bT HB hb1;clear hb1;have hsn:=HSN.out;have k0RT:=aI 0 RT;have k1RT:=aI 1 RT;have k2RT:=aI 2 RT;have k5RT:=aI 5 RT;have klRT:=RT.out.lt;have k0C0:=C0.out;have klC0:=cell_lt C0.out;obtain⟨k0Qx,k1Qx,k2Qx,k3Qx⟩:=Qx.out;have klQx:=Qx.out.lt;go_wp2_with fail
       clear k0RT k1RT k2RT k5RT klRT k0C0 klC0 k0Qx k1Qx k2Qx k3Qx klQx;go_roundw
       case rel=>exact⟨k+1,row,col,least,by omega,by simp,rfl,rfl,rfl,lH (WrongC_skip HS.out (fun _=>HC.out)),HB.out⟩
       case measure=>exact mZ
      ·replace hc:D.top k<0:=Rat.not_le.1 hc;have hsn:decide (sgI (D.top k).num<0)=true:=by simp;exact sgn_n hc
       have HC:Hid (D.top k<0):=lH hc;have HSN:=lH hsn;clear hc hsn;by_cases ho:least= -1
       ·subst ho;have k0RT:=aI 0 RT;have k1RT:=aI 1 RT;have k2RT:=aI 2 RT;have k5RT:=aI 5 RT;have klRT:=RT.out.lt;have k0C0:=C0.out;have klC0:=cell_lt C0.out;obtain⟨k0Qx,k1Qx,k2Qx,k3Qx⟩:=Qx.out;have klQx:=Qx.out.lt;go_wp2_with fail
        clear k0RT k1RT k2RT k5RT klRT k0C0 klC0 k0Qx k1Qx k2Qx k3Qx klQx;refine(rsgn_walk _ (D.top k) _ Vx.out).mono ?_;rintro e w1 ⟨rfl,hb1⟩;replace HT:=lH (HT.out.below hb1);replace Vx:=lH (Vx.out.below hb1);replace RT:=rW RT hb1;replace Qx:=lH (Qx.out.below hb1);replace C0:=lH (cell_below hb1 C0.out);replace HB:=bT HB hb1;clear hb1;have hsn:=HSN.out;have k0RT:=aI 0 RT;have k1RT:=aI 1 RT;have k2RT:=aI 2 RT;have k5RT:=aI 5 RT;have klRT:=RT.out.lt;have k0C0:=C0.out;have klC0:=cell_lt C0.out;obtain⟨k0Qx,k1Qx,k2Qx,k3Qx⟩:=Qx.out;have klQx:=Qx.out.lt;go_wp2_with fail
        clear k0RT k1RT k2RT k5RT klRT k0C0 klC0 k0Qx k1Qx k2Qx k3Qx klQx;go_roundw
        case rel=>exact⟨k+1, -1,(k:Nat),(D.off k:Nat),by omega,by simp,rfl,rfl,rfl,lH (WrongC_take HS.out HF.out HC.out (fun l e=>absurd e (by omega))),HB.out⟩
        case measure=>exact mZ
       ·obtain⟨x,hx⟩:∃x:Nat,least=(x:Nat):=by rcases HS.out with ⟨_,_,h1,_⟩ | ⟨y,_,_,h1,_⟩;rcases h1 with ⟨_,h1⟩ | ⟨z,_,h1⟩;exact absurd h1 ho;exact⟨_,h1⟩;exact⟨_,h1⟩
        subst hx;have hx0:decide (((x:Nat):Int)<0)=false:=by simp
        clear ho;by_cases hl:D.off k<x
        ·have hlt:decide (D.off k<x)=true:=by simpa using hl
         have HL:=lH hl;clear hl;have k0RT:=aI 0 RT;have k1RT:=aI 1 RT;have k2RT:=aI 2 RT;have k5RT:=aI 5 RT;have klRT:=RT.out.lt;have k0C0:=C0.out;have klC0:=cell_lt C0.out;obtain⟨k0Qx,k1Qx,k2Qx,k3Qx⟩:=Qx.out;have klQx:=Qx.out.lt;go_wp2_with fail
         clear k0RT k1RT k2RT k5RT klRT k0C0 klC0 k0Qx k1Qx k2Qx k3Qx klQx;refine(rsgn_walk _ (D.top k) _ Vx.out).mono ?_;rintro e w1 ⟨rfl,hb1⟩;replace HT:=lH (HT.out.below hb1);replace Vx:=lH (Vx.out.below hb1);replace RT:=rW RT hb1;replace Qx:=lH (Qx.out.below hb1);replace C0:=lH (cell_below hb1 C0.out);replace HB:=bT HB hb1;clear hb1;have hsn:=HSN.out;have k0RT:=aI 0 RT;have k1RT:=aI 1 RT;have k2RT:=aI 2 RT;have k5RT:=aI 5 RT;have klRT:=RT.out.lt;have k0C0:=C0.out;have klC0:=cell_lt C0.out;obtain⟨k0Qx,k1Qx,k2Qx,k3Qx⟩:=Qx.out;have klQx:=Qx.out.lt;go_wp2_with fail
         clear k0RT k1RT k2RT k5RT klRT k0C0 klC0 k0Qx k1Qx k2Qx k3Qx klQx;go_roundw
         case rel=>exact⟨k+1, -1,(k:Nat),(D.off k:Nat),by omega,by simp,rfl,rfl,rfl,lH (WrongC_take HS.out HF.out HC.out (fun l e=>by have:=HL.out;omega)),HB.out⟩
         case measure=>exact mZ
        ·have hlt:decide (D.off k<x)=false:=by simpa using hl
         have HL:=lH hl;clear hl;have k0RT:=aI 0 RT;have k1RT:=aI 1 RT;have k2RT:=aI 2 RT;have k5RT:=aI 5 RT;have klRT:=RT.out.lt;have k0C0:=C0.out;have klC0:=cell_lt C0.out;obtain⟨k0Qx,k1Qx,k2Qx,k3Qx⟩:=Qx.out;have klQx:=Qx.out.lt;go_wp2_with fail
         clear k0RT k1RT k2RT k5RT klRT k0C0 klC0 k0Qx k1Qx k2Qx k3Qx klQx;refine(rsgn_walk _ (D.top k) _ Vx.out).mono ?_;rintro e w1 ⟨rfl,hb1⟩;replace HT:=lH (HT.out.below hb1);replace Vx:=lH (Vx.out.below hb1);replace RT:=rW RT hb1;replace Qx:=lH (Qx.out.below hb1);replace C0:=lH (cell_below hb1 C0.out);replace HB:=bT HB hb1;clear hb1;have hsn:=HSN.out;have k0RT:=aI 0 RT;have k1RT:=aI 1 RT;have k2RT:=aI 2 RT;have k5RT:=aI 5 RT;have klRT:=RT.out.lt;have k0C0:=C0.out;have klC0:=cell_lt C0.out;obtain⟨k0Qx,k1Qx,k2Qx,k3Qx⟩:=Qx.out;have klQx:=Qx.out.lt;go_wp2_with fail
         clear k0RT k1RT k2RT k5RT klRT k0C0 klC0 k0Qx k1Qx k2Qx k3Qx klQx;go_roundw
         case rel=>exact⟨k+1,row,col,(x:Nat),by omega,by simp,rfl,rfl,rfl,lH (WrongC_far HS.out HL.out),HB.out⟩
         case measure=>exact mZ
    ·obtain rfl:n=k:=by omega
     go_wp2_with fail
     go_returns;exact⟨row,col,rfl,⟨least,HS.out⟩,HB.out⟩
end Go.Proofs.YtdefghfjhgmpfaaGreatDoor
