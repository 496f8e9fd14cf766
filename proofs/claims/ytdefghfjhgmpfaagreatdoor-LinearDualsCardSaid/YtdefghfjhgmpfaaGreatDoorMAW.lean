/- Parts of this proof: Leave Wrong Point. -/
import Derived.Test.YtdefghfjhgmpfaaGreatDoorMAP
import Derived.Test.YtdefghfjhgmpfaaGreatDoorMAE
import Derived.Test.YtdefghfjhgmpfaaGreatDoorMAV
namespace Go.Proofs.YtdefghfjhgmpfaaGreatDoor
open Go.Proofs.Tryz
section
open Go.RowKit
open Lp (RL upd eu)
def jW(n b:Nat)(o:Nat -> Nat)(f:Nat -> Rat)(out:Int):Prop:=
 (out= -1 /\ ∀c,c<b -> n <= o c -> f c <= 0) \/ ∃x:Nat,out=(x:Nat) /\ x<b /\ n <= o x /\ 0<f x /\ ∀c,c<b -> n <= o c -> o c<o x -> f c <= 0
theorem Bn{n k:Nat}{o:Nat -> Nat}{f:Nat -> Rat}{out:Int}(h:jW n k o f out)(C:n <= o k -> f k <= 0):jW n (k+1) o f out:=by
 rcases h with ⟨h1,t⟩ | ⟨x,h1,t,E,F,G⟩
 ·exact .inl ⟨h1,fun c M r=>by by_cases e:c=k;subst e;exact C r;exact t c oM r⟩
 ·exact .inr ⟨x,h1,by omega,E,F,fun c M r O=>by by_cases e:c=k;subst e;exact C r;exact G c oM r O⟩
theorem Hr{n k x:Nat}{o:Nat -> Nat}{f:Nat -> Rat}(h:jW n k o f (x:Nat))(G:¬o k<o x):jW n (k+1) o f (x:Nat):=by
 rcases h with ⟨h1,t⟩ | ⟨y,h1,t,C,E,F⟩
 ·omega
 ·obtain rfl:x=y:=oM
  exact .inr ⟨x,rfl,by omega,C,E,fun c O M r=>by by_cases e:c=k;subst e;exact absurd r G;exact F c oM M r⟩
theorem Ht{n k:Nat}{o:Nat -> Nat}{f:Nat -> Rat}(h:jW n k o f (-1))(C:n <= o k)(t:0<f k):jW n (k+1) o f (k:Nat):=by
 rcases h with ⟨h1,r⟩ | ⟨x,h1,r,F,G,M⟩
 ·exact .inr ⟨k,rfl,by omega,C,t,fun c O E R=>by by_cases e:c=k;subst e;omega;exact r c oM E⟩
 ·omega
theorem Hu{n k x:Nat}{o:Nat -> Nat}{f:Nat -> Rat}(h:jW n k o f (x:Nat))(E:n <= o k)(C:0<f k)(R:o k<o x):jW n (k+1) o f (k:Nat):=by
 rcases h with ⟨h1,r⟩ | ⟨y,h1,r,G,M,t⟩
 ·omega
 ·obtain rfl:x=y:=oM
  exact .inr ⟨k,rfl,by omega,E,C,fun c O F T=>by by_cases e:c=k;subst e;omega;exact t c oM F oM⟩
set_option maxRecDepth 100000 in
set_option maxHeartbeats 6400000 in
theorem Hw(L:Lay)(m n j:Nat)(D:eu)(w:World)(hT:fq w L m n D)(hi:j<n)(hm:m <= 4611686018427387904)(hn:n <= 4611686018427387904):
  Calls prog 132 #[.pointer (some ⟨L.gt,0,none⟩), .int .i64 j] w fun e w'=>∃out:Int,e= .returned (.int .i64 out) /\ jW n m D.basic (fun r=>D.cell r j) out /\ Below w.heap.size w w':=by
 have a8:0<n:=oM
 have ah:=lH hT;obtain⟨sv,Av,lv,cv,tv,Bv,mv,dv,a3,ad⟩:=hT.st;unfold Lay.cells at a3;rw[(hT.ao a8).1,(hT.ao a8).2] at a3;have h:=lH a3;clear a3 ad;have k1:=aI 1 h;have kl:=h.o.lt;clear hT;have ae:Hid (jW n 0 D.basic (fun r=>D.cell r j) (-1)):=lH (.inl ⟨rfl,fun c hc=>absurd hc oM⟩);have am:((j:Nat):Int)<(n:Nat):=oM
 go_enter func132,ntmps132;go_wp2_with fail
 clear k1 kl h
 go_loopw [5,13] (fun ov iv wr=>∃ (k:Nat) (out:Int),k <= m /\ iv= .int .i64 k /\ ov= .int .i64 out /\ Hid (jW n k D.basic (fun r=>D.cell r j) out) /\ Below w.heap.size w wr)
  (fun _ iv _=>m-(intOf iv).toNat)
 case atStart=>exact⟨0, -1,Nat.zero_le _,rfl,rfl,ae,Below.refl _ _⟩
 case round=>
  clear ae;obtain⟨k,out,hk,rfl,rfl,HS,aa⟩:=hrel;have HB:=lH aa;have HT:=lH (ah.o.below aa);clear aa;by_cases an:((k:Nat):Int)<(m:Nat)
  ·have ac:k<m:=oM
   have a5:0<m:=oM
   rw[(HT.o.ab a5).1];obtain⟨sv,Av,lv,cv,tv,Bv,mv,dv,a3,ad⟩:=HT.o.st;unfold Lay.cells at a3;rw[(HT.o.ab a5).1,(HT.o.ab a5).2.1,(HT.o.ab a5).2.2] at a3;rw[(HT.o.ao a8).1,(HT.o.ao a8).2] at a3;have h:=lH a3;clear a3 ad;have C:=lH ((HT.o.bas a5).at_ ac);have E:=lH ((HT.o.out a5).at_ a8 ac);obtain⟨sx,Ax,lx,cx,tx,Bx,mx,dx,af,ag⟩:=((HT.o.rows a8 k ac)).fO hi;have F:=lH af;have Vx:=lH ag;clear af ag;by_cases hf:¬n <= D.basic k
   ·have ai:decide (n <= D.basic k)=false:=by simp;omega
    have HF:=lH hf;clear hf;have R:=aI 0 h;have U:=aI 1 h;have W:=aI 2 h;have Y:=aI 4 h;have a2:=h.o.lt;have G:=C.o;have Z:=eG C.o;have M:=E.o;have a0:=eG E.o;obtain⟨O,T,V,X⟩:=F.o;have a1:=F.o.lt;go_wp2_with fail
    clear R U W Y a2 G Z M a0 O T V X a1;go_roundw
    case rel=>exact⟨k+1,out,by omega,by simp,rfl,lH (Bn HS.o (fun e=>absurd e HF.o)),HB.o⟩
    case measure=>exact mZ
   ·have ai:decide (n <= D.basic k)=true:=by simp;omega
    have HF:Hid (n <= D.basic k):=lH oM;clear hf;by_cases hc:D.cell k j <= 0
    ·have a4:decide (0<sgI (D.cell k j).num)=false:=by have:=hc;simp;exact vT hc
     have HC:=lH hc;have a9:=lH a4;clear hc a4;have R:=aI 0 h;have U:=aI 1 h;have W:=aI 2 h;have Y:=aI 4 h;have a2:=h.o.lt;have G:=C.o;have Z:=eG C.o;have M:=E.o;have a0:=eG E.o;obtain⟨O,T,V,X⟩:=F.o;have a1:=F.o.lt;go_wp2_with fail
     clear R U W Y a2 G Z M a0 O T V X a1;refine(fU _ (D.cell k j) _ Vx.o).mono ?_;rintro e w1 ⟨rfl,t⟩;replace h:=rW h t;replace F:=lH (F.o.below t);replace C:=lH (cell_below t C.o);replace E:=lH (cell_below t E.o);replace HB:=bT HB t;clear t;have a4:=a9.o;have R:=aI 0 h;have U:=aI 1 h;have W:=aI 2 h;have Y:=aI 4 h;have a2:=h.o.lt;have G:=C.o;have Z:=eG C.o;have M:=E.o;have a0:=eG E.o;obtain⟨O,T,V,X⟩:=F.o;have a1:=F.o.lt;go_wp2_with fail
     clear R U W Y a2 G Z M a0 O T V X a1;go_roundw
     case rel=>exact⟨k+1,out,by omega,by simp,rfl,lH (Bn HS.o (fun _=>HC.o)),HB.o⟩
     case measure=>exact mZ
    ·replace hc:0<D.cell k j:=Rat.not_le.1 hc;have a4:decide (0<sgI (D.cell k j).num)=true:=by simp;exact vS hc
     have HC:Hid (0<D.cell k j):=lH hc;have a9:=lH a4;clear hc a4;by_cases ho:out= -1
     ·obtain rfl:out= -1:=ho;have al:=HS;have R:=aI 0 h;have U:=aI 1 h;have W:=aI 2 h;have Y:=aI 4 h;have a2:=h.o.lt;have G:=C.o;have Z:=eG C.o;have M:=E.o;have a0:=eG E.o;obtain⟨O,T,V,X⟩:=F.o;have a1:=F.o.lt;go_wp2_with fail
      clear R U W Y a2 G Z M a0 O T V X a1;refine(fU _ (D.cell k j) _ Vx.o).mono ?_;rintro e w1 ⟨rfl,t⟩;replace h:=rW h t;replace F:=lH (F.o.below t);replace C:=lH (cell_below t C.o);replace E:=lH (cell_below t E.o);replace HB:=bT HB t;clear t;have a4:=a9.o;have R:=aI 0 h;have U:=aI 1 h;have W:=aI 2 h;have Y:=aI 4 h;have a2:=h.o.lt;have G:=C.o;have Z:=eG C.o;have M:=E.o;have a0:=eG E.o;obtain⟨O,T,V,X⟩:=F.o;have a1:=F.o.lt;go_wp2_with fail
      clear R U W Y a2 G Z M a0 O T V X a1;go_roundw
      case rel=>exact⟨k+1,(k:Nat),by omega,by simp,rfl,lH (Ht HS.o HF.o HC.o),HB.o⟩
      case measure=>exact mZ
     ·obtain⟨x,hx⟩:∃x:Nat,out=(x:Nat):=by rcases HS.o with ⟨h1,_⟩ | ⟨x,h1,_⟩;exact absurd h1 ho;exact⟨x,h1⟩
      subst hx;have ak:x<m:=by rcases HS.o with ⟨h1,_⟩ | ⟨y,h1,h2,_⟩;omega;omega
      have ap:decide (((x:Nat):Int)<0)=false:=by simp
      have aq:((x:Nat):Int)<(m:Nat):=oM
      clear ho;have C2:=lH ((HT.o.bas a5).at_ ak);by_cases hl:D.basic k<D.basic x
      ·have aj:decide (D.basic k<D.basic x)=true:=by simpa using hl
       have HL:=lH hl;clear hl;have R:=aI 0 h;have U:=aI 1 h;have W:=aI 2 h;have Y:=aI 4 h;have a2:=h.o.lt;have G:=C.o;have Z:=eG C.o;have M:=E.o;have a0:=eG E.o;obtain⟨O,T,V,X⟩:=F.o;have a1:=F.o.lt;have a6:=C2.o;have a7:=eG C2.o;go_wp2_with fail
       clear R U W Y a2 G Z M a0 O T V X a1 a6 a7;refine(fU _ (D.cell k j) _ Vx.o).mono ?_;rintro e w1 ⟨rfl,t⟩;replace h:=rW h t;replace F:=lH (F.o.below t);replace C:=lH (cell_below t C.o);replace E:=lH (cell_below t E.o);replace C2:=lH (cell_below t C2.o);replace HB:=bT HB t;clear t;have a4:=a9.o;have R:=aI 0 h;have U:=aI 1 h;have W:=aI 2 h;have Y:=aI 4 h;have a2:=h.o.lt;have G:=C.o;have Z:=eG C.o;have M:=E.o;have a0:=eG E.o;obtain⟨O,T,V,X⟩:=F.o;have a1:=F.o.lt;have a6:=C2.o;have a7:=eG C2.o;go_wp2_with fail
       clear R U W Y a2 G Z M a0 O T V X a1 a6 a7;go_roundw
       case rel=>exact⟨k+1,(k:Nat),by omega,by simp,rfl,lH (Hu HS.o HF.o HC.o HL.o),HB.o⟩
       case measure=>exact mZ
      ·have aj:decide (D.basic k<D.basic x)=false:=by simpa using hl
       have HL:=lH hl;clear hl;have R:=aI 0 h;have U:=aI 1 h;have W:=aI 2 h;have Y:=aI 4 h;have a2:=h.o.lt;have G:=C.o;have Z:=eG C.o;have M:=E.o;have a0:=eG E.o;obtain⟨O,T,V,X⟩:=F.o;have a1:=F.o.lt;have a6:=C2.o;have a7:=eG C2.o;go_wp2_with fail
       clear R U W Y a2 G Z M a0 O T V X a1 a6 a7;refine(fU _ (D.cell k j) _ Vx.o).mono ?_;rintro e w1 ⟨rfl,t⟩;replace h:=rW h t;replace F:=lH (F.o.below t);replace C:=lH (cell_below t C.o);replace E:=lH (cell_below t E.o);replace C2:=lH (cell_below t C2.o);replace HB:=bT HB t;clear t;have a4:=a9.o;have R:=aI 0 h;have U:=aI 1 h;have W:=aI 2 h;have Y:=aI 4 h;have a2:=h.o.lt;have G:=C.o;have Z:=eG C.o;have M:=E.o;have a0:=eG E.o;obtain⟨O,T,V,X⟩:=F.o;have a1:=F.o.lt;have a6:=C2.o;have a7:=eG C2.o;go_wp2_with fail
       clear R U W Y a2 G Z M a0 O T V X a1 a6 a7;go_roundw
       case rel=>exact⟨k+1,(x:Nat),by omega,by simp,rfl,lH (Hr HS.o HL.o),HB.o⟩
       case measure=>exact mZ
  ·obtain rfl:m=k:=oM
   go_wp2_with fail
   go_returns;exact⟨out,rfl,HS.o,HB.o⟩
end
section
open Go.RowKit
open Lp (RL upd eu)
def tV(o:Nat -> Nat)(row least:Int):Prop:=(row= -1 /\ least= -1) \/ ∃x:Nat,row=(x:Nat) /\ least=(o x:Nat)
def lK(n m k:Nat)(D:eu)(row col least:Int):Prop:=
 (col= -1 /\ jw n m D.basic D.con row /\ tV D.basic row least /\ ∀c,c<k -> n <= D.off c -> (∀l:Nat,least=(l:Nat) -> D.off c<l) -> 0 <= D.top c) \/
 ∃y:Nat,row= -1 /\ col=(y:Nat) /\ least=(D.off y:Nat) /\ y<k /\ n <= D.off y /\ D.top y<0 /\ (∀c,c<k -> n <= D.off c -> D.off c<D.off y -> 0 <= D.top c) /\ ∀r,r<m -> n <= D.basic r -> D.basic r<D.off y -> 0 <= D.con r
def tX(n m:Nat)(D:eu)(row col:Int):Prop:=∃least,lK n m n D row col least
theorem Bo{n m k:Nat}{D:eu}{row col M:Int}(h:lK n m k D row col M)(G:n <= D.off k -> 0 <= D.top k):lK n m (k+1) D row col M:=by
 rcases h with ⟨h1,t,C,F⟩ | ⟨y,h1,t,C,F,O,R,T,U⟩
 ·exact .inl ⟨h1,t,C,fun c V r E=>by by_cases e:c=k;subst e;exact G r;exact F c oM r E⟩
 ·exact .inr ⟨y,h1,t,C,by omega,O,R,fun c V r E=>by by_cases e:c=k;subst e;exact G r;exact T c oM r E,U⟩
theorem Hy{n m k l:Nat}{D:eu}{row col:Int}(h:lK n m k D row col (l:Nat))(U:¬D.off k<l):lK n m (k+1) D row col (l:Nat):=by
 rcases h with ⟨h1,t,C,F⟩ | ⟨y,h1,t,C,F,G,M,O,R⟩
 ·exact .inl ⟨h1,t,C,fun c T E r=>by by_cases e:c=k;subst e;exact absurd (r l rfl) U;exact F c oM E r⟩
 ·exact .inr ⟨y,h1,t,C,by omega,G,M,fun c T E r=>by by_cases e:c=k;subst e;omega;exact O c oM E r,R⟩
theorem Bt{n m k:Nat}{D:eu}{row col W:Int}(h:lK n m k D row col W)(hn:n <= D.off k)(hb:D.top k<0)(F:∀l:Nat,W=(l:Nat) -> D.off k<l):lK n m (k+1) D (-1) (k:Nat) (D.off k:Nat):=by
 refine .inr ⟨k,rfl,rfl,rfl,by omega,hn,hb,fun c hc V a0=> ?_,fun r M G a1=> ?_⟩
 ·by_cases e:c=k
  ·subst e;omega
  ·rcases h with ⟨h1,C,t,E⟩ | ⟨y,h1,C,t,E,h5,h6,T,U⟩
   ·exact E c oM V fun l e'=>by have:=F l e';omega
   ·exact T c oM V (by have:=F _ t;omega)
 ·rcases h with ⟨h1,C,t,E⟩ | ⟨y,h1,C,t,E,h5,h6,T,U⟩
  ·rcases C with ⟨Y,R⟩ | ⟨x,Y,R,g3,g4,Z⟩
   ·exact R r M G
   ·rcases t with ⟨X,O⟩ | ⟨z,X,O⟩
    ·omega
    ·obtain rfl:x=z:=oM
     have:=F _ O;exact Z r M G oM
  ·have:=F _ t;exact U r M G oM
theorem Hz{n m:Nat}{D:eu}{row r:Int}(h:jw n m D.basic D.con row)(t:tV D.basic row r):lK n m 0 D row (-1) r:= .inl ⟨rfl,h,t,fun c C=>absurd C oM⟩
set_option maxRecDepth 100000 in
set_option maxHeartbeats 6400000 in
theorem I1(L:Lay)(m n:Nat)(D:eu)(w:World)(hT:fq w L m n D)(hm:m <= 4611686018427387904)(hn:n <= 4611686018427387904):
  Calls prog 129 #[.pointer (some ⟨L.gt,0,none⟩)] w fun e w'=>∃row col:Int,e= .returned (.tuple #[.int .i64 row, .int .i64 col]) /\ tX n m D row col /\ Below w.heap.size w w':=by
 have ah:=lH hT;obtain⟨sv,Av,lv,cv,tv,Bv,mv,dv,a2,a7⟩:=hT.st;unfold Lay.cells at a2;have h:=lH a2;clear a2 a7;have k1:=aI 1 h;have kl:=h.o.lt;clear hT;have a9:Hid (jw n 0 D.basic D.con (-1) /\ tV D.basic (-1) (-1)):=lH ⟨.inl ⟨rfl,fun c hc=>absurd hc oM⟩, .inl ⟨rfl,rfl⟩⟩;go_enter func129,ntmps129;go_wp2_with fail
 clear k1 kl h
 go_loopw [2,4,14] (fun rv lv iv wr=>∃ (k:Nat) (row a1:Int),k <= m /\ iv= .int .i64 k /\ rv= .int .i64 row /\ lv= .int .i64 a1 /\ Hid (jw n k D.basic D.con row /\ tV D.basic row a1) /\ Below w.heap.size w wr)
  (fun _ _ iv _=>m-(intOf iv).toNat)
 case atStart=>exact⟨0, -1, -1,Nat.zero_le _,rfl,rfl,rfl,a9,Below.refl _ _⟩
 case round=>
  clear a9;obtain⟨k,row,a1,hk,rfl,rfl,rfl,Z,a6⟩:=hrel;have Y:=lH a6;have HT:=lH (ah.o.below a6);clear a6;by_cases ai:((k:Nat):Int)<(m:Nat)
  ·have ac:k<m:=oM
   have a8:0<m:=oM
   rw[(HT.o.ab a8).1];obtain⟨sv,Av,lv,cv,tv,Bv,mv,dv,a2,a7⟩:=HT.o.st;unfold Lay.cells at a2;rw[(HT.o.ab a8).1,(HT.o.ab a8).2.1,(HT.o.ab a8).2.2] at a2;have h:=lH a2;clear a2 a7;have r:=lH ((HT.o.bas a8).at_ ac);obtain⟨sx,Ax,lx,cx,tx,Bx,mx,dx,aa,ae⟩:=((HT.o.con a8)).fO ac;have t:=lH aa;have Vx:=lH ae;clear aa ae;by_cases hf:¬n <= D.basic k
   ·have af:decide (n <= D.basic k)=false:=by simp;omega
    have HF:=lH hf;clear hf;obtain⟨G,O,T,a3⟩:=aT4 h.o;have X:=h.o.lt;have E:=r.o;have V:=eG r.o;obtain⟨F,M,R,U⟩:=t.o;have W:=t.o.lt;go_wp2_with fail
    clear G O T a3 X E V F M R U W;go_roundw
    case rel=>exact⟨k+1,row,a1,by omega,by simp,rfl,rfl,lH (⟨tT Z.o.1 (fun e=>absurd e HF.o),Z.o.2⟩),Y.o⟩
    case measure=>exact mZ
   ·have af:decide (n <= D.basic k)=true:=by simp;omega
    have HF:Hid (n <= D.basic k):=lH oM;clear hf;by_cases hc:0 <= D.con k
    ·have a0:decide (sgI (D.con k).num<0)=false:=by have:=hc;simp;exact pM hc
     have HC:=lH hc;have a5:=lH a0;clear hc a0;obtain⟨G,O,T,a3⟩:=aT4 h.o;have X:=h.o.lt;have E:=r.o;have V:=eG r.o;obtain⟨F,M,R,U⟩:=t.o;have W:=t.o.lt;go_wp2_with fail
     clear G O T a3 X E V F M R U W;refine(fU _ (D.con k) _ Vx.o).mono ?_;rintro e w1 ⟨rfl,C⟩;replace h:=rW h C;replace t:=lH (t.o.below C);replace r:=lH (cell_below C r.o);replace Y:=bT Y C;clear C;have a0:=a5.o;obtain⟨G,O,T,a3⟩:=aT4 h.o;have X:=h.o.lt;have E:=r.o;have V:=eG r.o;obtain⟨F,M,R,U⟩:=t.o;have W:=t.o.lt;go_wp2_with fail
     clear G O T a3 X E V F M R U W;go_roundw
     case rel=>exact⟨k+1,row,a1,by omega,by simp,rfl,rfl,lH (⟨tT Z.o.1 (fun _=>HC.o),Z.o.2⟩),Y.o⟩
     case measure=>exact mZ
    ·replace hc:D.con k<0:=Rat.not_le.1 hc;have a0:decide (sgI (D.con k).num<0)=true:=by simp;exact pK hc
     have HC:Hid (D.con k<0):=lH hc;have a5:=lH a0;clear hc a0;by_cases ho:a1= -1
     ·subst ho;obtain⟨G,O,T,a3⟩:=aT4 h.o;have X:=h.o.lt;have E:=r.o;have V:=eG r.o;obtain⟨F,M,R,U⟩:=t.o;have W:=t.o.lt;go_wp2_with fail
      clear G O T a3 X E V F M R U W;refine(fU _ (D.con k) _ Vx.o).mono ?_;rintro e w1 ⟨rfl,C⟩;replace h:=rW h C;replace t:=lH (t.o.below C);replace r:=lH (cell_below C r.o);replace Y:=bT Y C;clear C;have a0:=a5.o;obtain⟨G,O,T,a3⟩:=aT4 h.o;have X:=h.o.lt;have E:=r.o;have V:=eG r.o;obtain⟨F,M,R,U⟩:=t.o;have W:=t.o.lt;go_wp2_with fail
      clear G O T a3 X E V F M R U W;go_roundw
      case rel=>exact⟨k+1,(k:Nat),(D.basic k:Nat),by omega,by simp,rfl,rfl,lH (⟨Bj (by have h1:=Z.o.2;have h2:=Z.o.1;rcases h1 with ⟨rfl,_⟩ | ⟨z,_,h3⟩;exact h2;omega) HF.o HC.o, .inr ⟨k,rfl,rfl⟩⟩),Y.o⟩
      case measure=>exact mZ
     ·obtain⟨x,hx,hz⟩:∃x:Nat,a1=(x:Nat) /\ ∃z:Nat,row=(z:Nat) /\ x=D.basic z:=by rcases Z.o.2 with ⟨_,h1⟩ | ⟨z,h1,h2⟩;exact absurd h1 ho;exact⟨_,h2,z,h1,rfl⟩
      have HZ:=lH hz;clear hz;subst hx;have aj:decide (((x:Nat):Int)<0)=false:=by simp
      clear ho;by_cases hl:D.basic k<x
      ·have ag:decide (D.basic k<x)=true:=by simpa using hl
       have HL:=lH hl;clear hl;obtain⟨G,O,T,a3⟩:=aT4 h.o;have X:=h.o.lt;have E:=r.o;have V:=eG r.o;obtain⟨F,M,R,U⟩:=t.o;have W:=t.o.lt;go_wp2_with fail
       clear G O T a3 X E V F M R U W;refine(fU _ (D.con k) _ Vx.o).mono ?_;rintro e w1 ⟨rfl,C⟩;replace h:=rW h C;replace t:=lH (t.o.below C);replace r:=lH (cell_below C r.o);replace Y:=bT Y C;clear C;have a0:=a5.o;obtain⟨G,O,T,a3⟩:=aT4 h.o;have X:=h.o.lt;have E:=r.o;have V:=eG r.o;obtain⟨F,M,R,U⟩:=t.o;have W:=t.o.lt;go_wp2_with fail
       clear G O T a3 X E V F M R U W;go_roundw
       case rel=>exact⟨k+1,(k:Nat),(D.basic k:Nat),by omega,by simp,rfl,rfl,lH (⟨by obtain⟨z,h1,h2⟩:=HZ.o;have h3:=Z.o.1;rw[h1] at h3;exact Bl h3 HF.o HC.o (by have:=HL.o;omega), .inr ⟨k,rfl,rfl⟩⟩),Y.o⟩
       case measure=>exact mZ
      ·have ag:decide (D.basic k<x)=false:=by simpa using hl
       have HL:=lH hl;clear hl;obtain⟨G,O,T,a3⟩:=aT4 h.o;have X:=h.o.lt;have E:=r.o;have V:=eG r.o;obtain⟨F,M,R,U⟩:=t.o;have W:=t.o.lt;go_wp2_with fail
       clear G O T a3 X E V F M R U W;refine(fU _ (D.con k) _ Vx.o).mono ?_;rintro e w1 ⟨rfl,C⟩;replace h:=rW h C;replace t:=lH (t.o.below C);replace r:=lH (cell_below C r.o);replace Y:=bT Y C;clear C;have a0:=a5.o;obtain⟨G,O,T,a3⟩:=aT4 h.o;have X:=h.o.lt;have E:=r.o;have V:=eG r.o;obtain⟨F,M,R,U⟩:=t.o;have W:=t.o.lt;go_wp2_with fail
       clear G O T a3 X E V F M R U W;go_roundw
       case rel=>exact⟨k+1,row,(x:Nat),by omega,by simp,rfl,rfl,lH (⟨by obtain⟨z,h1,h2⟩:=HZ.o;have h3:=Z.o.1;rw[h1] at h3 ⊢;exact Bf h3 (by have:=HL.o;omega),Z.o.2⟩),Y.o⟩
       case measure=>exact mZ
  ·obtain rfl:m=k:=oM
   obtain⟨sv,Av,lv,cv,tv,Bv,mv,dv,a2,a7⟩:=HT.o.st;unfold Lay.cells at a2;have h:=lH a2;clear a2 a7;have k2:=aI 2 h;have kl:=h.o.lt;have a9:Hid (lK n m 0 D row (-1) a1):=lH (Hz Z.o.1 Z.o.2);go_wp2_with fail
   clear k2 kl h Z;obtain⟨wa,rfl⟩:=eX (wr)
   go_loopw [2,3,4,53] (fun rv cv lv iv wr=>∃ (k:Nat) (row col a1:Int),k <= n /\ iv= .int .i64 k /\ rv= .int .i64 row /\ cv= .int .i64 col /\ lv= .int .i64 a1 /\ Hid (lK n m k D row col a1) /\ Below w.heap.size w wr)
    (fun _ _ _ iv _=>n-(intOf iv).toNat)
   case atStart=>exact⟨0,row, -1,a1,Nat.zero_le _,rfl,rfl,rfl,rfl,a9,Y.o⟩
   case round=>
    clear a9 Y HT;obtain⟨k,row,col,a1,hk,rfl,rfl,rfl,rfl,Z,a6⟩:=hrel;have Y:=lH a6;have HT:=lH (ah.o.below a6);clear a6;by_cases ai:((k:Nat):Int)<(n:Nat)
    ·have ac:k<n:=oM
     have ad:0<n:=oM
     rw[(HT.o.ao ad).1];obtain⟨sv,Av,lv,cv,tv,Bv,mv,dv,a2,a7⟩:=HT.o.st;unfold Lay.cells at a2;rw[(HT.o.ao ad).1,(HT.o.ao ad).2] at a2;have h:=lH a2;clear a2 a7;have r:=lH ((HT.o.off ad).at_ ac);obtain⟨sx,Ax,lx,cx,tx,Bx,mx,dx,aa,ae⟩:=((HT.o.top ad)).fO ac;have t:=lH aa;have Vx:=lH ae;clear aa ae;by_cases hf:¬n <= D.off k
     ·have af:decide (n <= D.off k)=false:=by simp;omega
      have HF:=lH hf;clear hf;have G:=aI 0 h;have O:=aI 1 h;have T:=aI 2 h;have a4:=aI 5 h;have X:=h.o.lt;have E:=r.o;have V:=eG r.o;obtain⟨F,M,R,U⟩:=t.o;have W:=t.o.lt;go_wp2_with fail
      clear G O T a4 X E V F M R U W;go_roundw
      case rel=>exact⟨k+1,row,col,a1,by omega,by simp,rfl,rfl,rfl,lH (Bo Z.o (fun e=>absurd e HF.o)),Y.o⟩
      case measure=>exact mZ
     ·have af:decide (n <= D.off k)=true:=by simp;omega
      have HF:Hid (n <= D.off k):=lH oM;clear hf;by_cases hc:0 <= D.top k
      ·have a0:decide (sgI (D.top k).num<0)=false:=by have:=hc;simp;exact pM hc
       have HC:=lH hc;have a5:=lH a0;clear hc a0;have G:=aI 0 h;have O:=aI 1 h;have T:=aI 2 h;have a4:=aI 5 h;have X:=h.o.lt;have E:=r.o;have V:=eG r.o;obtain⟨F,M,R,U⟩:=t.o;have W:=t.o.lt;go_wp2_with fail
       clear G O T a4 X E V F M R U W;refine(fU _ (D.top k) _ Vx.o).mono ?_;rintro e w1 ⟨rfl,C⟩;replace h:=rW h C;replace t:=lH (t.o.below C);replace r:=lH (cell_below C r.o);replace Y:=bT Y C;clear C;have a0:=a5.o;have G:=aI 0 h;have O:=aI 1 h;have T:=aI 2 h;have a4:=aI 5 h;have X:=h.o.lt;have E:=r.o;have V:=eG r.o;obtain⟨F,M,R,U⟩:=t.o;have W:=t.o.lt;go_wp2_with fail
       clear G O T a4 X E V F M R U W;go_roundw
       case rel=>exact⟨k+1,row,col,a1,by omega,by simp,rfl,rfl,rfl,lH (Bo Z.o (fun _=>HC.o)),Y.o⟩
       case measure=>exact mZ
      ·replace hc:D.top k<0:=Rat.not_le.1 hc;have a0:decide (sgI (D.top k).num<0)=true:=by simp;exact pK hc
       have HC:Hid (D.top k<0):=lH hc;have a5:=lH a0;clear hc a0;by_cases ho:a1= -1
       ·subst ho;have G:=aI 0 h;have O:=aI 1 h;have T:=aI 2 h;have a4:=aI 5 h;have X:=h.o.lt;have E:=r.o;have V:=eG r.o;obtain⟨F,M,R,U⟩:=t.o;have W:=t.o.lt;go_wp2_with fail
        clear G O T a4 X E V F M R U W;refine(fU _ (D.top k) _ Vx.o).mono ?_;rintro e w1 ⟨rfl,C⟩;replace h:=rW h C;replace t:=lH (t.o.below C);replace r:=lH (cell_below C r.o);replace Y:=bT Y C;clear C;have a0:=a5.o;have G:=aI 0 h;have O:=aI 1 h;have T:=aI 2 h;have a4:=aI 5 h;have X:=h.o.lt;have E:=r.o;have V:=eG r.o;obtain⟨F,M,R,U⟩:=t.o;have W:=t.o.lt;go_wp2_with fail
        clear G O T a4 X E V F M R U W;go_roundw
        case rel=>exact⟨k+1, -1,(k:Nat),(D.off k:Nat),by omega,by simp,rfl,rfl,rfl,lH (Bt Z.o HF.o HC.o (fun l e=>absurd e oM)),Y.o⟩
        case measure=>exact mZ
       ·obtain⟨x,hx⟩:∃x:Nat,a1=(x:Nat):=by rcases Z.o with ⟨_,_,h1,_⟩ | ⟨y,_,_,h1,_⟩;rcases h1 with ⟨_,h1⟩ | ⟨z,_,h1⟩;exact absurd h1 ho;exact⟨_,h1⟩;exact⟨_,h1⟩
        subst hx;have aj:decide (((x:Nat):Int)<0)=false:=by simp
        clear ho;by_cases hl:D.off k<x
        ·have ag:decide (D.off k<x)=true:=by simpa using hl
         have HL:=lH hl;clear hl;have G:=aI 0 h;have O:=aI 1 h;have T:=aI 2 h;have a4:=aI 5 h;have X:=h.o.lt;have E:=r.o;have V:=eG r.o;obtain⟨F,M,R,U⟩:=t.o;have W:=t.o.lt;go_wp2_with fail
         clear G O T a4 X E V F M R U W;refine(fU _ (D.top k) _ Vx.o).mono ?_;rintro e w1 ⟨rfl,C⟩;replace h:=rW h C;replace t:=lH (t.o.below C);replace r:=lH (cell_below C r.o);replace Y:=bT Y C;clear C;have a0:=a5.o;have G:=aI 0 h;have O:=aI 1 h;have T:=aI 2 h;have a4:=aI 5 h;have X:=h.o.lt;have E:=r.o;have V:=eG r.o;obtain⟨F,M,R,U⟩:=t.o;have W:=t.o.lt;go_wp2_with fail
         clear G O T a4 X E V F M R U W;go_roundw
         case rel=>exact⟨k+1, -1,(k:Nat),(D.off k:Nat),by omega,by simp,rfl,rfl,rfl,lH (Bt Z.o HF.o HC.o (fun l e=>by have:=HL.o;omega)),Y.o⟩
         case measure=>exact mZ
        ·have ag:decide (D.off k<x)=false:=by simpa using hl
         have HL:=lH hl;clear hl;have G:=aI 0 h;have O:=aI 1 h;have T:=aI 2 h;have a4:=aI 5 h;have X:=h.o.lt;have E:=r.o;have V:=eG r.o;obtain⟨F,M,R,U⟩:=t.o;have W:=t.o.lt;go_wp2_with fail
         clear G O T a4 X E V F M R U W;refine(fU _ (D.top k) _ Vx.o).mono ?_;rintro e w1 ⟨rfl,C⟩;replace h:=rW h C;replace t:=lH (t.o.below C);replace r:=lH (cell_below C r.o);replace Y:=bT Y C;clear C;have a0:=a5.o;have G:=aI 0 h;have O:=aI 1 h;have T:=aI 2 h;have a4:=aI 5 h;have X:=h.o.lt;have E:=r.o;have V:=eG r.o;obtain⟨F,M,R,U⟩:=t.o;have W:=t.o.lt;go_wp2_with fail
         clear G O T a4 X E V F M R U W;go_roundw
         case rel=>exact⟨k+1,row,col,(x:Nat),by omega,by simp,rfl,rfl,rfl,lH (Hy Z.o HL.o),Y.o⟩
         case measure=>exact mZ
    ·obtain rfl:n=k:=oM
     go_wp2_with fail
     go_returns;exact⟨row,col,rfl,⟨a1,Z.o⟩,Y.o⟩
end
section
open Go.RowKit
open Lp (RL upd eu)
open Lp (sumTo spread)
def lZ(D:eu)(k c:Nat):Rat:=sumTo k (fun r=>if D.basic r=c then D.con r else 0)
theorem I4{n k:Nat}{D:eu}(h:n <= D.basic k)(c:Nat)(r:c<n):lZ D k c=lZ D (k+1) c:=by
 show _=lZ D k c+ (if D.basic k=c then D.con k else 0);rw[if_neg oM];grind
theorem I5{m n k:Nat}{D:eu}(h:D.Ok m n)(t:k<m)(c:Nat):upd (lZ D k) (D.basic k) (D.con k) c=lZ D (k+1) c:=by
 show _=lZ D k c+ (if D.basic k=c then D.con k else 0);by_cases e:c=D.basic k
 ·subst e;rw[Lp.upd_same,if_pos rfl];have:lZ D k (D.basic k)=0:=Lp.iX fun r C=>if_neg fun e=>by have:=h.bi r k oM t e;omega
  rw[this];grind
 ·rw[Lp.eT _ _ e,if_neg (fun e'=>e e'.symm)];grind
set_option maxRecDepth 100000 in
set_option maxHeartbeats 6400000 in
theorem r9(L:Lay)(m n:Nat)(D:eu)(w:World)(U:fq w L m n D)(a9:D.Ok m n)(hm:m <= 4398046511104)(hn:n <= 4398046511104):
  Calls prog 130 #[.pointer (some ⟨L.gt,0,none⟩)] w fun e w'=>∃g,e= .returned (.slice (some ⟨g,0,none⟩) n n) /\ w.heap.size <= g /\ RB w' g n (spread m D.basic D.con) /\ Below w.heap.size w w':=by
 have aq:=lH a9;clear a9;have G:=lH U;obtain⟨sv,Av,lv,cv,tv,Bv,mv,dv,t,M⟩:=U.st;unfold Lay.cells at t;have h:=lH t;clear t M;have k0:=aI 0 h;have kl:=h.o.lt;clear U;go_enter func130,ntmps130
 go_wp2_with (at_make;refine pu _ rfl (.tmp 9) (.tmp 9) rfl _ _ n rfl rfl rfl rfl hn ?_)
 intro w1 aa V aN;have a2:=lH aa;have a3:=lH V;have a4:=lH (G.o.below V);clear aa V k0 kl h;obtain⟨sv,Av,lv,cv,tv,Bv,mv,dv,t,M⟩:=a4.o.st;unfold Lay.cells at t;have h:=lH t;clear t M;have k1:=aI 1 h;have kl:=h.o.lt;go_wp2_with fail
 clear k1 kl h;have a1:=lH (a2.o.congr (f':=lZ D 0) (fun _ _=>rfl))
 go_loopw [16] (fun iv wr=>∃k:Nat,k <= m /\ iv= .int .i64 k /\ RB wr w.heap.size n (lZ D k) /\ Below w.heap.size w wr)
  (fun iv _=>m-(intOf iv).toNat)
 case atStart=>exact⟨0,Nat.zero_le _,rfl,a1.o,a3.o⟩
 case round=>
  clear a1 a2 a3 a4;obtain⟨k,hk,rfl,a7,X⟩:=hrel;have r:=lH a7;have C:=lH X;have E:=lH (G.o.below X);clear a7 X;by_cases aJ:((k:Nat):Int)<(m:Nat)
  ·have Z:k<m:=oM
   have F:0<m:=oM
   rw[(E.o.ab F).1];obtain⟨sv,Av,lv,cv,tv,Bv,mv,dv,t,M⟩:=E.o.st;unfold Lay.cells at t;rw[(E.o.ab F).1,(E.o.ab F).2.1,(E.o.ab F).2.2] at t;have h:=lH t;clear t M;have O:=lH ((E.o.bas F).at_ Z);obtain⟨sx,Ax,lx,cx,tx,Bx,mx,dx,a5,ad⟩:=((E.o.con F)).fO Z;have R:=lH a5;have Vx:=lH ad;clear a5 ad;clear E;by_cases Y:¬D.basic k<n
   ·have ar:decide (D.basic k<n)=false:=by simp;omega
    have HF:=lH Y;clear Y;have ah:=aI 0 h;have aj:=aI 1 h;have am:=aI 3 h;have ap:=h.o.lt;have af:=O.o;have an:=eG O.o;obtain⟨ag,ai,ak,al⟩:=R.o;have ao:=R.o.lt;go_wp2_with fail
    go_roundw
    case rel=>exact⟨k+1,by omega,by simp,r.o.congr (fun c hc=>I4 (by have:=HF.o;omega) c hc),C.o⟩
    case measure=>exact mZ
   ·have W:D.basic k<n:=oM
    have ar:decide (D.basic k<n)=true:=by simpa using W
    have aG:((D.basic k:Nat):Int)<(n:Nat):=oM
    clear Y;have aH:=r.o.lt;obtain⟨sy,Ay,ly,cy,ty,By,my,dy,a6,ae⟩:=(r.o).fO W;have T:=lH a6;have Vy:=lH ae;clear a6 ae;clear Vy;obtain⟨az,aA,aB,aC⟩:=T.o;have aD:=T.o.lt;clear T;have av:=r.o.free (D.basic k*4);have aw:=r.o.free (D.basic k*4+1);have ax:=r.o.free (D.basic k*4+2);have ay:=r.o.free (D.basic k*4+3);have aK:L.gk≠w.heap.size:=by have:=(G.o.con F).lt;omega
    have aL:L.gt≠w.heap.size:=by obtain⟨_,hr⟩:=G.o.nV;have:=hr.lt;omega
    have aM:L.gb≠w.heap.size:=by have:=(G.o.bas F).lt;omega
    have ah:=aI 0 h;have aj:=aI 1 h;have am:=aI 3 h;have ap:=h.o.lt;have af:=O.o;have an:=eG O.o;obtain⟨ag,ai,ak,al⟩:=R.o;have ao:=R.o.lt;have HZ:=C;have a8:World.grownBy wr ((((wr.setCell ⟨w.heap.size,(D.basic k)*4,none⟩ (.bool sx)).setCell ⟨w.heap.size,(D.basic k)*4+1,none⟩ (.slice Ax lx cx)).setCell ⟨w.heap.size,(D.basic k)*4+2,none⟩ (.bool tx)).setCell ⟨w.heap.size,(D.basic k)*4+3,none⟩ (.slice Bx mx dx)) (some w.heap.size):=il _ _ _ _ _ _ _ _ _ _;obtain⟨aF,au⟩:=r.o.row;have aE:=r.o.lt;have ac:=r.o.set W Vx.o;replace C:=lH (C.o.grown a8 C.o.size (by first | (simp;done) | (simp;omega)));replace r:=lH ac;obtain⟨w1,a0⟩:=eX (((((wr.setCell ⟨w.heap.size,(D.basic k)*4,none⟩ (.bool sx)).setCell ⟨w.heap.size,(D.basic k)*4+1,none⟩ (.slice Ax lx cx)).setCell ⟨w.heap.size,(D.basic k)*4+2,none⟩ (.bool tx)).setCell ⟨w.heap.size,(D.basic k)*4+3,none⟩ (.slice Bx mx dx)));rw[<- a0] at r C;clear a8 au ac aE;go_wp2_with fail
    rw[<- a0];clear a0 az aA aB aC aD av aw ax ay ah aj am ap af an ag ai ak al ao;go_roundw
    case rel=>exact⟨k+1,by omega,by simp,r.o.congr (fun c _=>I5 aq.o Z c),C.o⟩
    case measure=>exact mZ
  ·obtain rfl:m=k:=oM
   go_wp2_with fail
   go_returns;exact⟨_,rfl,Nat.le_refl _,r.o,C.o⟩
end
end Go.Proofs.YtdefghfjhgmpfaaGreatDoor
