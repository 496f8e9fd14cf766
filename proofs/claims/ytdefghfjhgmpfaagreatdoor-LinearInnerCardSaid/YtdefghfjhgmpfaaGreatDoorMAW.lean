/- Parts of this proof: Leave Wrong Point. -/
import Derived.Test.YtdefghfjhgmpfaaGreatDoorMAP
import Derived.Test.YtdefghfjhgmpfaaGreatDoorMAE
import Derived.Test.YtdefghfjhgmpfaaGreatDoorMAV
namespace Go.Proofs.YtdefghfjhgmpfaaGreatDoor
open Go.Proofs.Tryz
section
open Go.RowKit
open Lp (RL upd eu)
def jW(n b:Nat)(o:Nat -> Nat)(f:Nat -> Rat)(out:Int):Prop:=
 (out= -1 /\ ∀c,c<b -> n <= o c -> f c <= 0) \/ ∃x:Nat,out=(x:Nat) /\ x<b /\ n <= o x /\ 0<f x /\ ∀c,c<b -> n <= o c -> o c<o x -> f c <= 0
theorem Bn{n k:Nat}{o:Nat -> Nat}{f:Nat -> Rat}{out:Int}(h:jW n k o f out)(F:n <= o k -> f k <= 0):jW n (k+1) o f out:=by
 rcases h with ⟨h1,E⟩ | ⟨x,h1,E,G,M,O⟩
 ·exact .inl ⟨h1,fun c R t=>by by_cases e:c=k;subst e;exact F t;exact E c oM t⟩
 ·exact .inr ⟨x,h1,by omega,G,M,fun c R t T=>by by_cases e:c=k;subst e;exact F t;exact O c oM t T⟩
theorem Hr{n k x:Nat}{o:Nat -> Nat}{f:Nat -> Rat}(h:jW n k o f (x:Nat))(O:¬o k<o x):jW n (k+1) o f (x:Nat):=by
 rcases h with ⟨h1,E⟩ | ⟨y,h1,E,F,G,M⟩
 ·omega
 ·obtain rfl:x=y:=oM
  exact .inr ⟨x,rfl,by omega,F,G,fun c T R t=>by by_cases e:c=k;subst e;exact absurd t O;exact M c oM R t⟩
theorem Ht{n k:Nat}{o:Nat -> Nat}{f:Nat -> Rat}(h:jW n k o f (-1))(F:n <= o k)(E:0<f k):jW n (k+1) o f (k:Nat):=by
 rcases h with ⟨h1,t⟩ | ⟨x,h1,t,M,O,R⟩
 ·exact .inr ⟨k,rfl,by omega,F,E,fun c T G U=>by by_cases e:c=k;subst e;omega;exact t c oM G⟩
 ·omega
theorem Hu{n k x:Nat}{o:Nat -> Nat}{f:Nat -> Rat}(h:jW n k o f (x:Nat))(G:n <= o k)(F:0<f k)(U:o k<o x):jW n (k+1) o f (k:Nat):=by
 rcases h with ⟨h1,t⟩ | ⟨y,h1,t,O,R,E⟩
 ·omega
 ·obtain rfl:x=y:=oM
  exact .inr ⟨k,rfl,by omega,G,F,fun c T M X=>by by_cases e:c=k;subst e;omega;exact E c oM M oM⟩
set_option maxRecDepth 100000 in
set_option maxHeartbeats 6400000 in
theorem Hw(L:Lay)(m n j:Nat)(D:eu)(w:World)(hT:fq w L m n D)(hi:j<n)(hm:m <= 4611686018427387904)(hn:n <= 4611686018427387904):
  Calls prog 132 #[.pointer (some ⟨L.gt,0,none⟩), .int .i64 j] w fun e w'=>∃out:Int,e= .returned (.int .i64 out) /\ jW n m D.basic (fun r=>D.cell r j) out /\ Below w.heap.size w w':=by
 have ac:0<n:=oM
 have ak:=lH hT;obtain⟨sv,Av,lv,cv,tv,Bv,mv,dv,a6,ag⟩:=hT.st;unfold Lay.cells at a6;rw[(hT.ao ac).1,(hT.ao ac).2] at a6;have h:=lH a6;clear a6 ag;have k1:=aI 1 h;have kl:=h.o.lt;clear hT;have ah:Hid (jW n 0 D.basic (fun r=>D.cell r j) (-1)):=lH (.inl ⟨rfl,fun c hc=>absurd hc oM⟩);have aq:((j:Nat):Int)<(n:Nat):=oM
 go_enter func132,ntmps132;go_wp2_with fail
 clear k1 kl h
 go_loopw [5,13] (fun ov iv wr=>∃ (k:Nat) (out:Int),k <= m /\ iv= .int .i64 k /\ ov= .int .i64 out /\ Hid (jW n k D.basic (fun r=>D.cell r j) out) /\ Below w.heap.size w wr)
  (fun _ iv _=>m-(intOf iv).toNat)
 case atStart=>exact⟨0, -1,Nat.zero_le _,rfl,rfl,ah,Below.refl _ _⟩
 case round=>
  clear ah;obtain⟨k,out,hk,rfl,rfl,HS,ae⟩:=hrel;have HB:=lH ae;have HT:=lH (ak.o.below ae);clear ae;by_cases ar:((k:Nat):Int)<(m:Nat)
  ·have af:k<m:=oM
   have a8:0<m:=oM
   rw[(HT.o.ab a8).1];obtain⟨sv,Av,lv,cv,tv,Bv,mv,dv,a6,ag⟩:=HT.o.st;unfold Lay.cells at a6;rw[(HT.o.ab a8).1,(HT.o.ab a8).2.1,(HT.o.ab a8).2.2] at a6;rw[(HT.o.ao ac).1,(HT.o.ao ac).2] at a6;have h:=lH a6;clear a6 ag;have E:=lH ((HT.o.bas a8).at_ af);have F:=lH ((HT.o.out a8).at_ ac af);obtain⟨sx,Ax,lx,cx,tx,Bx,mx,dx,ai,aj⟩:=((HT.o.rows ac k af)).fO hi;have G:=lH ai;have Vx:=lH aj;clear ai aj;by_cases hf:¬n <= D.basic k
   ·have al:decide (n <= D.basic k)=false:=by simp;omega
    have HF:=lH hf;clear hf;have T:=aI 0 h;have X:=aI 1 h;have Z:=aI 2 h;have a1:=aI 4 h;have a5:=h.o.lt;have M:=E.o;have a2:=eG E.o;have O:=F.o;have a3:=eG F.o;obtain⟨R,U,Y,a0⟩:=G.o;have a4:=G.o.lt;go_wp2_with fail
    clear T X Z a1 a5 M a2 O a3 R U Y a0 a4;go_roundw
    case rel=>exact⟨k+1,out,by omega,by simp,rfl,lH (Bn HS.o (fun e=>absurd e HF.o)),HB.o⟩
    case measure=>exact mZ
   ·have al:decide (n <= D.basic k)=true:=by simp;omega
    have HF:Hid (n <= D.basic k):=lH oM;clear hf;by_cases hc:D.cell k j <= 0
    ·have a7:decide (0<sgI (D.cell k j).num)=false:=by have:=hc;simp;exact vT hc
     have HC:=lH hc;have ad:=lH a7;clear hc a7;have T:=aI 0 h;have X:=aI 1 h;have Z:=aI 2 h;have a1:=aI 4 h;have a5:=h.o.lt;have M:=E.o;have a2:=eG E.o;have O:=F.o;have a3:=eG F.o;obtain⟨R,U,Y,a0⟩:=G.o;have a4:=G.o.lt;go_wp2_with fail
     clear T X Z a1 a5 M a2 O a3 R U Y a0 a4;refine(fU _ (D.cell k j) _ Vx.o).mono ?_;rintro e w1 ⟨rfl,t⟩;replace h:=rW h t;replace G:=lH (G.o.below t);replace E:=lH (cell_below t E.o);replace F:=lH (cell_below t F.o);replace HB:=bT HB t;clear t;have a7:=ad.o;have T:=aI 0 h;have X:=aI 1 h;have Z:=aI 2 h;have a1:=aI 4 h;have a5:=h.o.lt;have M:=E.o;have a2:=eG E.o;have O:=F.o;have a3:=eG F.o;obtain⟨R,U,Y,a0⟩:=G.o;have a4:=G.o.lt;go_wp2_with fail
     clear T X Z a1 a5 M a2 O a3 R U Y a0 a4;go_roundw
     case rel=>exact⟨k+1,out,by omega,by simp,rfl,lH (Bn HS.o (fun _=>HC.o)),HB.o⟩
     case measure=>exact mZ
    ·replace hc:0<D.cell k j:=Rat.not_le.1 hc;have a7:decide (0<sgI (D.cell k j).num)=true:=by simp;exact vS hc
     have HC:Hid (0<D.cell k j):=lH hc;have ad:=lH a7;clear hc a7;by_cases ho:out= -1
     ·obtain rfl:out= -1:=ho;have ap:=HS;have T:=aI 0 h;have X:=aI 1 h;have Z:=aI 2 h;have a1:=aI 4 h;have a5:=h.o.lt;have M:=E.o;have a2:=eG E.o;have O:=F.o;have a3:=eG F.o;obtain⟨R,U,Y,a0⟩:=G.o;have a4:=G.o.lt;go_wp2_with fail
      clear T X Z a1 a5 M a2 O a3 R U Y a0 a4;refine(fU _ (D.cell k j) _ Vx.o).mono ?_;rintro e w1 ⟨rfl,t⟩;replace h:=rW h t;replace G:=lH (G.o.below t);replace E:=lH (cell_below t E.o);replace F:=lH (cell_below t F.o);replace HB:=bT HB t;clear t;have a7:=ad.o;have T:=aI 0 h;have X:=aI 1 h;have Z:=aI 2 h;have a1:=aI 4 h;have a5:=h.o.lt;have M:=E.o;have a2:=eG E.o;have O:=F.o;have a3:=eG F.o;obtain⟨R,U,Y,a0⟩:=G.o;have a4:=G.o.lt;go_wp2_with fail
      clear T X Z a1 a5 M a2 O a3 R U Y a0 a4;go_roundw
      case rel=>exact⟨k+1,(k:Nat),by omega,by simp,rfl,lH (Ht HS.o HF.o HC.o),HB.o⟩
      case measure=>exact mZ
     ·obtain⟨x,hx⟩:∃x:Nat,out=(x:Nat):=by rcases HS.o with ⟨h1,_⟩ | ⟨x,h1,_⟩;exact absurd h1 ho;exact⟨x,h1⟩
      subst hx;have an:x<m:=by rcases HS.o with ⟨h1,_⟩ | ⟨y,h1,h2,_⟩;omega;omega
      have au:decide (((x:Nat):Int)<0)=false:=by simp
      have av:((x:Nat):Int)<(m:Nat):=oM
      clear ho;have C2:=lH ((HT.o.bas a8).at_ an);by_cases hl:D.basic k<D.basic x
      ·have am:decide (D.basic k<D.basic x)=true:=by simpa using hl
       have HL:=lH hl;clear hl;have T:=aI 0 h;have X:=aI 1 h;have Z:=aI 2 h;have a1:=aI 4 h;have a5:=h.o.lt;have M:=E.o;have a2:=eG E.o;have O:=F.o;have a3:=eG F.o;obtain⟨R,U,Y,a0⟩:=G.o;have a4:=G.o.lt;have a9:=C2.o;have aa:=eG C2.o;go_wp2_with fail
       clear T X Z a1 a5 M a2 O a3 R U Y a0 a4 a9 aa;refine(fU _ (D.cell k j) _ Vx.o).mono ?_;rintro e w1 ⟨rfl,t⟩;replace h:=rW h t;replace G:=lH (G.o.below t);replace E:=lH (cell_below t E.o);replace F:=lH (cell_below t F.o);replace C2:=lH (cell_below t C2.o);replace HB:=bT HB t;clear t;have a7:=ad.o;have T:=aI 0 h;have X:=aI 1 h;have Z:=aI 2 h;have a1:=aI 4 h;have a5:=h.o.lt;have M:=E.o;have a2:=eG E.o;have O:=F.o;have a3:=eG F.o;obtain⟨R,U,Y,a0⟩:=G.o;have a4:=G.o.lt;have a9:=C2.o;have aa:=eG C2.o;go_wp2_with fail
       clear T X Z a1 a5 M a2 O a3 R U Y a0 a4 a9 aa;go_roundw
       case rel=>exact⟨k+1,(k:Nat),by omega,by simp,rfl,lH (Hu HS.o HF.o HC.o HL.o),HB.o⟩
       case measure=>exact mZ
      ·have am:decide (D.basic k<D.basic x)=false:=by simpa using hl
       have HL:=lH hl;clear hl;have T:=aI 0 h;have X:=aI 1 h;have Z:=aI 2 h;have a1:=aI 4 h;have a5:=h.o.lt;have M:=E.o;have a2:=eG E.o;have O:=F.o;have a3:=eG F.o;obtain⟨R,U,Y,a0⟩:=G.o;have a4:=G.o.lt;have a9:=C2.o;have aa:=eG C2.o;go_wp2_with fail
       clear T X Z a1 a5 M a2 O a3 R U Y a0 a4 a9 aa;refine(fU _ (D.cell k j) _ Vx.o).mono ?_;rintro e w1 ⟨rfl,t⟩;replace h:=rW h t;replace G:=lH (G.o.below t);replace E:=lH (cell_below t E.o);replace F:=lH (cell_below t F.o);replace C2:=lH (cell_below t C2.o);replace HB:=bT HB t;clear t;have a7:=ad.o;have T:=aI 0 h;have X:=aI 1 h;have Z:=aI 2 h;have a1:=aI 4 h;have a5:=h.o.lt;have M:=E.o;have a2:=eG E.o;have O:=F.o;have a3:=eG F.o;obtain⟨R,U,Y,a0⟩:=G.o;have a4:=G.o.lt;have a9:=C2.o;have aa:=eG C2.o;go_wp2_with fail
       clear T X Z a1 a5 M a2 O a3 R U Y a0 a4 a9 aa;go_roundw
       case rel=>exact⟨k+1,(x:Nat),by omega,by simp,rfl,lH (Hr HS.o HL.o),HB.o⟩
       case measure=>exact mZ
  ·obtain rfl:m=k:=oM
   go_wp2_with fail
   go_returns;exact⟨out,rfl,HS.o,HB.o⟩
end
section
open Go.RowKit
open Lp (RL upd eu)
def tV(o:Nat -> Nat)(row least:Int):Prop:=(row= -1 /\ least= -1) \/ ∃x:Nat,row=(x:Nat) /\ least=(o x:Nat)
def lK(n m k:Nat)(D:eu)(row col least:Int):Prop:=
 (col= -1 /\ jw n m D.basic D.con row /\ tV D.basic row least /\ ∀c,c<k -> n <= D.off c -> (∀l:Nat,least=(l:Nat) -> D.off c<l) -> 0 <= D.top c) \/
 ∃y:Nat,row= -1 /\ col=(y:Nat) /\ least=(D.off y:Nat) /\ y<k /\ n <= D.off y /\ D.top y<0 /\ (∀c,c<k -> n <= D.off c -> D.off c<D.off y -> 0 <= D.top c) /\ ∀r,r<m -> n <= D.basic r -> D.basic r<D.off y -> 0 <= D.con r
def tX(n m:Nat)(D:eu)(row col:Int):Prop:=∃least,lK n m n D row col least
theorem Bo{n m k:Nat}{D:eu}{row col R:Int}(h:lK n m k D row col R)(O:n <= D.off k -> 0 <= D.top k):lK n m (k+1) D row col R:=by
 rcases h with ⟨h1,E,F,M⟩ | ⟨y,h1,E,F,M,T,U,X,Y⟩
 ·exact .inl ⟨h1,E,F,fun c Z t G=>by by_cases e:c=k;subst e;exact O t;exact M c oM t G⟩
 ·exact .inr ⟨y,h1,E,F,by omega,T,U,fun c Z t G=>by by_cases e:c=k;subst e;exact O t;exact X c oM t G,Y⟩
theorem Hy{n m k l:Nat}{D:eu}{row col:Int}(h:lK n m k D row col (l:Nat))(Y:¬D.off k<l):lK n m (k+1) D row col (l:Nat):=by
 rcases h with ⟨h1,E,F,M⟩ | ⟨y,h1,E,F,M,O,R,T,U⟩
 ·exact .inl ⟨h1,E,F,fun c X G t=>by by_cases e:c=k;subst e;exact absurd (t l rfl) Y;exact M c oM G t⟩
 ·exact .inr ⟨y,h1,E,F,by omega,O,R,fun c X G t=>by by_cases e:c=k;subst e;omega;exact T c oM G t,U⟩
theorem Bt{n m k:Nat}{D:eu}{row col Z:Int}(h:lK n m k D row col Z)(hn:n <= D.off k)(hb:D.top k<0)(G:∀l:Nat,Z=(l:Nat) -> D.off k<l):lK n m (k+1) D (-1) (k:Nat) (D.off k:Nat):=by
 refine .inr ⟨k,rfl,rfl,rfl,by omega,hn,hb,fun c hc Y a0=> ?_,fun r O M a1=> ?_⟩
 ·by_cases e:c=k
  ·subst e;omega
  ·rcases h with ⟨h1,E,t,F⟩ | ⟨y,h1,E,t,F,h5,h6,U,X⟩
   ·exact F c oM Y fun l e'=>by have:=G l e';omega
   ·exact U c oM Y (by have:=G _ t;omega)
 ·rcases h with ⟨h1,E,t,F⟩ | ⟨y,h1,E,t,F,h5,h6,U,X⟩
  ·rcases E with ⟨g1,T⟩ | ⟨x,g1,T,g3,g4,g5⟩
   ·exact T r O M
   ·rcases t with ⟨f1,R⟩ | ⟨z,f1,R⟩
    ·omega
    ·obtain rfl:x=z:=oM
     have:=G _ R;exact g5 r O M oM
  ·have:=G _ t;exact X r O M oM
theorem Hz{n m:Nat}{D:eu}{row t:Int}(h:jw n m D.basic D.con row)(E:tV D.basic row t):lK n m 0 D row (-1) t:= .inl ⟨rfl,h,E,fun c F=>absurd F oM⟩
set_option maxRecDepth 100000 in
set_option maxHeartbeats 6400000 in
theorem I1(L:Lay)(m n:Nat)(D:eu)(w:World)(hT:fq w L m n D)(hm:m <= 4611686018427387904)(hn:n <= 4611686018427387904):
  Calls prog 129 #[.pointer (some ⟨L.gt,0,none⟩)] w fun e w'=>∃row col:Int,e= .returned (.tuple #[.int .i64 row, .int .i64 col]) /\ tX n m D row col /\ Below w.heap.size w w':=by
 have aj:=lH hT;obtain⟨sv,Av,lv,cv,tv,Bv,mv,dv,a4,a9⟩:=hT.st;unfold Lay.cells at a4;have h:=lH a4;clear a4 a9;have k1:=aI 1 h;have kl:=h.o.lt;clear hT;have ac:Hid (jw n 0 D.basic D.con (-1) /\ tV D.basic (-1) (-1)):=lH ⟨.inl ⟨rfl,fun c hc=>absurd hc oM⟩, .inl ⟨rfl,rfl⟩⟩;go_enter func129,ntmps129;go_wp2_with fail
 clear k1 kl h
 go_loopw [2,4,14] (fun rv lv iv wr=>∃ (k:Nat) (row a3:Int),k <= m /\ iv= .int .i64 k /\ rv= .int .i64 row /\ lv= .int .i64 a3 /\ Hid (jw n k D.basic D.con row /\ tV D.basic row a3) /\ Below w.heap.size w wr)
  (fun _ _ iv _=>m-(intOf iv).toNat)
 case atStart=>exact⟨0, -1, -1,Nat.zero_le _,rfl,rfl,rfl,ac,Below.refl _ _⟩
 case round=>
  clear ac;obtain⟨k,row,a3,hk,rfl,rfl,rfl,HS,a8⟩:=hrel;have HB:=lH a8;have HT:=lH (aj.o.below a8);clear a8;by_cases ak:((k:Nat):Int)<(m:Nat)
  ·have ae:k<m:=oM
   have aa:0<m:=oM
   rw[(HT.o.ab aa).1];obtain⟨sv,Av,lv,cv,tv,Bv,mv,dv,a4,a9⟩:=HT.o.st;unfold Lay.cells at a4;rw[(HT.o.ab aa).1,(HT.o.ab aa).2.1,(HT.o.ab aa).2.2] at a4;have h:=lH a4;clear a4 a9;have t:=lH ((HT.o.bas aa).at_ ae);obtain⟨sx,Ax,lx,cx,tx,Bx,mx,dx,ad,ag⟩:=((HT.o.con aa)).fO ae;have E:=lH ad;have Vx:=lH ag;clear ad ag;by_cases hf:¬n <= D.basic k
   ·have ah:decide (n <= D.basic k)=false:=by simp;omega
    have HF:=lH hf;clear hf;obtain⟨O,T,X,a5⟩:=aT4 h.o;have a1:=h.o.lt;have G:=t.o;have Z:=eG t.o;obtain⟨M,R,U,Y⟩:=E.o;have a0:=E.o.lt;go_wp2_with fail
    clear O T X a5 a1 G Z M R U Y a0;go_roundw
    case rel=>exact⟨k+1,row,a3,by omega,by simp,rfl,rfl,lH (⟨tT HS.o.1 (fun e=>absurd e HF.o),HS.o.2⟩),HB.o⟩
    case measure=>exact mZ
   ·have ah:decide (n <= D.basic k)=true:=by simp;omega
    have HF:Hid (n <= D.basic k):=lH oM;clear hf;by_cases hc:0 <= D.con k
    ·have a2:decide (sgI (D.con k).num<0)=false:=by have:=hc;simp;exact pM hc
     have HC:=lH hc;have a7:=lH a2;clear hc a2;obtain⟨O,T,X,a5⟩:=aT4 h.o;have a1:=h.o.lt;have G:=t.o;have Z:=eG t.o;obtain⟨M,R,U,Y⟩:=E.o;have a0:=E.o.lt;go_wp2_with fail
     clear O T X a5 a1 G Z M R U Y a0;refine(fU _ (D.con k) _ Vx.o).mono ?_;rintro e w1 ⟨rfl,F⟩;replace h:=rW h F;replace E:=lH (E.o.below F);replace t:=lH (cell_below F t.o);replace HB:=bT HB F;clear F;have a2:=a7.o;obtain⟨O,T,X,a5⟩:=aT4 h.o;have a1:=h.o.lt;have G:=t.o;have Z:=eG t.o;obtain⟨M,R,U,Y⟩:=E.o;have a0:=E.o.lt;go_wp2_with fail
     clear O T X a5 a1 G Z M R U Y a0;go_roundw
     case rel=>exact⟨k+1,row,a3,by omega,by simp,rfl,rfl,lH (⟨tT HS.o.1 (fun _=>HC.o),HS.o.2⟩),HB.o⟩
     case measure=>exact mZ
    ·replace hc:D.con k<0:=Rat.not_le.1 hc;have a2:decide (sgI (D.con k).num<0)=true:=by simp;exact pK hc
     have HC:Hid (D.con k<0):=lH hc;have a7:=lH a2;clear hc a2;by_cases ho:a3= -1
     ·subst ho;obtain⟨O,T,X,a5⟩:=aT4 h.o;have a1:=h.o.lt;have G:=t.o;have Z:=eG t.o;obtain⟨M,R,U,Y⟩:=E.o;have a0:=E.o.lt;go_wp2_with fail
      clear O T X a5 a1 G Z M R U Y a0;refine(fU _ (D.con k) _ Vx.o).mono ?_;rintro e w1 ⟨rfl,F⟩;replace h:=rW h F;replace E:=lH (E.o.below F);replace t:=lH (cell_below F t.o);replace HB:=bT HB F;clear F;have a2:=a7.o;obtain⟨O,T,X,a5⟩:=aT4 h.o;have a1:=h.o.lt;have G:=t.o;have Z:=eG t.o;obtain⟨M,R,U,Y⟩:=E.o;have a0:=E.o.lt;go_wp2_with fail
      clear O T X a5 a1 G Z M R U Y a0;go_roundw
      case rel=>exact⟨k+1,(k:Nat),(D.basic k:Nat),by omega,by simp,rfl,rfl,lH (⟨Bj (by have h1:=HS.o.2;have h2:=HS.o.1;rcases h1 with ⟨rfl,_⟩ | ⟨z,_,h3⟩;exact h2;omega) HF.o HC.o, .inr ⟨k,rfl,rfl⟩⟩),HB.o⟩
      case measure=>exact mZ
     ·obtain⟨x,hx,hz⟩:∃x:Nat,a3=(x:Nat) /\ ∃z:Nat,row=(z:Nat) /\ x=D.basic z:=by rcases HS.o.2 with ⟨_,h1⟩ | ⟨z,h1,h2⟩;exact absurd h1 ho;exact⟨_,h2,z,h1,rfl⟩
      have HZ:=lH hz;clear hz;subst hx;have al:decide (((x:Nat):Int)<0)=false:=by simp
      clear ho;by_cases hl:D.basic k<x
      ·have ai:decide (D.basic k<x)=true:=by simpa using hl
       have HL:=lH hl;clear hl;obtain⟨O,T,X,a5⟩:=aT4 h.o;have a1:=h.o.lt;have G:=t.o;have Z:=eG t.o;obtain⟨M,R,U,Y⟩:=E.o;have a0:=E.o.lt;go_wp2_with fail
       clear O T X a5 a1 G Z M R U Y a0;refine(fU _ (D.con k) _ Vx.o).mono ?_;rintro e w1 ⟨rfl,F⟩;replace h:=rW h F;replace E:=lH (E.o.below F);replace t:=lH (cell_below F t.o);replace HB:=bT HB F;clear F;have a2:=a7.o;obtain⟨O,T,X,a5⟩:=aT4 h.o;have a1:=h.o.lt;have G:=t.o;have Z:=eG t.o;obtain⟨M,R,U,Y⟩:=E.o;have a0:=E.o.lt;go_wp2_with fail
       clear O T X a5 a1 G Z M R U Y a0;go_roundw
       case rel=>exact⟨k+1,(k:Nat),(D.basic k:Nat),by omega,by simp,rfl,rfl,lH (⟨by obtain⟨z,h1,h2⟩:=HZ.o;have h3:=HS.o.1;rw[h1] at h3;exact Bl h3 HF.o HC.o (by have:=HL.o;omega), .inr ⟨k,rfl,rfl⟩⟩),HB.o⟩
       case measure=>exact mZ
      ·have ai:decide (D.basic k<x)=false:=by simpa using hl
       have HL:=lH hl;clear hl;obtain⟨O,T,X,a5⟩:=aT4 h.o;have a1:=h.o.lt;have G:=t.o;have Z:=eG t.o;obtain⟨M,R,U,Y⟩:=E.o;have a0:=E.o.lt;go_wp2_with fail
       clear O T X a5 a1 G Z M R U Y a0;refine(fU _ (D.con k) _ Vx.o).mono ?_;rintro e w1 ⟨rfl,F⟩;replace h:=rW h F;replace E:=lH (E.o.below F);replace t:=lH (cell_below F t.o);replace HB:=bT HB F;clear F;have a2:=a7.o;obtain⟨O,T,X,a5⟩:=aT4 h.o;have a1:=h.o.lt;have G:=t.o;have Z:=eG t.o;obtain⟨M,R,U,Y⟩:=E.o;have a0:=E.o.lt;go_wp2_with fail
       clear O T X a5 a1 G Z M R U Y a0;go_roundw
       case rel=>exact⟨k+1,row,(x:Nat),by omega,by simp,rfl,rfl,lH (⟨by obtain⟨z,h1,h2⟩:=HZ.o;have h3:=HS.o.1;rw[h1] at h3 ⊢;exact Bf h3 (by have:=HL.o;omega),HS.o.2⟩),HB.o⟩
       case measure=>exact mZ
  ·obtain rfl:m=k:=oM
   obtain⟨sv,Av,lv,cv,tv,Bv,mv,dv,a4,a9⟩:=HT.o.st;unfold Lay.cells at a4;have h:=lH a4;clear a4 a9;have k2:=aI 2 h;have kl:=h.o.lt;have ac:Hid (lK n m 0 D row (-1) a3):=lH (Hz HS.o.1 HS.o.2);go_wp2_with fail
   clear k2 kl h HS;obtain⟨wa,rfl⟩:=eX (wr)
   go_loopw [2,3,4,53] (fun rv cv lv iv wr=>∃ (k:Nat) (row col a3:Int),k <= n /\ iv= .int .i64 k /\ rv= .int .i64 row /\ cv= .int .i64 col /\ lv= .int .i64 a3 /\ Hid (lK n m k D row col a3) /\ Below w.heap.size w wr)
    (fun _ _ _ iv _=>n-(intOf iv).toNat)
   case atStart=>exact⟨0,row, -1,a3,Nat.zero_le _,rfl,rfl,rfl,rfl,ac,HB.o⟩
   case round=>
    clear ac HB HT;obtain⟨k,row,col,a3,hk,rfl,rfl,rfl,rfl,HS,a8⟩:=hrel;have HB:=lH a8;have HT:=lH (aj.o.below a8);clear a8;by_cases ak:((k:Nat):Int)<(n:Nat)
    ·have ae:k<n:=oM
     have af:0<n:=oM
     rw[(HT.o.ao af).1];obtain⟨sv,Av,lv,cv,tv,Bv,mv,dv,a4,a9⟩:=HT.o.st;unfold Lay.cells at a4;rw[(HT.o.ao af).1,(HT.o.ao af).2] at a4;have h:=lH a4;clear a4 a9;have t:=lH ((HT.o.off af).at_ ae);obtain⟨sx,Ax,lx,cx,tx,Bx,mx,dx,ad,ag⟩:=((HT.o.top af)).fO ae;have E:=lH ad;have Vx:=lH ag;clear ad ag;by_cases hf:¬n <= D.off k
     ·have ah:decide (n <= D.off k)=false:=by simp;omega
      have HF:=lH hf;clear hf;have O:=aI 0 h;have T:=aI 1 h;have X:=aI 2 h;have a6:=aI 5 h;have a1:=h.o.lt;have G:=t.o;have Z:=eG t.o;obtain⟨M,R,U,Y⟩:=E.o;have a0:=E.o.lt;go_wp2_with fail
      clear O T X a6 a1 G Z M R U Y a0;go_roundw
      case rel=>exact⟨k+1,row,col,a3,by omega,by simp,rfl,rfl,rfl,lH (Bo HS.o (fun e=>absurd e HF.o)),HB.o⟩
      case measure=>exact mZ
     ·have ah:decide (n <= D.off k)=true:=by simp;omega
      have HF:Hid (n <= D.off k):=lH oM;clear hf;by_cases hc:0 <= D.top k
      ·have a2:decide (sgI (D.top k).num<0)=false:=by have:=hc;simp;exact pM hc
       have HC:=lH hc;have a7:=lH a2;clear hc a2;have O:=aI 0 h;have T:=aI 1 h;have X:=aI 2 h;have a6:=aI 5 h;have a1:=h.o.lt;have G:=t.o;have Z:=eG t.o;obtain⟨M,R,U,Y⟩:=E.o;have a0:=E.o.lt;go_wp2_with fail
       clear O T X a6 a1 G Z M R U Y a0;refine(fU _ (D.top k) _ Vx.o).mono ?_;rintro e w1 ⟨rfl,F⟩;replace h:=rW h F;replace E:=lH (E.o.below F);replace t:=lH (cell_below F t.o);replace HB:=bT HB F;clear F;have a2:=a7.o;have O:=aI 0 h;have T:=aI 1 h;have X:=aI 2 h;have a6:=aI 5 h;have a1:=h.o.lt;have G:=t.o;have Z:=eG t.o;obtain⟨M,R,U,Y⟩:=E.o;have a0:=E.o.lt;go_wp2_with fail
       clear O T X a6 a1 G Z M R U Y a0;go_roundw
       case rel=>exact⟨k+1,row,col,a3,by omega,by simp,rfl,rfl,rfl,lH (Bo HS.o (fun _=>HC.o)),HB.o⟩
       case measure=>exact mZ
      ·replace hc:D.top k<0:=Rat.not_le.1 hc;have a2:decide (sgI (D.top k).num<0)=true:=by simp;exact pK hc
       have HC:Hid (D.top k<0):=lH hc;have a7:=lH a2;clear hc a2;by_cases ho:a3= -1
       ·subst ho;have O:=aI 0 h;have T:=aI 1 h;have X:=aI 2 h;have a6:=aI 5 h;have a1:=h.o.lt;have G:=t.o;have Z:=eG t.o;obtain⟨M,R,U,Y⟩:=E.o;have a0:=E.o.lt;go_wp2_with fail
        clear O T X a6 a1 G Z M R U Y a0;refine(fU _ (D.top k) _ Vx.o).mono ?_;rintro e w1 ⟨rfl,F⟩;replace h:=rW h F;replace E:=lH (E.o.below F);replace t:=lH (cell_below F t.o);replace HB:=bT HB F;clear F;have a2:=a7.o;have O:=aI 0 h;have T:=aI 1 h;have X:=aI 2 h;have a6:=aI 5 h;have a1:=h.o.lt;have G:=t.o;have Z:=eG t.o;obtain⟨M,R,U,Y⟩:=E.o;have a0:=E.o.lt;go_wp2_with fail
        clear O T X a6 a1 G Z M R U Y a0;go_roundw
        case rel=>exact⟨k+1, -1,(k:Nat),(D.off k:Nat),by omega,by simp,rfl,rfl,rfl,lH (Bt HS.o HF.o HC.o (fun l e=>absurd e oM)),HB.o⟩
        case measure=>exact mZ
       ·obtain⟨x,hx⟩:∃x:Nat,a3=(x:Nat):=by rcases HS.o with ⟨_,_,h1,_⟩ | ⟨y,_,_,h1,_⟩;rcases h1 with ⟨_,h1⟩ | ⟨z,_,h1⟩;exact absurd h1 ho;exact⟨_,h1⟩;exact⟨_,h1⟩
        subst hx;have al:decide (((x:Nat):Int)<0)=false:=by simp
        clear ho;by_cases hl:D.off k<x
        ·have ai:decide (D.off k<x)=true:=by simpa using hl
         have HL:=lH hl;clear hl;have O:=aI 0 h;have T:=aI 1 h;have X:=aI 2 h;have a6:=aI 5 h;have a1:=h.o.lt;have G:=t.o;have Z:=eG t.o;obtain⟨M,R,U,Y⟩:=E.o;have a0:=E.o.lt;go_wp2_with fail
         clear O T X a6 a1 G Z M R U Y a0;refine(fU _ (D.top k) _ Vx.o).mono ?_;rintro e w1 ⟨rfl,F⟩;replace h:=rW h F;replace E:=lH (E.o.below F);replace t:=lH (cell_below F t.o);replace HB:=bT HB F;clear F;have a2:=a7.o;have O:=aI 0 h;have T:=aI 1 h;have X:=aI 2 h;have a6:=aI 5 h;have a1:=h.o.lt;have G:=t.o;have Z:=eG t.o;obtain⟨M,R,U,Y⟩:=E.o;have a0:=E.o.lt;go_wp2_with fail
         clear O T X a6 a1 G Z M R U Y a0;go_roundw
         case rel=>exact⟨k+1, -1,(k:Nat),(D.off k:Nat),by omega,by simp,rfl,rfl,rfl,lH (Bt HS.o HF.o HC.o (fun l e=>by have:=HL.o;omega)),HB.o⟩
         case measure=>exact mZ
        ·have ai:decide (D.off k<x)=false:=by simpa using hl
         have HL:=lH hl;clear hl;have O:=aI 0 h;have T:=aI 1 h;have X:=aI 2 h;have a6:=aI 5 h;have a1:=h.o.lt;have G:=t.o;have Z:=eG t.o;obtain⟨M,R,U,Y⟩:=E.o;have a0:=E.o.lt;go_wp2_with fail
         clear O T X a6 a1 G Z M R U Y a0;refine(fU _ (D.top k) _ Vx.o).mono ?_;rintro e w1 ⟨rfl,F⟩;replace h:=rW h F;replace E:=lH (E.o.below F);replace t:=lH (cell_below F t.o);replace HB:=bT HB F;clear F;have a2:=a7.o;have O:=aI 0 h;have T:=aI 1 h;have X:=aI 2 h;have a6:=aI 5 h;have a1:=h.o.lt;have G:=t.o;have Z:=eG t.o;obtain⟨M,R,U,Y⟩:=E.o;have a0:=E.o.lt;go_wp2_with fail
         clear O T X a6 a1 G Z M R U Y a0;go_roundw
         case rel=>exact⟨k+1,row,col,(x:Nat),by omega,by simp,rfl,rfl,rfl,lH (Hy HS.o HL.o),HB.o⟩
         case measure=>exact mZ
    ·obtain rfl:n=k:=oM
     go_wp2_with fail
     go_returns;exact⟨row,col,rfl,⟨a3,HS.o⟩,HB.o⟩
end
section
open Go.RowKit
open Lp (RL upd eu)
open Lp (sumTo spread)
def lZ(D:eu)(k c:Nat):Rat:=sumTo k (fun r=>if D.basic r=c then D.con r else 0)
theorem I4{n k:Nat}{D:eu}(h:n <= D.basic k)(c:Nat)(t:c<n):lZ D k c=lZ D (k+1) c:=by
 show _=lZ D k c+ (if D.basic k=c then D.con k else 0);rw[if_neg oM];grind
theorem I5{m n k:Nat}{D:eu}(h:D.Ok m n)(t:k<m)(c:Nat):upd (lZ D k) (D.basic k) (D.con k) c=lZ D (k+1) c:=by
 show _=lZ D k c+ (if D.basic k=c then D.con k else 0);by_cases e:c=D.basic k
 ·subst e;rw[Lp.upd_same,if_pos rfl];have:lZ D k (D.basic k)=0:=Lp.iX fun r E=>if_neg fun e=>by have:=h.bi r k oM t e;omega
  rw[this];grind
 ·rw[Lp.eT _ _ e,if_neg (fun e'=>e e'.symm)];grind
set_option maxRecDepth 100000 in
set_option maxHeartbeats 6400000 in
theorem r9(L:Lay)(m n:Nat)(D:eu)(w:World)(Y:fq w L m n D)(ad:D.Ok m n)(hm:m <= 4398046511104)(hn:n <= 4398046511104):
  Calls prog 130 #[.pointer (some ⟨L.gt,0,none⟩)] w fun e w'=>∃g,e= .returned (.slice (some ⟨g,0,none⟩) n n) /\ w.heap.size <= g /\ RB w' g n (spread m D.basic D.con) /\ Below w.heap.size w w':=by
 have av:=lH ad;clear ad;have O:=lH Y;obtain⟨sv,Av,lv,cv,tv,Bv,mv,dv,E,R⟩:=Y.st;unfold Lay.cells at E;have h:=lH E;clear E R;have k0:=aI 0 h;have kl:=h.o.lt;clear Y;go_enter func130,ntmps130
 go_wp2_with (at_make;refine pu _ rfl (.tmp 9) (.tmp 9) rfl _ _ n rfl rfl rfl rfl hn ?_)
 intro w1 ae Z aQ;have a5:=lH ae;have a6:=lH Z;have a7:=lH (O.o.below Z);clear ae Z k0 kl h;obtain⟨sv,Av,lv,cv,tv,Bv,mv,dv,E,R⟩:=a7.o.st;unfold Lay.cells at E;have h:=lH E;clear E R;have k1:=aI 1 h;have kl:=h.o.lt;go_wp2_with fail
 clear k1 kl h;have a4:=lH (a5.o.congr (f':=lZ D 0) (fun _ _=>rfl))
 go_loopw [16] (fun iv wr=>∃k:Nat,k <= m /\ iv= .int .i64 k /\ RB wr w.heap.size n (lZ D k) /\ Below w.heap.size w wr)
  (fun iv _=>m-(intOf iv).toNat)
 case atStart=>exact⟨0,Nat.zero_le _,rfl,a4.o,a6.o⟩
 case round=>
  clear a4 a5 a6 a7;obtain⟨k,hk,rfl,aa,a1⟩:=hrel;have t:=lH aa;have F:=lH a1;have G:=lH (O.o.below a1);clear aa a1;by_cases aM:((k:Nat):Int)<(m:Nat)
  ·have a2:k<m:=oM
   have M:0<m:=oM
   rw[(G.o.ab M).1];obtain⟨sv,Av,lv,cv,tv,Bv,mv,dv,E,R⟩:=G.o.st;unfold Lay.cells at E;rw[(G.o.ab M).1,(G.o.ab M).2.1,(G.o.ab M).2.2] at E;have h:=lH E;clear E R;have T:=lH ((G.o.bas M).at_ a2);obtain⟨sx,Ax,lx,cx,tx,Bx,mx,dx,a8,ag⟩:=((G.o.con M)).fO a2;have U:=lH a8;have Vx:=lH ag;clear a8 ag;clear G;by_cases hf:¬D.basic k<n
   ·have aw:decide (D.basic k<n)=false:=by simp;omega
    have HF:=lH hf;clear hf;have ak:=aI 0 h;have am:=aI 1 h;have ap:=aI 3 h;have au:=h.o.lt;have ai:=T.o;have aq:=eG T.o;obtain⟨aj,al,an,ao⟩:=U.o;have ar:=U.o.lt;go_wp2_with fail
    go_roundw
    case rel=>exact⟨k+1,by omega,by simp,t.o.congr (fun c hc=>I4 (by have:=HF.o;omega) c hc),F.o⟩
    case measure=>exact mZ
   ·have a0:D.basic k<n:=oM
    have aw:decide (D.basic k<n)=true:=by simpa using a0
    have aK:((D.basic k:Nat):Int)<(n:Nat):=oM
    clear hf;have aL:=t.o.lt;obtain⟨sy,Ay,ly,cy,ty,By,my,dy,a9,ah⟩:=(t.o).fO a0;have X:=lH a9;have Vy:=lH ah;clear a9 ah;clear Vy;obtain⟨aC,aD,aE,aF⟩:=X.o;have aG:=X.o.lt;clear X;have ay:=t.o.free (D.basic k*4);have az:=t.o.free (D.basic k*4+1);have aA:=t.o.free (D.basic k*4+2);have aB:=t.o.free (D.basic k*4+3);have aN:L.gk≠w.heap.size:=by have:=(O.o.con M).lt;omega
    have aO:L.gt≠w.heap.size:=by obtain⟨_,hr⟩:=O.o.nV;have:=hr.lt;omega
    have aP:L.gb≠w.heap.size:=by have:=(O.o.bas M).lt;omega
    have ak:=aI 0 h;have am:=aI 1 h;have ap:=aI 3 h;have au:=h.o.lt;have ai:=T.o;have aq:=eG T.o;obtain⟨aj,al,an,ao⟩:=U.o;have ar:=U.o.lt;have HZ:=F;have ac:World.grownBy wr ((((wr.setCell ⟨w.heap.size,(D.basic k)*4,none⟩ (.bool sx)).setCell ⟨w.heap.size,(D.basic k)*4+1,none⟩ (.slice Ax lx cx)).setCell ⟨w.heap.size,(D.basic k)*4+2,none⟩ (.bool tx)).setCell ⟨w.heap.size,(D.basic k)*4+3,none⟩ (.slice Bx mx dx)) (some w.heap.size):=il _ _ _ _ _ _ _ _ _ _;obtain⟨aJ,ax⟩:=t.o.row;have aH:=t.o.lt;have af:=t.o.set a0 Vx.o;replace F:=lH (F.o.grown ac F.o.size (by first | (simp;done) | (simp;omega)));replace t:=lH af;obtain⟨w1,a3⟩:=eX (((((wr.setCell ⟨w.heap.size,(D.basic k)*4,none⟩ (.bool sx)).setCell ⟨w.heap.size,(D.basic k)*4+1,none⟩ (.slice Ax lx cx)).setCell ⟨w.heap.size,(D.basic k)*4+2,none⟩ (.bool tx)).setCell ⟨w.heap.size,(D.basic k)*4+3,none⟩ (.slice Bx mx dx)));rw[<- a3] at t F;clear ac ax af aH;go_wp2_with fail
    rw[<- a3];clear a3 aC aD aE aF aG ay az aA aB ak am ap au ai aq aj al an ao ar;go_roundw
    case rel=>exact⟨k+1,by omega,by simp,t.o.congr (fun c _=>I5 av.o a2 c),F.o⟩
    case measure=>exact mZ
  ·obtain rfl:m=k:=oM
   go_wp2_with fail
   go_returns;exact⟨_,rfl,Nat.le_refl _,t.o,F.o⟩
end
end Go.Proofs.YtdefghfjhgmpfaaGreatDoor
