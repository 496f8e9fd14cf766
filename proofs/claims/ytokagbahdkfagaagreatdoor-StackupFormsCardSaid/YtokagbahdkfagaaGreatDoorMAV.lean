/- Parts of this proof: Wrong Point. -/
import Derived.Test.YtokagbahdkfagaaGreatDoorMAU
import Derived.Test.YtokagbahdkfagaaGreatDoorMAP
namespace Go.Proofs.YtokagbahdkfagaaGreatDoor
open Go.Proofs.Tryz
section
open Go.RowKit
open Lp (RL upd eu)
def qZ(o:Nat -> Nat)(row least:Int):Prop:=(row= -1 /\ least= -1) \/ ∃x:Nat,row=(x:Nat) /\ least=(o x:Nat)
def lI(n m k:Nat)(D:eu)(row col least:Int):Prop:=
 (col= -1 /\ iY n m D.basic D.con row /\ qZ D.basic row least /\ ∀c,c<k -> n <= D.off c -> (∀l:Nat,least=(l:Nat) -> D.off c<l) -> 0 <= D.top c) \/
 ∃y:Nat,row= -1 /\ col=(y:Nat) /\ least=(D.off y:Nat) /\ y<k /\ n <= D.off y /\ D.top y<0 /\ (∀c,c<k -> n <= D.off c -> D.off c<D.off y -> 0 <= D.top c) /\ ∀r,r<m -> n <= D.basic r -> D.basic r<D.off y -> 0 <= D.con r
def r9(n m:Nat)(D:eu)(row col:Int):Prop:=∃least,lI n m n D row col least
theorem yQ{n m k:Nat}{D:eu}{row col O:Int}(h:lI n m k D row col O)(M:n <= D.off k -> 0 <= D.top k):lI n m (k+1) D row col O:=by
 rcases h with ⟨h1,t,C,G⟩ | ⟨y,h1,t,C,G,R,T,U,V⟩
 ·exact .inl ⟨h1,t,C,fun c W r E=>by by_cases e:c=k;subst e;exact M r;exact G c oM r E⟩
 ·exact .inr ⟨y,h1,t,C,by omega,R,T,fun c W r E=>by by_cases e:c=k;subst e;exact M r;exact U c oM r E,V⟩
theorem FW{n m k l:Nat}{D:eu}{row col:Int}(h:lI n m k D row col (l:Nat))(V:¬D.off k<l):lI n m (k+1) D row col (l:Nat):=by
 rcases h with ⟨h1,t,C,G⟩ | ⟨y,h1,t,C,G,M,O,R,T⟩
 ·exact .inl ⟨h1,t,C,fun c U E r=>by by_cases e:c=k;subst e;exact absurd (r l rfl) V;exact G c oM E r⟩
 ·exact .inr ⟨y,h1,t,C,by omega,M,O,fun c U E r=>by by_cases e:c=k;subst e;omega;exact R c oM E r,T⟩
theorem yR{n m k:Nat}{D:eu}{row col X:Int}(h:lI n m k D row col X)(hn:n <= D.off k)(hb:D.top k<0)(G:∀l:Nat,X=(l:Nat) -> D.off k<l):lI n m (k+1) D (-1) (k:Nat) (D.off k:Nat):=by
 refine .inr ⟨k,rfl,rfl,rfl,by omega,hn,hb,fun c hc W a0=> ?_,fun r O M a1=> ?_⟩
 ·by_cases e:c=k
  ·subst e;omega
  ·rcases h with ⟨h1,C,t,E⟩ | ⟨y,h1,C,t,E,h5,h6,U,V⟩
   ·exact E c oM W fun l e'=>by have:=G l e';omega
   ·exact U c oM W (by have:=G _ t;omega)
 ·rcases h with ⟨h1,C,t,E⟩ | ⟨y,h1,C,t,E,h5,h6,U,V⟩
  ·rcases C with ⟨Z,T⟩ | ⟨x,Z,T,g3,g4,g5⟩
   ·exact T r O M
   ·rcases t with ⟨Y,R⟩ | ⟨z,Y,R⟩
    ·omega
    ·obtain rfl:x=z:=oM
     have:=G _ R;exact g5 r O M oM
  ·have:=G _ t;exact V r O M oM
theorem FX{n m:Nat}{D:eu}{row r:Int}(h:iY n m D.basic D.con row)(t:qZ D.basic row r):lI n m 0 D row (-1) r:= .inl ⟨rfl,h,t,fun c C=>absurd C oM⟩
set_option maxRecDepth 100000 in
set_option maxHeartbeats 6400000 in
theorem FY(L:Lay)(m n:Nat)(D:eu)(w:World)(hT:eZ w L m n D)(hm:m <= 4611686018427387904)(hn:n <= 4611686018427387904):
  Calls prog 177 #[.pointer (some ⟨L.gt,0,none⟩)] w fun e w'=>∃row col:Int,e= .returned (.tuple #[.int .i64 row, .int .i64 col]) /\ r9 n m D row col /\ Below w.heap.size w w':=by
 have ah:=lH hT;obtain⟨sv,Av,lv,cv,tv,Bv,mv,dv,a2,a7⟩:=hT.st;unfold Lay.cells at a2;have h:=lH a2;clear a2 a7;have k1:=aI 1 h;have kl:=h.o.lt;clear hT;have a9:Hid (iY n 0 D.basic D.con (-1) /\ qZ D.basic (-1) (-1)):=lH ⟨.inl ⟨rfl,fun c hc=>absurd hc oM⟩, .inl ⟨rfl,rfl⟩⟩;go_enter func177,ntmps177;go_wp2_with fail
 clear k1 kl h
 go_loopw [2,4,14] (fun rv lv iv wr=>∃ (k:Nat) (row a1:Int),k <= m /\ iv= .int .i64 k /\ rv= .int .i64 row /\ lv= .int .i64 a1 /\ Hid (iY n k D.basic D.con row /\ qZ D.basic row a1) /\ Below w.heap.size w wr)
  (fun _ _ iv _=>m-(intOf iv).toNat)
 case atStart=>exact⟨0, -1, -1,Nat.zero_le _,rfl,rfl,rfl,a9,Below.refl _ _⟩
 case round=>
  clear a9;obtain⟨k,row,a1,hk,rfl,rfl,rfl,HS,a6⟩:=hrel;have Z:=lH a6;have HT:=lH (ah.o.below a6);clear a6;by_cases ai:((k:Nat):Int)<(m:Nat)
  ·have ac:k<m:=oM
   have a8:0<m:=oM
   rw[(HT.o.ab a8).1];obtain⟨sv,Av,lv,cv,tv,Bv,mv,dv,a2,a7⟩:=HT.o.st;unfold Lay.cells at a2;rw[(HT.o.ab a8).1,(HT.o.ab a8).2.1,(HT.o.ab a8).2.2] at a2;have h:=lH a2;clear a2 a7;have r:=lH ((HT.o.bas a8).at_ ac);obtain⟨sx,Ax,lx,cx,tx,Bx,mx,dx,aa,ae⟩:=((HT.o.con a8)).fK ac;have t:=lH aa;have Vx:=lH ae;clear aa ae;by_cases hf:¬n <= D.basic k
   ·have af:decide (n <= D.basic k)=false:=by simp;omega
    have HF:=lH hf;clear hf;obtain⟨M,R,U,a3⟩:=aT4 h.o;have Y:=h.o.lt;have E:=r.o;have W:=eF r.o;obtain⟨G,O,T,V⟩:=t.o;have X:=t.o.lt;go_wp2_with fail
    clear M R U a3 Y E W G O T V X;go_roundw
    case rel=>exact⟨k+1,row,a1,by omega,by simp,rfl,rfl,lH (⟨qY HS.o.1 (fun e=>absurd e HF.o),HS.o.2⟩),Z.o⟩
    case measure=>exact mZ
   ·have af:decide (n <= D.basic k)=true:=by simp;omega
    have HF:Hid (n <= D.basic k):=lH oM;clear hf;by_cases hc:0 <= D.con k
    ·have a0:decide (sgI (D.con k).num<0)=false:=by have:=hc;simp;exact uy hc
     have HC:=lH hc;have a5:=lH a0;clear hc a0;obtain⟨M,R,U,a3⟩:=aT4 h.o;have Y:=h.o.lt;have E:=r.o;have W:=eF r.o;obtain⟨G,O,T,V⟩:=t.o;have X:=t.o.lt;go_wp2_with fail
     clear M R U a3 Y E W G O T V X;refine(fQ _ (D.con k) _ Vx.o).mono ?_;rintro e w1 ⟨rfl,C⟩;replace h:=rW h C;replace t:=lH (t.o.below C);replace r:=lH (cell_below C r.o);replace Z:=bT Z C;clear C;have a0:=a5.o;obtain⟨M,R,U,a3⟩:=aT4 h.o;have Y:=h.o.lt;have E:=r.o;have W:=eF r.o;obtain⟨G,O,T,V⟩:=t.o;have X:=t.o.lt;go_wp2_with fail
     clear M R U a3 Y E W G O T V X;go_roundw
     case rel=>exact⟨k+1,row,a1,by omega,by simp,rfl,rfl,lH (⟨qY HS.o.1 (fun _=>HC.o),HS.o.2⟩),Z.o⟩
     case measure=>exact mZ
    ·replace hc:D.con k<0:=Rat.not_le.1 hc;have a0:decide (sgI (D.con k).num<0)=true:=by simp;exact uw hc
     have HC:Hid (D.con k<0):=lH hc;have a5:=lH a0;clear hc a0;by_cases ho:a1= -1
     ·subst ho;obtain⟨M,R,U,a3⟩:=aT4 h.o;have Y:=h.o.lt;have E:=r.o;have W:=eF r.o;obtain⟨G,O,T,V⟩:=t.o;have X:=t.o.lt;go_wp2_with fail
      clear M R U a3 Y E W G O T V X;refine(fQ _ (D.con k) _ Vx.o).mono ?_;rintro e w1 ⟨rfl,C⟩;replace h:=rW h C;replace t:=lH (t.o.below C);replace r:=lH (cell_below C r.o);replace Z:=bT Z C;clear C;have a0:=a5.o;obtain⟨M,R,U,a3⟩:=aT4 h.o;have Y:=h.o.lt;have E:=r.o;have W:=eF r.o;obtain⟨G,O,T,V⟩:=t.o;have X:=t.o.lt;go_wp2_with fail
      clear M R U a3 Y E W G O T V X;go_roundw
      case rel=>exact⟨k+1,(k:Nat),(D.basic k:Nat),by omega,by simp,rfl,rfl,lH (⟨yN (by have h1:=HS.o.2;have h2:=HS.o.1;rcases h1 with ⟨rfl,_⟩ | ⟨z,_,h3⟩;exact h2;omega) HF.o HC.o, .inr ⟨k,rfl,rfl⟩⟩),Z.o⟩
      case measure=>exact mZ
     ·obtain⟨x,hx,hz⟩:∃x:Nat,a1=(x:Nat) /\ ∃z:Nat,row=(z:Nat) /\ x=D.basic z:=by rcases HS.o.2 with ⟨_,h1⟩ | ⟨z,h1,h2⟩;exact absurd h1 ho;exact⟨_,h2,z,h1,rfl⟩
      have HZ:=lH hz;clear hz;subst hx;have aj:decide (((x:Nat):Int)<0)=false:=by simp
      clear ho;by_cases hl:D.basic k<x
      ·have ag:decide (D.basic k<x)=true:=by simpa using hl
       have HL:=lH hl;clear hl;obtain⟨M,R,U,a3⟩:=aT4 h.o;have Y:=h.o.lt;have E:=r.o;have W:=eF r.o;obtain⟨G,O,T,V⟩:=t.o;have X:=t.o.lt;go_wp2_with fail
       clear M R U a3 Y E W G O T V X;refine(fQ _ (D.con k) _ Vx.o).mono ?_;rintro e w1 ⟨rfl,C⟩;replace h:=rW h C;replace t:=lH (t.o.below C);replace r:=lH (cell_below C r.o);replace Z:=bT Z C;clear C;have a0:=a5.o;obtain⟨M,R,U,a3⟩:=aT4 h.o;have Y:=h.o.lt;have E:=r.o;have W:=eF r.o;obtain⟨G,O,T,V⟩:=t.o;have X:=t.o.lt;go_wp2_with fail
       clear M R U a3 Y E W G O T V X;go_roundw
       case rel=>exact⟨k+1,(k:Nat),(D.basic k:Nat),by omega,by simp,rfl,rfl,lH (⟨by obtain⟨z,h1,h2⟩:=HZ.o;have h3:=HS.o.1;rw[h1] at h3;exact yO h3 HF.o HC.o (by have:=HL.o;omega), .inr ⟨k,rfl,rfl⟩⟩),Z.o⟩
       case measure=>exact mZ
      ·have ag:decide (D.basic k<x)=false:=by simpa using hl
       have HL:=lH hl;clear hl;obtain⟨M,R,U,a3⟩:=aT4 h.o;have Y:=h.o.lt;have E:=r.o;have W:=eF r.o;obtain⟨G,O,T,V⟩:=t.o;have X:=t.o.lt;go_wp2_with fail
       clear M R U a3 Y E W G O T V X;refine(fQ _ (D.con k) _ Vx.o).mono ?_;rintro e w1 ⟨rfl,C⟩;replace h:=rW h C;replace t:=lH (t.o.below C);replace r:=lH (cell_below C r.o);replace Z:=bT Z C;clear C;have a0:=a5.o;obtain⟨M,R,U,a3⟩:=aT4 h.o;have Y:=h.o.lt;have E:=r.o;have W:=eF r.o;obtain⟨G,O,T,V⟩:=t.o;have X:=t.o.lt;go_wp2_with fail
       clear M R U a3 Y E W G O T V X;go_roundw
       case rel=>exact⟨k+1,row,(x:Nat),by omega,by simp,rfl,rfl,lH (⟨by obtain⟨z,h1,h2⟩:=HZ.o;have h3:=HS.o.1;rw[h1] at h3 ⊢;exact yM h3 (by have:=HL.o;omega),HS.o.2⟩),Z.o⟩
       case measure=>exact mZ
  ·obtain rfl:m=k:=oM
   obtain⟨sv,Av,lv,cv,tv,Bv,mv,dv,a2,a7⟩:=HT.o.st;unfold Lay.cells at a2;have h:=lH a2;clear a2 a7;have k2:=aI 2 h;have kl:=h.o.lt;have a9:Hid (lI n m 0 D row (-1) a1):=lH (FX HS.o.1 HS.o.2);go_wp2_with fail
   clear k2 kl h HS;obtain⟨wa,rfl⟩:=eX (wr)
   go_loopw [2,3,4,53] (fun rv cv lv iv wr=>∃ (k:Nat) (row col a1:Int),k <= n /\ iv= .int .i64 k /\ rv= .int .i64 row /\ cv= .int .i64 col /\ lv= .int .i64 a1 /\ Hid (lI n m k D row col a1) /\ Below w.heap.size w wr)
    (fun _ _ _ iv _=>n-(intOf iv).toNat)
   case atStart=>exact⟨0,row, -1,a1,Nat.zero_le _,rfl,rfl,rfl,rfl,a9,Z.o⟩
   case round=>
    clear a9 Z HT;obtain⟨k,row,col,a1,hk,rfl,rfl,rfl,rfl,HS,a6⟩:=hrel;have Z:=lH a6;have HT:=lH (ah.o.below a6);clear a6;by_cases ai:((k:Nat):Int)<(n:Nat)
    ·have ac:k<n:=oM
     have ad:0<n:=oM
     rw[(HT.o.ao ad).1];obtain⟨sv,Av,lv,cv,tv,Bv,mv,dv,a2,a7⟩:=HT.o.st;unfold Lay.cells at a2;rw[(HT.o.ao ad).1,(HT.o.ao ad).2] at a2;have h:=lH a2;clear a2 a7;have r:=lH ((HT.o.off ad).at_ ac);obtain⟨sx,Ax,lx,cx,tx,Bx,mx,dx,aa,ae⟩:=((HT.o.top ad)).fK ac;have t:=lH aa;have Vx:=lH ae;clear aa ae;by_cases hf:¬n <= D.off k
     ·have af:decide (n <= D.off k)=false:=by simp;omega
      have HF:=lH hf;clear hf;have M:=aI 0 h;have R:=aI 1 h;have U:=aI 2 h;have a4:=aI 5 h;have Y:=h.o.lt;have E:=r.o;have W:=eF r.o;obtain⟨G,O,T,V⟩:=t.o;have X:=t.o.lt;go_wp2_with fail
      clear M R U a4 Y E W G O T V X;go_roundw
      case rel=>exact⟨k+1,row,col,a1,by omega,by simp,rfl,rfl,rfl,lH (yQ HS.o (fun e=>absurd e HF.o)),Z.o⟩
      case measure=>exact mZ
     ·have af:decide (n <= D.off k)=true:=by simp;omega
      have HF:Hid (n <= D.off k):=lH oM;clear hf;by_cases hc:0 <= D.top k
      ·have a0:decide (sgI (D.top k).num<0)=false:=by have:=hc;simp;exact uy hc
       have HC:=lH hc;have a5:=lH a0;clear hc a0;have M:=aI 0 h;have R:=aI 1 h;have U:=aI 2 h;have a4:=aI 5 h;have Y:=h.o.lt;have E:=r.o;have W:=eF r.o;obtain⟨G,O,T,V⟩:=t.o;have X:=t.o.lt;go_wp2_with fail
       clear M R U a4 Y E W G O T V X;refine(fQ _ (D.top k) _ Vx.o).mono ?_;rintro e w1 ⟨rfl,C⟩;replace h:=rW h C;replace t:=lH (t.o.below C);replace r:=lH (cell_below C r.o);replace Z:=bT Z C;clear C;have a0:=a5.o;have M:=aI 0 h;have R:=aI 1 h;have U:=aI 2 h;have a4:=aI 5 h;have Y:=h.o.lt;have E:=r.o;have W:=eF r.o;obtain⟨G,O,T,V⟩:=t.o;have X:=t.o.lt;go_wp2_with fail
       clear M R U a4 Y E W G O T V X;go_roundw
       case rel=>exact⟨k+1,row,col,a1,by omega,by simp,rfl,rfl,rfl,lH (yQ HS.o (fun _=>HC.o)),Z.o⟩
       case measure=>exact mZ
      ·replace hc:D.top k<0:=Rat.not_le.1 hc;have a0:decide (sgI (D.top k).num<0)=true:=by simp;exact uw hc
       have HC:Hid (D.top k<0):=lH hc;have a5:=lH a0;clear hc a0;by_cases ho:a1= -1
       ·subst ho;have M:=aI 0 h;have R:=aI 1 h;have U:=aI 2 h;have a4:=aI 5 h;have Y:=h.o.lt;have E:=r.o;have W:=eF r.o;obtain⟨G,O,T,V⟩:=t.o;have X:=t.o.lt;go_wp2_with fail
        clear M R U a4 Y E W G O T V X;refine(fQ _ (D.top k) _ Vx.o).mono ?_;rintro e w1 ⟨rfl,C⟩;replace h:=rW h C;replace t:=lH (t.o.below C);replace r:=lH (cell_below C r.o);replace Z:=bT Z C;clear C;have a0:=a5.o;have M:=aI 0 h;have R:=aI 1 h;have U:=aI 2 h;have a4:=aI 5 h;have Y:=h.o.lt;have E:=r.o;have W:=eF r.o;obtain⟨G,O,T,V⟩:=t.o;have X:=t.o.lt;go_wp2_with fail
        clear M R U a4 Y E W G O T V X;go_roundw
        case rel=>exact⟨k+1, -1,(k:Nat),(D.off k:Nat),by omega,by simp,rfl,rfl,rfl,lH (yR HS.o HF.o HC.o (fun l e=>absurd e oM)),Z.o⟩
        case measure=>exact mZ
       ·obtain⟨x,hx⟩:∃x:Nat,a1=(x:Nat):=by rcases HS.o with ⟨_,_,h1,_⟩ | ⟨y,_,_,h1,_⟩;rcases h1 with ⟨_,h1⟩ | ⟨z,_,h1⟩;exact absurd h1 ho;exact⟨_,h1⟩;exact⟨_,h1⟩
        subst hx;have aj:decide (((x:Nat):Int)<0)=false:=by simp
        clear ho;by_cases hl:D.off k<x
        ·have ag:decide (D.off k<x)=true:=by simpa using hl
         have HL:=lH hl;clear hl;have M:=aI 0 h;have R:=aI 1 h;have U:=aI 2 h;have a4:=aI 5 h;have Y:=h.o.lt;have E:=r.o;have W:=eF r.o;obtain⟨G,O,T,V⟩:=t.o;have X:=t.o.lt;go_wp2_with fail
         clear M R U a4 Y E W G O T V X;refine(fQ _ (D.top k) _ Vx.o).mono ?_;rintro e w1 ⟨rfl,C⟩;replace h:=rW h C;replace t:=lH (t.o.below C);replace r:=lH (cell_below C r.o);replace Z:=bT Z C;clear C;have a0:=a5.o;have M:=aI 0 h;have R:=aI 1 h;have U:=aI 2 h;have a4:=aI 5 h;have Y:=h.o.lt;have E:=r.o;have W:=eF r.o;obtain⟨G,O,T,V⟩:=t.o;have X:=t.o.lt;go_wp2_with fail
         clear M R U a4 Y E W G O T V X;go_roundw
         case rel=>exact⟨k+1, -1,(k:Nat),(D.off k:Nat),by omega,by simp,rfl,rfl,rfl,lH (yR HS.o HF.o HC.o (fun l e=>by have:=HL.o;omega)),Z.o⟩
         case measure=>exact mZ
        ·have ag:decide (D.off k<x)=false:=by simpa using hl
         have HL:=lH hl;clear hl;have M:=aI 0 h;have R:=aI 1 h;have U:=aI 2 h;have a4:=aI 5 h;have Y:=h.o.lt;have E:=r.o;have W:=eF r.o;obtain⟨G,O,T,V⟩:=t.o;have X:=t.o.lt;go_wp2_with fail
         clear M R U a4 Y E W G O T V X;refine(fQ _ (D.top k) _ Vx.o).mono ?_;rintro e w1 ⟨rfl,C⟩;replace h:=rW h C;replace t:=lH (t.o.below C);replace r:=lH (cell_below C r.o);replace Z:=bT Z C;clear C;have a0:=a5.o;have M:=aI 0 h;have R:=aI 1 h;have U:=aI 2 h;have a4:=aI 5 h;have Y:=h.o.lt;have E:=r.o;have W:=eF r.o;obtain⟨G,O,T,V⟩:=t.o;have X:=t.o.lt;go_wp2_with fail
         clear M R U a4 Y E W G O T V X;go_roundw
         case rel=>exact⟨k+1,row,col,(x:Nat),by omega,by simp,rfl,rfl,rfl,lH (FW HS.o HL.o),Z.o⟩
         case measure=>exact mZ
    ·obtain rfl:n=k:=oM
     go_wp2_with fail
     go_returns;exact⟨row,col,rfl,⟨a1,HS.o⟩,Z.o⟩
end
section
open Go.RowKit
open Lp (RL upd eu)
open Lp (sumTo spread)
def lS(D:eu)(k c:Nat):Rat:=sumTo k (fun r=>if D.basic r=c then D.con r else 0)
theorem FZ{n k:Nat}{D:eu}(h:n <= D.basic k)(c:Nat)(r:c<n):lS D k c=lS D (k+1) c:=by
 show _=lS D k c+ (if D.basic k=c then D.con k else 0);rw[if_neg oM];grind
theorem G5{m n k:Nat}{D:eu}(h:D.Ok m n)(t:k<m)(c:Nat):upd (lS D k) (D.basic k) (D.con k) c=lS D (k+1) c:=by
 show _=lS D k c+ (if D.basic k=c then D.con k else 0);by_cases e:c=D.basic k
 ·subst e;rw[Lp.upd_same,if_pos rfl];have:lS D k (D.basic k)=0:=Lp.iF fun r C=>if_neg fun e=>by have:=h.bi r k oM t e;omega
  rw[this];grind
 ·rw[Lp.eQ _ _ e,if_neg (fun e'=>e e'.symm)];grind
set_option maxRecDepth 100000 in
set_option maxHeartbeats 6400000 in
theorem pY(L:Lay)(m n:Nat)(D:eu)(w:World)(V:eZ w L m n D)(aa:D.Ok m n)(hm:m <= 4398046511104)(hn:n <= 4398046511104):
  Calls prog 178 #[.pointer (some ⟨L.gt,0,none⟩)] w fun e w'=>∃g,e= .returned (.slice (some ⟨g,0,none⟩) n n) /\ w.heap.size <= g /\ RB w' g n (spread m D.basic D.con) /\ Below w.heap.size w w':=by
 have ar:=lH aa;clear aa;have M:=lH V;obtain⟨sv,Av,lv,cv,tv,Bv,mv,dv,t,O⟩:=V.st;unfold Lay.cells at t;have h:=lH t;clear t O;have k0:=aI 0 h;have kl:=h.o.lt;clear V;go_enter func178,ntmps178
 go_wp2_with (at_make;refine oh _ rfl (.tmp 9) (.tmp 9) rfl _ _ n rfl rfl rfl rfl hn ?_)
 intro w1 ac W aO;have a3:=lH ac;have a4:=lH W;have a5:=lH (M.o.below W);clear ac W k0 kl h;obtain⟨sv,Av,lv,cv,tv,Bv,mv,dv,t,O⟩:=a5.o.st;unfold Lay.cells at t;have h:=lH t;clear t O;have k1:=aI 1 h;have kl:=h.o.lt;go_wp2_with fail
 clear k1 kl h;have a2:=lH (a3.o.congr (f':=lS D 0) (fun _ _=>rfl))
 go_loopw [16] (fun iv wr=>∃k:Nat,k <= m /\ iv= .int .i64 k /\ RB wr w.heap.size n (lS D k) /\ Below w.heap.size w wr)
  (fun iv _=>m-(intOf iv).toNat)
 case atStart=>exact⟨0,Nat.zero_le _,rfl,a2.o,a4.o⟩
 case round=>
  clear a2 a3 a4 a5;obtain⟨k,hk,rfl,a8,Y⟩:=hrel;have r:=lH a8;have C:=lH Y;have E:=lH (M.o.below Y);clear a8 Y;by_cases aK:((k:Nat):Int)<(m:Nat)
  ·have a0:k<m:=oM
   have G:0<m:=oM
   rw[(E.o.ab G).1];obtain⟨sv,Av,lv,cv,tv,Bv,mv,dv,t,O⟩:=E.o.st;unfold Lay.cells at t;rw[(E.o.ab G).1,(E.o.ab G).2.1,(E.o.ab G).2.2] at t;have h:=lH t;clear t O;have R:=lH ((E.o.bas G).at_ a0);obtain⟨sx,Ax,lx,cx,tx,Bx,mx,dx,a6,ae⟩:=((E.o.con G)).fK a0;have T:=lH a6;have Vx:=lH ae;clear a6 ae;clear E;by_cases Z:¬D.basic k<n
   ·have au:decide (D.basic k<n)=false:=by simp;omega
    have HF:=lH Z;clear Z;have ai:=aI 0 h;have ak:=aI 1 h;have an:=aI 3 h;have aq:=h.o.lt;have ag:=R.o;have ao:=eF R.o;obtain⟨ah,aj,al,am⟩:=T.o;have ap:=T.o.lt;go_wp2_with fail
    go_roundw
    case rel=>exact⟨k+1,by omega,by simp,r.o.congr (fun c hc=>FZ (by have:=HF.o;omega) c hc),C.o⟩
    case measure=>exact mZ
   ·have X:D.basic k<n:=oM
    have au:decide (D.basic k<n)=true:=by simpa using X
    have aH:((D.basic k:Nat):Int)<(n:Nat):=oM
    clear Z;have aJ:=r.o.lt;obtain⟨sy,Ay,ly,cy,ty,By,my,dy,a7,af⟩:=(r.o).fK X;have U:=lH a7;have Vy:=lH af;clear a7 af;clear Vy;obtain⟨aA,aB,aC,aD⟩:=U.o;have aE:=U.o.lt;clear U;have aw:=r.o.free (D.basic k*4);have ax:=r.o.free (D.basic k*4+1);have ay:=r.o.free (D.basic k*4+2);have az:=r.o.free (D.basic k*4+3);have aL:L.gk≠w.heap.size:=by have:=(M.o.con G).lt;omega
    have aM:L.gt≠w.heap.size:=by obtain⟨_,hr⟩:=M.o.nM;have:=hr.lt;omega
    have aN:L.gb≠w.heap.size:=by have:=(M.o.bas G).lt;omega
    have ai:=aI 0 h;have ak:=aI 1 h;have an:=aI 3 h;have aq:=h.o.lt;have ag:=R.o;have ao:=eF R.o;obtain⟨ah,aj,al,am⟩:=T.o;have ap:=T.o.lt;have HZ:=C;have a9:World.grownBy wr ((((wr.setCell ⟨w.heap.size,(D.basic k)*4,none⟩ (.bool sx)).setCell ⟨w.heap.size,(D.basic k)*4+1,none⟩ (.slice Ax lx cx)).setCell ⟨w.heap.size,(D.basic k)*4+2,none⟩ (.bool tx)).setCell ⟨w.heap.size,(D.basic k)*4+3,none⟩ (.slice Bx mx dx)) (some w.heap.size):=gJ _ _ _ _ _ _ _ _ _ _;obtain⟨aG,av⟩:=r.o.row;have aF:=r.o.lt;have ad:=r.o.set X Vx.o;replace C:=lH (C.o.grown a9 C.o.size (by first | (simp;done) | (simp;omega)));replace r:=lH ad;obtain⟨w1,a1⟩:=eX (((((wr.setCell ⟨w.heap.size,(D.basic k)*4,none⟩ (.bool sx)).setCell ⟨w.heap.size,(D.basic k)*4+1,none⟩ (.slice Ax lx cx)).setCell ⟨w.heap.size,(D.basic k)*4+2,none⟩ (.bool tx)).setCell ⟨w.heap.size,(D.basic k)*4+3,none⟩ (.slice Bx mx dx)));rw[<- a1] at r C;clear a9 av ad aF;go_wp2_with fail
    rw[<- a1];clear a1 aA aB aC aD aE aw ax ay az ai ak an aq ag ao ah aj al am ap;go_roundw
    case rel=>exact⟨k+1,by omega,by simp,r.o.congr (fun c _=>G5 ar.o a0 c),C.o⟩
    case measure=>exact mZ
  ·obtain rfl:m=k:=oM
   go_wp2_with fail
   go_returns;exact⟨_,rfl,Nat.le_refl _,r.o,C.o⟩
end
end Go.Proofs.YtokagbahdkfagaaGreatDoor
