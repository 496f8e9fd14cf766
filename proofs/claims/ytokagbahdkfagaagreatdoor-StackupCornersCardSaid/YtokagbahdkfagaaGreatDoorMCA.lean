/- Parts of this proof: GrowN. -/
import Derived.Test.YtokagbahdkfagaaGreatDoorMBP
namespace Go.Proofs.YtokagbahdkfagaaGreatDoor
open Go.RowKit
def TDN(w:World)(v:Value)(n:Nat)(s:Nat -> ByteArray)(a l u:Nat -> Int):Prop:=TD w v n s a l u /\ (n=0 \/ ∃g o c cs,v= .slice (some ⟨g,o,none⟩) n c /\ Row w g 76 cs)
def TCN(w:World)(v:Value)(m:Nat)(s:Nat -> ByteArray)(F:Nat -> Frm):Prop:=
 ∃A k,v= .slice A m k /\ m <= k /\ k <= maxLen /\ (m=0 \/ ∃g o cs,A=some ⟨g,o,none⟩ /\ Row w g 120 cs /\ ∀i,i<m -> ∃u,w.cell? ⟨g,o+i*3,none⟩=some (.string (s i)) /\ w.cell? ⟨g,o+i*3+1,none⟩=some (.string (F i).c) /\ w.cell? ⟨g,o+i*3+2,none⟩=some u /\ TTN w u (F i).N (F i).d (F i).f)
def JM(w:World)(vd vc:Value)(P:Prb):Prop:=TDN w vd P.n P.s P.a P.l P.u /\ TCN w vc P.m P.t P.F
def JL(w:World)(v:Value)(q:Nat)(F:Nat -> Frm):Prop:=
 ∃A c,v= .slice A q c /\ q <= c /\ c <= maxLen /\ (q=0 \/ ∃g o cs,A=some ⟨g,o,none⟩ /\ Row w g 25 cs /\ ∀i,i<q -> ∃u,w.cell? ⟨g,o+i*2,none⟩=some (.string (F i).c) /\ w.cell? ⟨g,o+i*2+1,none⟩=some u /\ TTN w u (F i).N (F i).d (F i).f)
section
variable {w w':World} {v vd vc:Value} {n m q g:Nat} {s:Nat -> ByteArray} {a l u:Nat -> Int} {F:Nat -> Frm} {P:Prb} {e:TypeId} {cs:List Value}
theorem TDN.below(h:TDN w v n s a l u)(r:Below w.heap.size w w'):TDN w' v n s a l u:=⟨h.1.below r,h.2.imp id fun⟨g,o,c,cs,E,t⟩=>⟨g,o,c,cs,E,t.below r t.lt⟩⟩
theorem TDN.other(h:TDN w v n s a l u)(t:w.grownBy w' (some g))(hr:Row w g e cs)(Z:e≠76):TDN w' v n s a l u:=by
 obtain⟨A,c,G,h1,M⟩:=h.1.shape
 rcases h.2 with h0 | ⟨g',o,c',X,rfl,O⟩
 ·exact⟨⟨A,c,G,h1,M, .inl h0⟩, .inl h0⟩
 ·rcases Nat.eq_zero_or_pos n with h0 | h0
  ·exact⟨⟨A,c,G,h1,M, .inl h0⟩, .inl h0⟩
  have a0:g≠g':=fun r=>by subst r;exact Z (hr.ty O)
  obtain⟨g2,o2,R,Y⟩:=TD.at_ (A:=some ⟨g',o,none⟩) h.1 h0;simp only[Option.some.injEq,Addr.mk.injEq,and_true] at R;obtain⟨rfl,rfl⟩:=R;have E:(some g:Option Nat)≠some g':=fun r=>a0 (Option.some.inj r)
  refine⟨⟨A,c,G,h1,M, .inr ⟨g',o,by simp only[Value.slice.injEq,true_and] at G;exact G.1.symm,fun j hj=> ?_⟩⟩, .inr ⟨g',o,c',X,rfl,(t.block g' O.lt (fun r=>E r.symm)).trans O⟩⟩;obtain⟨T,U,V,W⟩:=Y j hj;exact⟨t.cell T (fun r=>E r.symm),t.cell U (fun r=>E r.symm),t.cell V (fun r=>E r.symm),t.cell W (fun r=>E r.symm)⟩
theorem TCN.below(h:TCN w v m s F)(r:Below w.heap.size w w'):TCN w' v m s F:=by
 obtain⟨A,k,X,h1,R,T⟩:=h
 exact⟨A,k,X,h1,R,T.imp id fun⟨g,o,cs,U,t,V⟩=>⟨g,o,cs,U,t.below r t.lt,fun i W=>by
  obtain⟨u,E,G,M,O⟩:=V i W
  exact⟨u,cell_below r E,cell_below r G,cell_below r M,O.below r⟩⟩⟩
theorem TCN.other(h:TCN w v m s F)(t:w.grownBy w' (some g))(M:Row w g e cs)(he:e≠120)(a0:e≠126):TCN w' v m s F:=by
 obtain⟨A,k,hv,h1,W,X⟩:=h
 exact⟨A,k,hv,h1,W,X.imp id fun⟨g',o,V,Y,G,Z⟩=>by
  have E:(some g:Option Nat)≠some g':=fun r=>by
   simp only[Option.some.injEq] at r;subst r;exact he (M.ty G)
  exact⟨g',o,V,Y,(t.block g' G.lt (fun r=>E r.symm)).trans G,fun i hi=>by
   obtain⟨u,O,R,T,U⟩:=Z i hi
   exact⟨u,t.cell O (fun r=>E r.symm),t.cell R (fun r=>E r.symm),t.cell T (fun r=>E r.symm),U.other t M a0⟩⟩⟩
theorem TCN.tc(h:TCN w v m s F):TC w v m s F:=by
 obtain⟨A,k,V,h1,M,O⟩:=h
 exact⟨A,k,V,h1,M,O.imp id fun⟨g,o,cs,R,_,T⟩=>⟨g,o,R,fun i U=>by
  obtain⟨u,r,t,E,G⟩:=T i U
  exact⟨u,r,t,E,G.1⟩⟩⟩
theorem JM.pin(h:JM w vd vc P):PIn w vd vc P:=⟨h.1.1,h.2.tc⟩
theorem JM.below(h:JM w vd vc P)(r:Below w.heap.size w w'):JM w' vd vc P:=⟨h.1.below r,h.2.below r⟩
theorem JM.other(h:JM w vd vc P)(r:w.grownBy w' (some g))(t:Row w g e cs)(h1:e≠76)(E:e≠120)(G:e≠126):JM w' vd vc P:=⟨h.1.other r t h1,h.2.other r t E G⟩
theorem IW.tdn{s:Nat -> ByteArray}{a l u:Nat -> Int}(h:IW w v 76 4 q (cD s a l u)):TDN w v q s a l u:=by
 refine⟨h.td,?_⟩
 rcases Nat.eq_zero_or_pos q with h0 | h0
 ·exact .inl h0
 ·obtain⟨g,k,rfl,_⟩:=h.done h0;obtain⟨cs,r⟩:=h.row rfl;exact .inr ⟨g,0,k,cs,rfl,r⟩
theorem IW.tcn{x:Nat -> Value}(h:IW w v 120 3 q (cC s (fun i=>(F i).c) x))(O:∀i,i<q -> TTN w (x i) (F i).N (F i).d (F i).f):TCN w v q s F:=by
 obtain⟨A,k,rfl,h1,G⟩:=h.shape;refine⟨A,k,rfl,h1,G,?_⟩
 rcases Nat.eq_zero_or_pos q with h0 | h0
 ·exact .inl h0
 ·obtain⟨g,k',E,t⟩:=h.done h0;simp only[Value.slice.injEq,true_and] at E;rw[E.1] at h;obtain⟨cs,M⟩:=h.row rfl;refine .inr ⟨g,0,cs,E.1,M,fun j r=>⟨x j,?_,?_,?_,O j r⟩⟩
  ·rw[Nat.zero_add];exact t j r 0 dC
  ·rw[Nat.zero_add];exact t j r 1 dC
  ·rw[Nat.zero_add];exact t j r 2 dC
theorem IW.JP{x:Nat -> Value}(h:IW w v 25 2 q (cF (fun i=>(F i).c) x))(O:∀i,i<q -> TTN w (x i) (F i).N (F i).d (F i).f):JL w v q F:=by
 obtain⟨A,k,rfl,h1,G⟩:=h.shape;refine⟨A,k,rfl,h1,G,?_⟩
 rcases Nat.eq_zero_or_pos q with h0 | h0
 ·exact .inl h0
 ·obtain⟨g,k',t,E⟩:=h.done h0;simp only[Value.slice.injEq,true_and] at t;rw[t.1] at h;obtain⟨cs,M⟩:=h.row rfl;refine .inr ⟨g,0,cs,t.1,M,fun j r=>⟨x j,?_,?_,O j r⟩⟩
  ·rw[Nat.zero_add];exact E j r 0 dC
  ·rw[Nat.zero_add];exact E j r 1 dC
theorem JL.below(h:JL w v q F)(r:Below w.heap.size w w'):JL w' v q F:=by
 obtain⟨A,k,W,h1,O,R⟩:=h
 exact⟨A,k,W,h1,O,R.imp id fun⟨g,o,cs,T,t,U⟩=>⟨g,o,cs,T,t.below r t.lt,fun i V=>by
  obtain⟨u,E,G,M⟩:=U i V
  exact⟨u,cell_below r E,cell_below r G,M.below r⟩⟩⟩
theorem JL.other(h:JL w v q F)(t:w.grownBy w' (some g))(M:Row w g e cs)(Z:e≠25)(a0:e≠126):JL w' v q F:=by
 obtain⟨A,k,hv,h1,V,W⟩:=h
 exact⟨A,k,hv,h1,V,W.imp id fun⟨g',o,U,X,G,Y⟩=>by
  have E:(some g:Option Nat)≠some g':=fun r=>by
   simp only[Option.some.injEq] at r;subst r;exact Z (M.ty G)
  exact⟨g',o,U,X,(t.block g' G.lt (fun r=>E r.symm)).trans G,fun i hi=>by
   obtain⟨u,O,R,T⟩:=Y i hi
   exact⟨u,t.cell O (fun r=>E r.symm),t.cell R (fun r=>E r.symm),T.other t M a0⟩⟩⟩
theorem JL.shape(h:JL w v q F):∃A c,v= .slice A q c /\ q <= c /\ c <= maxLen:=by obtain⟨A,c,t,h1,r,_⟩:=h;exact⟨A,c,t,h1,r⟩
theorem JL.at_{A:Option Addr}{c:Nat}(h:JL w (.slice A q c) q F)(M:0<q):∃g o,A=some ⟨g,o,none⟩ /\ ∀i,i<q -> ∃u,w.cell? ⟨g,o+i*2,none⟩=some (.string (F i).c) /\ w.cell? ⟨g,o+i*2+1,none⟩=some u /\ TTN w u (F i).N (F i).d (F i).f:=by
 obtain⟨A',c',G,_,_,r⟩:=h;cases G
 rcases r with r | ⟨g,o,_,t,_,E⟩
 ·omega
 ·exact⟨g,o,t,E⟩
end
end Go.Proofs.YtokagbahdkfagaaGreatDoor
