/- Parts of this proof: LSolve SWorstM. -/
import Derived.Test.YtokagbahdkfagaaGreatDoorMBA
import Derived.Test.YtokagbahdkfagaaGreatDoorMBE
import Derived.Test.YtokagbahdkfagaaGreatDoorMBF
import Derived.Test.YtokagbahdkfagaaGreatDoorMAX
import Derived.Test.YtokagbahdkfagaaGreatDoorMAZ
namespace Go.Proofs.YtokagbahdkfagaaGreatDoor
open Go.Proofs.Tryz
section
open Go.RowKit
open Lp (RL upd eu)
set_option maxRecDepth 100000 in
set_option maxHeartbeats 3200000 in
theorem I8(Z AR:Option Addr)(n m cO cR:Nat)(k:Nat -> Nat)(o:Nat -> ByteArray)(t:Nat -> Nat -> ByteArray)(b:Nat -> ByteArray)(K:Nat)(w:World)(ho:TS w (.slice Z n cO) n o)(hr:jY w (.slice AR m cR) m k t b)(hn:n <= 1000000000)(hm:m <= 1000000000)
  (ag:∀j,j<n -> (o j).size <= 65536) (ah:∀i,i<m -> ∀j,j<k i -> (t i j).size <= 65536) (af:∀i,i<m -> (b i).size <= 65536) (ab:0<K) (hK:Lp.wide m n K+1 <= 1000000) (ad:∀j,j<n -> (o j).size <= K) (ae:∀i,i<m -> ∀j,j<k i -> (t i j).size <= K) (ac:∀i,i<m -> (b i).size <= K) (ht:Tab w) (R:fF w):
  Calls prog 114 #[.agg #[.slice Z n cO, .slice AR m cR]] w fun e w'=>Gv w' n m (Lp.wide m n K+1) k o t b e /\ Below w.heap.size w w':=by
 have al:=lH (Hw Z AR n m cO cR k o t b);have HO:=lH ho;have HR:=lH hr;have HS:=lH (And.intro ag (And.intro ah af));have HL:=lH (And.intro ad (And.intro ae ac));have HK:=lH (And.intro ab hK);have aj:=lH R;have am:=lH ht;clear ho hr ag ah af R ad ae ac ab hK ht;obtain⟨W,hW,PB,h,r⟩:=eN2 w [.slice Z n cO, .slice AR m cR] 193 [.int .i64 0, .string ⟨#[]⟩, .slice none 0 0, .slice none 0 0, .slice none 0 0] 188;go_enter func114,ntmps114;obtain⟨p0,p1⟩:=aT2 PB.o;have pl:=PB.o.lt;rw[hW] at p0 p1 pl;go_wp2_with fail
 rw[<- hW];clear hW p0 p1 pl;refine(al.o _ (HO.o.below r.o) (HR.o.below r.o) hn hm HS.o.1 HS.o.2.1 HS.o.2.2 (aj.o.below r.o)).mono ?_;rintro e O ⟨hr,a1⟩;replace h:=rW h a1;replace r:=bT r a1;clear a1 PB
 rcases hr with ⟨h0,rfl⟩ | ⟨h0,AC,AS,AD,cC,cS,cD,A,bq,c,rfl,hc,hA,hD,hP,_⟩
 ·obtain⟨cc,a4⟩:=eX (iq n m k o t b);rw[<- a4] at h0 ⊢;have an:((cc:Nat):Int)≠0:=oM
  have ao:(((cc:Nat):Int) !=0)=true:=by simpa using an
  have ap:(cc !=0)=true:=by simpa using h0
  have ai:=lH h0;have a7:=lH a4;clear h0 a4;obtain⟨T,G⟩:=eX (O.alloc (.cells #[.slice none 0 0, .slice none 0 0, .slice none 0 0] 204));obtain⟨V,M⟩:=eX (O.heap.size);have E:Below O.heap.size O T:=by rw[G];exact eD _ _
  have QB:Hid (Row T V 204 [.slice none 0 0, .slice none 0 0, .slice none 0 0]):=lH (by rw[G,M];exact eO _ _);have ak:Hid (w.heap.size+1<V):=lH (by rw[M];exact h.o.lt);replace h:=rW h E;replace r:=bT r E
  go_upto_region 3 with (fail)
  rw[<- G];clear G E M;obtain⟨r0,f0,r1,f1,r2,f2,r3,f3,r4,f4⟩:=aF5 h.o;have rl:=h.o.lt;go_wp2_with fail
  clear rl r0 f0 r1 f1 r2 f2 r3 f3 r4 f4;have R:=ji T (w.heap.size+1) (.int .i64 0) (.string ⟨#[]⟩) (.slice none 0 0) (.slice none 0 0) (.slice none 0 0);have C:=h.o.jh (v0:= .int .i64 0) (v1:= .string ⟨#[]⟩) (v2:= .slice none 0 0) (v3:= .slice none 0 0) (v4:= .slice none 0 0);have U:=r.o.grown R r.o.size (by first | (simp;done) | (simp;omega));obtain⟨wE,a6⟩:=eX ((((((T.setCell ⟨w.heap.size+1,0,none⟩ (.int .i64 0)).setCell ⟨w.heap.size+1,1,none⟩ (.string ⟨#[]⟩)).setCell ⟨w.heap.size+1,2,none⟩ (.slice none 0 0)).setCell ⟨w.heap.size+1,3,none⟩ (.slice none 0 0)).setCell ⟨w.heap.size+1,4,none⟩ (.slice none 0 0)));rw[<- a6] at C U ⊢;have k0:=C.at_ 0 rfl;have k1:=C.at_ 1 rfl;have k2:=C.at_ 2 rfl;have k3:=C.at_ 3 rfl;have k4:=C.at_ 4 rfl;refine bodyPost_ret (v:= .tuple #[.agg #[.int .i64 0, .string ⟨#[]⟩, .slice none 0 0, .slice none 0 0, .slice none 0 0], .int .i64 (cc:Nat)]) (by simp[results,results114,go_sem,k0,k1,k2,k3,k4]) rfl ?_;exact⟨.inl ⟨by rw[<- a7.o];exact ai.o,by rw[<- a7.o]⟩,U⟩
 ·have a8:=lH h0;have a9:=lH hP;have HC:=lH hc;have HA:=lH hA;have HD:=lH hD;clear h0 hP hc hA hD;obtain⟨T,G⟩:=eX (O.alloc (.cells #[.slice AC n cC, .slice AS m cS, .slice AD m cD] 204));obtain⟨V,M⟩:=eX (O.heap.size);have E:Below O.heap.size O T:=by rw[G];exact eD _ _
  have QB:Hid (Row T V 204 [.slice AC n cC, .slice AS m cS, .slice AD m cD]):=lH (by rw[G,M];exact eO _ _);have ak:Hid (w.heap.size+1<V):=lH (by rw[M];exact h.o.lt);replace h:=rW h E;replace r:=bT r E;replace HC:=lH (HC.o.below E);replace HA:=lH (HA.o.below E);replace HD:=lH (HD.o.below E);obtain⟨q0,q1,q2⟩:=aT3 QB.o;have ql:=QB.o.lt;rw[G] at q0 q1 q2 ql;rw[M] at q0 q1 q2 ql;go_wp2_with fail
  rw[<- G];clear G E M q0 q1 q2 ql;have a0:=lH (Gu a8.o a9.o HL.o.1 HL.o.2.1 HL.o.2.2);refine(I1 AC AS AD n m cC cS cD K A bq c _ HC.o (by exact a0.o.1) (by exact HA.o) (by exact HD.o) hn hm a0.o.2.1 a0.o.2.2 HK.o.1 (by have:=HK.o.2;omega)).mono ?_;rintro e w3 ⟨v,rfl,hv,a2⟩;have HV:=lH hv;replace h:=rW h a2;replace r:=bT r a2;clear a2 hv;go_wp2_with fail
  refine(I7 m n (Lp.wide m n K+1) A bq c v _ HV.out hm hn HK.o.2 (am.o.below r.o)).mono ?_;rintro e w4 ⟨v2,rfl,a5,a3⟩;replace h:=rW h a3;replace r:=bT r a3;clear a3 HV;obtain⟨kk,s0,X,n0,c0,Y,n1,c1,A2,n2,c2,rfl⟩:=a5.shape;have HV:=lH a5;clear a5;obtain⟨r0,f0,r1,f1,r2,f2,r3,f3,r4,f4⟩:=aF5 h.o;have rl:=h.o.lt;go_wp2_with fail
  clear rl r0 f0 r1 f1 r2 f2 r3 f3 r4 f4;have R:=ji w4 (w.heap.size+1) (.int .i64 kk) (.string s0) (.slice X n0 c0) (.slice Y n1 c1) (.slice A2 n2 c2);have C:=h.o.jh (v0:= .int .i64 kk) (v1:= .string s0) (v2:= .slice X n0 c0) (v3:= .slice Y n1 c1) (v4:= .slice A2 n2 c2);have U:=r.o.grown R r.o.size (by first | (simp;done) | (simp;omega));have aa:=HV.o.other R h.o dC;obtain⟨wE,a6⟩:=eX ((((((w4.setCell ⟨w.heap.size+1,0,none⟩ (.int .i64 kk)).setCell ⟨w.heap.size+1,1,none⟩ (.string s0)).setCell ⟨w.heap.size+1,2,none⟩ (.slice X n0 c0)).setCell ⟨w.heap.size+1,3,none⟩ (.slice Y n1 c1)).setCell ⟨w.heap.size+1,4,none⟩ (.slice A2 n2 c2)));rw[<- a6] at C U aa ⊢;have k0:=C.at_ 0 rfl;have k1:=C.at_ 1 rfl;have k2:=C.at_ 2 rfl;have k3:=C.at_ 3 rfl;have k4:=C.at_ 4 rfl;refine bodyPost_ret (v:= .tuple #[.agg #[.int .i64 kk, .string s0, .slice X n0 c0, .slice Y n1 c1, .slice A2 n2 c2], .int .i64 0]) (by simp[results,results114,go_sem,k0,k1,k2,k3,k4]) rfl ?_;exact⟨.inr ⟨a8.o,A,bq,c,_,a9.o,aa,rfl⟩,U⟩
end
section
open Go.RowKit
open Lp (RL upd eH jf)
theorem I9{n m:Nat}{A:Nat -> Nat -> Rat}{b c:Nat -> Rat}(t:n <= 96)(r:m <= 256):iq n m (fun _=>n) (fun j=>eB (c j)) (fun i j=>eB (A i j)) (fun i=>eB (b i))=0:=by
 unfold iq;rw[if_neg oM,if_neg (fun h=>h (fun _ _=>rfl)),q9,if_neg (by simp)];refine jw.2 fun i _=> ?_
 unfold kw;rw[q9,if_neg (by simp)];exact uC _
theorem iO.cg{w:World}{m n K:Nat}{A A':Nat -> Nat -> Rat}{b b' c c':Nat -> Rat}{v:Value}(O:∀i,i<m -> ∀j,j<n -> A i j=A' i j)(T:∀i,i<m -> b i=b' i)(U:∀j,j<n -> c j=c' j)(h:iO w m n K A b c v):iO w m n K A' b' c' v:=by
 cases h with
 | opt P E Y G q x y h1 r t C M=>exact .opt P E Y G q x y h1 r t C (GA O T U (fun _ _=>rfl) (fun _ _=>rfl) rfl M)
 | inf Y G y h1 r C t=>exact .inf Y G y h1 r C (GD O T (fun _ _=>rfl) t)
 | unb P E R cr x d h1 r t C M=>exact .unb P E R cr x d h1 r t C (GG O T U (fun _ _=>rfl) (fun _ _=>rfl) M)
theorem qi(C E:Option Addr)(n m G M K:Nat)(A:Nat -> Nat -> Rat)(b c:Nat -> Rat)(w:World)(O:TS w (.slice C n G) n (fun j=>eB (c j)))(hr:jY w (.slice E m M) m (fun _=>n) (fun i j=>eB (A i j)) (fun i=>eB (b i)))(hn:n <= 96)(hm:m <= 256)
  (Y:∀j,j<n -> RL K (c j)) (V:∀i,i<m -> ∀j,j<n -> RL K (A i j)) (W:∀i,i<m -> RL K (b i)) (hK:K <= 30000) (hw:Lp.wide m n (2*K+5)+1 <= 1000000) (ht:Tab w) (Z:fF w):
  Calls prog 114 #[.agg #[.slice C n G, .slice E m M]] w fun e w'=>∃v,e= .returned (.tuple #[v, .int .i64 0]) /\ iO w' m n (Lp.wide m n (2*K+5)+1) A b c v /\ Below w.heap.size w w':=by
 have h1:∀j,j<n -> (eB (c j)).size <= 2*K+5:=fun j t=>ky (Y j t)
 have T:∀i,i<m -> ∀j,j<n -> (eB (A i j)).size <= 2*K+5:=fun i r j t=>ky (V i r j t)
 have U:∀i,i<m -> (eB (b i)).size <= 2*K+5:=fun i r=>ky (W i r)
 refine(I8 C E n m G M (fun _=>n) _ _ _ (2*K+5) w O hr oM oM (fun j t=>by have:=h1 j t;omega) (fun i r j t=>by have:=T i r j t;omega) (fun i r=>by have:=U i r;omega) oM hw h1 T U ht Z).mono ?_;rintro e w' ⟨h | h,X⟩
 ·exact absurd (I9 hn hm) h.1
 ·obtain⟨_,A',b',c',v,R,O,rfl⟩:=h;exact⟨v,rfl,O.cg (fun i r j t=>kZ ((R.rows i r j t).symm.trans (jA _))) (fun i r=>kZ ((R.bounds i r).symm.trans (jA _))) (fun j t=>kZ ((R.obj j t).symm.trans (jA _))),X⟩
theorem qj{P:Prb}(h:POk P):pM P <= 192:=by have:=h.n64;have:=h.m64;unfold pM;omega
theorem qm{F:Frm}{K:Nat}{g:Int}(r:∀k,k<F.N -> (F.f k).size <= K)(h:0<K)(t:g=1 \/ g= -1)(j:Nat):RL (K+1) (pC F g j):=
 (uE (fun k C=>ig (r k C) h) h F.N (Nat.le_refl _) j).mul (by rcases t with rfl | rfl <;> (unfold RL;decide))
theorem qo{P:Prb}{K:Nat}(t:∀i,i<P.m -> ∀k,k<(P.F i).N -> ((P.F i).f k).size <= K)(r:0<K){i:Nat}(C:i<pM P)(j:Nat):RL (K+1) (pA P i j):=by
 unfold pA;by_cases h:i<2*P.n
 ·rw[if_pos h];refine(RL.mul (k:=1) (m:=1) ?_ ?_).mono oM
  ·by_cases e:j=i / 2
   ·rw[e,Lp.upd_same];exact Lp.RL.one
   ·rw[Lp.eQ _ _ e];exact Lp.RL.zero
  ·split
   ·exact Lp.RL.one
   ·unfold RL;decide
 ·rw[if_neg h];have E:i-2*P.n<P.m:=by unfold pM at C;omega
  exact(uE (fun k G=>ig (t _ E k G) r) r _ (Nat.le_refl _) j).mul Lp.RL.one
theorem qp{P:Prb}{K:Nat}(G:POk P)(t:∀i,i<P.m -> (P.F i).c.size <= K)(r:0<K){i:Nat}(C:i<pM P):RL (K+10) (pB P i):=by
 unfold pB;by_cases h:i<2*P.n
 ·rw[if_pos h];have h1:=G.dim (i / 2) oM;split
  ·exact(rM (k:=11) oM dC).mono oM
  ·exact(rM (k:=11) oM dC).mono oM
 ·rw[if_neg h];have E:i-2*P.n<P.m:=by unfold pM at C;omega
  exact(ig (t _ E) r).neg.mono oM
theorem Ia{P:Prb}{c x d:Nat -> Rat}(h:Lp.Unb (pM P) P.n (pA P) (pB P) c x d):False:=by
 have M:∀k,k<P.n -> d k=0:=fun k r=>by
  have h1:=h.ray (2*k) (by unfold pM;omega);have t:=h.ray (2*k+1) (by unfold pM;omega)
  have e:∀g:Rat,eH P.n (fun j=>upd (fun _=>0) k 1 j*g) d=d k*g:=fun g=>by
   rw[lX (a':=upd (fun _=>0) k g) (x':=d) (fun j _=>by by_cases e:j=k;rw[e,Lp.upd_same,Lp.upd_same];grind;rw[Lp.eQ _ _ e,Lp.eQ _ _ e];grind) (fun _ _=>rfl),zu r,show eH P.n (fun _=>0) d=0 from Lp.iF fun k _=>by grind];grind
  rw[show pA P (2*k)=fun j=>upd (fun _=>0) k 1 j* ((1:Int):Rat) from funext (zH P r),e] at h1;rw[show pA P (2*k+1)=fun j=>upd (fun _=>0) k 1 j* ((-1:Int):Rat) from funext (zI P r),e] at t;have C:((1:Int):Rat)=1:=rfl;have E:((-1:Int):Rat)= -1:=rfl;rw[C] at h1;rw[E] at t;grind
 have G:=h.up;rw[show eH P.n c d=0 from Lp.iF fun k r=>by rw[M k r];grind] at G;grind
theorem Ib{n:Nat}(a x:Nat -> Rat)(g:Rat):eH n (fun j=>a j*g) x=g*eH n a x:=by
 induction n with
 | zero=>show(0:Rat)=g*0;grind
 | succ n h=>rw[og,og,h];grind
theorem Ic{n:Nat}{F:Frm}(h:TOk n F){g:Int}(r:g=1 \/ g= -1)(x:Nat -> Rat):fw F x F.N=qof F.c+ (g:Rat)*eH n (pC F g) x:=by
 rw[GK h x F.N (Nat.le_refl _),show eH n (pC F g) x=(g:Rat)*eH n (iw F F.N) x from Ib _ _ _]
 rcases r with rfl | rfl
 ·rw[show((1:Int):Rat)=1 from rfl];grind
 ·rw[show((-1:Int):Rat)= -1 from rfl];grind
theorem Ie(m n k:Nat):k <= Lp.wide m n k:=by
 unfold Lp.wide;have:=Nat.le_mul_of_pos_right k (show 0<n+1 by omega);omega
def rX(w:World)(v:Value)(m:Nat)(s:Nat -> ByteArray):Prop:=∃g Y cy,v= .slice (some ⟨g,0,none⟩) 1 1 /\ Row w g 111 [.slice none 0 0, .slice Y m cy] /\ TSN w (.slice Y m cy) m s
theorem rX.below{w w':World}{v:Value}{m:Nat}{s:Nat -> ByteArray}(h:rX w v m s)(t:Below w.heap.size w w'):rX w' v m s:=by
 obtain⟨g,Y,C,h1,r,E⟩:=h;exact⟨g,Y,C,h1,r.below t r.lt,E.below t⟩
structure Wst where
 q:Rat
 x:Nat -> Rat
 y:Nat -> Rat
def jk(w:World)(v:Value)(n m:Nat)(o:Wst):Prop:=∃X cx vc,v= .agg #[.string (eB o.q), .slice X n cx,vc] /\ TSN w (.slice X n cx) n (fun j=>eB (o.x j)) /\ rX w vc m (fun j=>eB (o.y j))
theorem jk.below{w w':World}{v:Value}{n m:Nat}{o:Wst}(h:jk w v n m o)(r:Below w.heap.size w w'):jk w' v n m o:=by
 obtain⟨X,t,G,h1,C,E⟩:=h;exact⟨X,t,G,h1,C.below r,E.below r⟩
theorem jk.other{w w':World}{v:Value}{n m g:Nat}{o:Wst}{e:TypeId}{cs:List Value}(h:jk w v n m o)(r:w.grownBy w' (some g))(t:Row w g e cs)(E:e≠22)(V:e≠111):jk w' v n m o:=by
 obtain⟨X,G,W,h1,R,g',Y,M,T,C,U⟩:=h;exact⟨X,G,W,h1,R.other r t E,g',Y,M,T,C.other r (fun O=>by subst O;exact V (t.ty C)),U.other r t E⟩
theorem jk.shape{w:World}{v:Value}{n m:Nat}{o:Wst}(h:jk w v n m o):∃X r g,v= .agg #[.string (eB o.q), .slice X n r, .slice (some ⟨g,0,none⟩) 1 1]:=by
 obtain⟨X,r,E,h1,C,g,Y,t,rfl,_⟩:=h;exact⟨X,r,g,h1⟩
structure mU (P:Prb) (F:Frm) (g:Int) (L:Nat) (o:Wst):Prop where
 opt:Lp.Opt (pM P) P.n (pA P) (pB P) (pC F g) (eH P.n (pC F g) o.x) o.x o.y
 val:o.q=fw F o.x F.N
 rx:RLs L P.n o.x
 ry:RLs L (pM P) o.y
 rq:RL (2*L) o.q
structure oF (P:Prb) (F:Frm) (K L:Nat):Prop where
 pf:∀i,i<P.m -> ∀k,k<(P.F i).N -> ((P.F i).f k).size <= K
 pc:∀i,i<P.m -> (P.F i).c.size <= K
 ff:∀k,k<F.N -> (F.f k).size <= K
 fc:F.c.size <= K
 wd:Lp.wide (pM P) P.n (2* (K+10)+5)+1 <= L
 lim:0<K /\ K <= 20000 /\ 4*L+5 <= 65536
def qE(P:Prb)(F:Frm):Nat:=if iA P≠0 then iA P else iL P.n F
theorem Ig{P:Prb}{F:Frm}(h:qE P F=0):POk P /\ FOk P.n F:=by
 unfold qE at h;by_cases h1:iA P=0
 ·rw[if_neg (by simpa using h1)] at h;exact⟨zw h1,qg h⟩
 ·rw[if_pos h1] at h;exact absurd h h1
def zP(w:World)(P:Prb)(F:Frm)(g:Int)(L:Nat)(e:Ending):Prop:=
 (∃y,Lp.Inf (pM P) P.n (pA P) (pB P) y /\ e= .returned (.tuple #[.agg #[.string ⟨#[]⟩, .slice none 0 0, .slice none 0 0], .int .i64 21])) \/
 ∃o v,mU P F g L o /\ jk w v P.n (pM P) o /\ e= .returned (.tuple #[v, .int .i64 0])
def uP(w:World)(P:Prb)(F:Frm)(g:Int)(L:Nat)(e:Ending):Prop:=
 (qE P F≠0 /\ e= .returned (.tuple #[.agg #[.string ⟨#[]⟩, .slice none 0 0, .slice none 0 0], .int .i64 (qE P F:Nat)])) \/ (qE P F=0 /\ zP w P F g L e)
end
end Go.Proofs.YtokagbahdkfagaaGreatDoor
