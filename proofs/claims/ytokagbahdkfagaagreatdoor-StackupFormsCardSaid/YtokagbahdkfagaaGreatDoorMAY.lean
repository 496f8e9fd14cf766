/- Parts of this proof: RMul RDivA RDivMod RMulW RGcd QCheck QRef QArith VerM SPlain SVal Outc SValue SKnownM SCoef. -/
import Derived.Test.YtokagbahdkfagaaGreatDoorMAX
import Derived.Test.YtokagbahdkfagaaGreatDoorMAG
import Derived.Laws.AppendOwnNone
import Derived.Test.YtokagbahdkfagaaGreatDoorMAI
import Derived.Test.YtokagbahdkfagaaGreatDoorMAD
import Derived.Test.YtokagbahdkfagaaGreatDoorMAK
import Derived.Test.YtokagbahdkfagaaGreatDoorMAR
import Derived.Test.YtokagbahdkfagaaGreatDoorMAT
import Derived.Test.YtokagbahdkfagaaGreatDoorMAU
import Derived.Test.YtokagbahdkfagaaGreatDoorMAE
import Derived.Test.YtokagbahdkfagaaGreatDoorMAP
namespace Go.Proofs.YtokagbahdkfagaaGreatDoor
open Go.Proofs.Tryz
section
open Go.RowKit
def iK(w:World)(g:Nat)(l:List Nat):Prop:=Row w g 3 (l.map dV)
section
variable {w w':World} {g:Nat} {l:List Nat}
theorem iK.lt(h:iK w g l):g<w.heap.size:=Row.lt h
theorem iK.cell(h:iK w g l){j:Nat}(r:j<l.length): w.cell? ⟨g,j,none⟩=some (.int .i64 (dg l j:Nat)):=by
 rw[Row.cell h];exact uB r
theorem iK.free(h:iK w g l)(j:Nat): w.frozen? ⟨g,j,none⟩=false:=Row.free h j
theorem iK.set(h:iK w g l)(j x:Nat){v:Value}(r:v= .int .i64 (x:Nat)):iK (w.setCell ⟨g,j,none⟩ v) g (l.set j x):=by
 subst r;have:=Row.set h j (dV x);unfold iK;rw[List.map_set];exact this
theorem iK.drewN(h:iK w g l)(n:Nat):iK (w.drewN n) g l:=h
theorem iK.below(h:iK w g l){B:Nat}(r:Below B w w')(t:g<B):iK w' g l:=Row.below h r t
theorem iK.made{n:Nat}(h:Row w g 3 (List.replicate n (Value.int .i64 0))):iK w g (List.replicate n 0):=by
 unfold iK;rw[List.map_replicate];exact h
theorem iK.isD(h:iK w g l){n:Nat}(C:n=l.length)(t:n <= maxLen):IsD w (.slice (some ⟨g,0,none⟩) n n) l:=by
 subst C;refine⟨_,_,rfl,Nat.le_refl _,t,?_⟩;exact .inr ⟨g,0,rfl,fun j r=>by rw[Nat.zero_add];exact h.cell r,_,_,_,h,fun z E=>by simp at E⟩
end
def zk(a:Int):Prop:=(T.ek a.natAbs).length<100000000
theorem zk.few{a:Int}(h:zk a):Few a:=Nat.lt_trans h dC
end
section
open Go.RowKit
end
section
open Go.RowKit
end
section
open Go.RowKit
end
section
open Go.RowKit
end
section
open Go.RowKit
end
section
open Go.RowKit
end
section
open Go.RowKit
open Lp (RL upd eu)
theorem zl{a:Int}{k:Nat}(h:a.natAbs<10^k):(txt a).size <= k+2:=by
 have t:=nW k a.natAbs (Nat.lt_of_lt_of_le h (Nat.pow_le_pow_right dC oM));rw[show(txt a).size=(Lib.itoa a).length by unfold txt;rfl];by_cases r:a<0
 ·rw[itoa_neg r,List.length_cons];omega
 ·rw[jK r];omega
theorem ky{q:Rat}{k:Nat}(h:RL k q):(eB q).size <= 2*k+5:=by
 have h1:=zl h.1;have r:=zl (a:=(q.den:Int)) (k:=k) (by rw[Int.natAbs_natCast];exact h.2);by_cases e:q.den=1
 ·rw[vX e];omega
 ·rw[<- yC e,ByteArray.size_append,ByteArray.size_append];have:(⟨#[47]⟩:ByteArray).size=1:=rfl;omega
end
section
open Go.RowKit
open Lp (RL upd eu eH sumTo sumTo_congr)
structure OTx where
 kk:Int
 s:ByteArray
 np:Nat
 p:Nat -> ByteArray
 ny:Nat
 y:Nat -> ByteArray
 nd:Nat
 d:Nat -> ByteArray
def rA(w:World)(v:Value)(O:OTx):Prop:=∃vp vy vd,v= .agg #[.int .i64 O.kk, .string O.s,vp,vy,vd] /\ TSA w vp O.np O.p /\ TSA w vy O.ny O.y /\ TSA w vd O.nd O.d
theorem rA.below{w w':World}{v:Value}{O:OTx}(h:rA w v O)(r:Below w.heap.size w w'):rA w' v O:=by
 obtain⟨M,R,G,E,h1,t,C⟩:=h;exact⟨M,R,G,E,h1.below r,t.below r,C.below r⟩
def OTx.Fit(O:OTx)(K:Nat):Prop:=O.s.size <= K /\ (∀j,j<O.np -> (O.p j).size <= K) /\ (∀j,j<O.ny -> (O.y j).size <= K) /\ ∀j,j<O.nd -> (O.d j).size <= K
theorem OTx.Fit.mono{O:OTx}{a b:Nat}(h:O.Fit a)(t:a <= b):O.Fit b:=⟨Nat.le_trans h.1 t,fun j r=>Nat.le_trans (h.2.1 j r) t,fun j r=>Nat.le_trans (h.2.2.1 j r) t,fun j r=>Nat.le_trans (h.2.2.2 j r) t⟩
def OTx.Gy(O:OTx)(n m:Nat):Prop:=O.np=(if O.kk=2 then 0 else n) /\ O.ny=(if O.kk=3 then 0 else m) /\ O.nd=(if O.kk=3 then n else 0) /\ (O.kk=1 \/ O.s=⟨#[]⟩)
def OTx.rC(O:OTx):Nat:=if fE O.np (fun j=>sE (O.p j))≠0 then fE O.np (fun j=>sE (O.p j)) else if fE O.ny (fun j=>sE (O.y j))≠0 then fE O.ny (fun j=>sE (O.y j)) else fE O.nd (fun j=>sE (O.d j))
def OTx.err(O:OTx):Nat:=if O.kk=1 /\ sE O.s≠0 then sE O.s else O.rC
structure OTx.Is (O:OTx) (v:Rat) (x y d:Nat -> Rat):Prop where
 val:O.kk=1 -> O.s.data.toList=fB v
 pt:∀j,j<O.np -> (O.p j).data.toList=fB (x j)
 du:∀j,j<O.ny -> (O.y j).data.toList=fB (y j)
 ray:∀j,j<O.nd -> (O.d j).data.toList=fB (d j)
def Gz(m n:Nat)(kk:Int)(A:Nat -> Nat -> Rat)(b c:Nat -> Rat)(v:Rat)(x y d:Nat -> Rat):Prop:=
 (kk=1 -> Lp.Opt m n A b c v x y) /\ (kk=2 -> Lp.Inf m n A b y) /\ (kk=3 -> Lp.Unb m n A b c x d)
theorem lX{n:Nat}{a a' x x':Nat -> Rat}(h:∀k,k<n -> a k=a' k)(t:∀k,k<n -> x k=x' k):eH n a x=eH n a' x':=sumTo_congr fun k r=>by rw[h k r,t k r]
section
variable {m n:Nat} {A A':Nat -> Nat -> Rat} {b b' c c' x x' y y' d d':Nat -> Rat} {v v':Rat}
theorem zm(t:∀i,i<m -> ∀j,j<n -> A i j=A' i j)(C:∀i,i<m -> b i=b' i)(E:∀j,j<n -> x j=x' j)(h:Lp.jf m n A b x):Lp.jf m n A' b' x':=fun i r=>by
 rw[<- lX (t i r) E, <- C i r];exact h i r
theorem zn(E:∀i,i<m -> ∀j,j<n -> A i j=A' i j)(C:∀i,i<m -> y i=y' i)(G:∀j,j<n -> c j=c' j)(h:Lp.nG m n A y c):Lp.nG m n A' y' c':=
 ⟨fun i r=>by rw[<- C i r];exact h.pos i r,fun k t=>by rw[<- lX C (fun i r=>E i r k t), <- G k t];exact h.sum k t⟩
theorem GA(r:∀i,i<m -> ∀j,j<n -> A i j=A' i j)(t:∀i,i<m -> b i=b' i)(C:∀j,j<n -> c j=c' j)(G:∀j,j<n -> x j=x' j)(M:∀i,i<m -> y i=y' i)(E:v=v')(h:Lp.Opt m n A b c v x y):Lp.Opt m n A' b' c' v' x' y':=
 ⟨zn r M C h.du,by rw[<- lX M t, <- E];exact h.bound,zm r t G h.holds,by rw[<- lX C G, <- E];exact h.value⟩
theorem GD(t:∀i,i<m -> ∀j,j<n -> A i j=A' i j)(C:∀i,i<m -> b i=b' i)(r:∀i,i<m -> y i=y' i)(h:Lp.Inf m n A b y):Lp.Inf m n A' b' y':=
 ⟨zn t r (fun _ _=>rfl) h.du,by rw[<- lX r C];exact h.bound⟩
theorem GG(r:∀i,i<m -> ∀j,j<n -> A i j=A' i j)(E:∀i,i<m -> b i=b' i)(G:∀j,j<n -> c j=c' j)(M:∀j,j<n -> x j=x' j)(t:∀j,j<n -> d j=d' j)(h:Lp.Unb m n A b c x d):Lp.Unb m n A' b' c' x' d':=
 ⟨zm r E M h.holds,fun i C=>by rw[<- lX (r i C) t];exact h.ray i C,by rw[<- lX G t];exact h.up⟩
end
theorem lq{l:List UInt8}{p q:Rat}(h:l=fB p)(r:l=fB q):p=q:=kZ (h.symm.trans r)
theorem uC(q:Rat):sE (eB q)=0:=by unfold sE;rw[jA];exact nC q
theorem q9(n:Nat)(x:Nat -> Rat):fE n (fun j=>sE (eB (x j)))=0:=jw.2 fun _ _=>uC _
theorem iO.tx{w:World}{m n K:Nat}{A:Nat -> Nat -> Rat}{M c:Nat -> Rat}{v:Value}(h:iO w m n K A M c v):
  ∃O:OTx,rA w v O /\ O.Fit (2*K+5) /\ (1 <= O.kk /\ O.kk <= 3) /\ O.Gy n m /\ O.err=0 /\ ∃q x y d,O.Is q x y d /\ Gz m n O.kk A M c q x y d:=by
 cases h with
 | opt P T Y U q x y h1 C E t G=>
  refine⟨⟨1,eB q,n,fun j=>eB (x j),m,fun j=>eB (y j),0,fun _=>⟨#[]⟩⟩,⟨_,_,_,h1,C.1,E.1,qV _ _⟩,⟨ky t.1,fun j r=>ky (t.2.1 j r),fun j r=>ky (t.2.2 j r),fun j r=>absurd r (Nat.not_lt_zero _)⟩,⟨show(1:Int) <= 1 by decide,show(1:Int) <= 3 by decide⟩,⟨rfl,rfl,rfl, .inl rfl⟩,?_,q,x,y,fun _=>0,⟨fun _=>jA _,fun j _=>jA _,fun j _=>jA _,fun j r=>absurd r (Nat.not_lt_zero _)⟩,⟨fun _=>G,fun e=>absurd (show(1:Int)=2 from e) dC,fun e=>absurd (show(1:Int)=3 from e) dC⟩⟩;unfold OTx.err OTx.rC;rw[if_neg (fun h=>h.2 (uC q))];simp only[q9,ne_eq,not_true_eq_false,if_false];rfl
 | inf Y U y h1 C t E=>
  refine⟨⟨2,⟨#[]⟩,0,fun _=>⟨#[]⟩,m,fun j=>eB (y j),0,fun _=>⟨#[]⟩⟩,⟨_,_,_,h1,qV _ _,C.1,qV _ _⟩,⟨Nat.zero_le _,fun j r=>absurd r (Nat.not_lt_zero _),fun j r=>ky (t j r),fun j r=>absurd r (Nat.not_lt_zero _)⟩,⟨show(1:Int) <= 2 by decide,show(2:Int) <= 3 by decide⟩,⟨rfl,rfl,rfl, .inr rfl⟩,?_,0,fun _=>0,y,fun _=>0,⟨fun e=>absurd (show(2:Int)=1 from e) dC,fun j r=>absurd r (Nat.not_lt_zero _),fun j _=>jA _,fun j r=>absurd r (Nat.not_lt_zero _)⟩,⟨fun e=>absurd (show(2:Int)=1 from e) dC,fun _=>E,fun e=>absurd (show(2:Int)=3 from e) dC⟩⟩;unfold OTx.err OTx.rC;rw[if_neg (fun h=>absurd (show(2:Int)=1 from h.1) dC)];simp only[q9,ne_eq,not_true_eq_false,if_false,fE]
 | unb P T R cr x d h1 C E t G=>
  refine⟨⟨3,⟨#[]⟩,n,fun j=>eB (x j),0,fun _=>⟨#[]⟩,n,fun j=>eB (d j)⟩,⟨_,_,_,h1,C.1,qV _ _,E.1⟩,⟨Nat.zero_le _,fun j r=>ky (t.1 j r),fun j r=>absurd r (Nat.not_lt_zero _),fun j r=>ky (t.2 j r)⟩,⟨show(1:Int) <= 3 by decide,show(3:Int) <= 3 by decide⟩,⟨rfl,rfl,rfl, .inr rfl⟩,?_,0,x,fun _=>0,d,⟨fun e=>absurd (show(3:Int)=1 from e) dC,fun j _=>jA _,fun j r=>absurd r (Nat.not_lt_zero _),fun j _=>jA _⟩,⟨fun e=>absurd (show(3:Int)=1 from e) dC,fun e=>absurd (show(3:Int)=2 from e) dC,fun _=>G⟩⟩;unfold OTx.err OTx.rC;rw[if_neg (fun h=>absurd (show(3:Int)=1 from h.1) dC)];simp only[q9,ne_eq,not_true_eq_false,if_false,fE]
end
section
open Go.RowKit
open Lp (RL upd eH sumTo)
def iL(n:Int)(F:Frm):Nat:=
 if n<0 \/ 64<n then 2 else if gm F.c.data.toList≠0 then gm F.c.data.toList else if 64<F.N then 6 else fE F.N (fG n F.d F.f)
theorem qX.eq{n:Int}{c:ByteArray}{N:Nat}{d:Nat -> Int}{f:Nat -> ByteArray}{x:Nat}(h:qX n c N d f x):x=iL n ⟨c,N,d,f⟩:=by
 unfold iL
 rcases h with ⟨h1,rfl⟩ | ⟨h1,O,r⟩
 ·rw[if_pos h1]
 ·rw[if_neg oM]
  rcases r with ⟨r,rfl⟩ | ⟨r,t⟩
  ·rw[if_pos r]
  ·rw[if_neg (by simpa using r)]
   rcases t with ⟨t,rfl⟩ | ⟨t,E⟩
   ·rw[if_pos t]
   ·rw[if_neg (show ¬64<N by omega)]
    rcases E with ⟨k,M,C,G,rfl⟩ | ⟨C,rfl⟩
    ·exact(kv M C G).symm
    ·exact(jw.2 C).symm
theorem qd(n:Int)(F:Frm)(T:Option Addr)(h:Nat)(w:World)(r:TT w (.slice T F.N h) F.N F.d F.f)(C:fF w):
  Calls prog 17 #[.int .i64 n, .agg #[.string F.c, .slice T F.N h]] w fun e w'=>e= .returned (.int .i64 (iL n F:Nat)) /\ Below w.heap.size w w':=by
 refine(FE n F.c _ F.N F.d F.f w r C).mono ?_;rintro e w' ⟨⟨x,rfl,E⟩,t⟩;exact⟨by rw[E.eq],t⟩
def kT(s:Nat -> ByteArray):Nat -> List (List UInt8)
 | 0=>[]
 | k+1=>pW (kT s k) (s k)
def gW(s:Nat -> ByteArray)(a l u:Nat -> Int)(k:Nat):Nat:=
 if jg (kT s k) (s k)≠0 then jg (kT s k) (s k) else if jM (a k)=false \/ jM (l k)=false \/ jM (u k)=false then 2 else if u k<l k then 8 else 0
def jP(n:Int)(s:Nat -> ByteArray)(F:Nat -> Frm)(k:Nat):Nat:=
 if jg (kT s k) (s k)≠0 then jg (kT s k) (s k) else iL n (F k)
def iA(P:Prb):Nat:=
 if 64<P.n \/ 64<P.m then 6 else if fE P.n (gW P.s P.a P.l P.u)≠0 then fE P.n (gW P.s P.a P.l P.u) else fE P.m (jP P.n P.t P.F)
structure TOk (n:Int) (F:Frm):Prop where
 few:F.N <= 64
 term:∀k,k<F.N -> fG n F.d F.f k=0
structure FOk (n:Int) (F:Frm):Prop where
 ok:TOk n F
 n0:0 <= n
 n64:n <= 64
 cst:gm F.c.data.toList=0
theorem qg{n:Int}{F:Frm}(h:iL n F=0):FOk n F:=by
 unfold iL at h;by_cases h1:n<0 \/ 64<n
 ·rw[if_pos h1] at h;cases h
 rw[if_neg h1] at h;by_cases r:gm F.c.data.toList=0
 ·rw[if_neg (by simpa using r)] at h;by_cases t:64<F.N
  ·rw[if_pos t] at h;cases h
  ·rw[if_neg t] at h;exact⟨⟨by omega,jw.1 h⟩,by omega,by omega,r⟩
 ·rw[if_pos r] at h;exact absurd h r
theorem FOk.zero{n:Int}{F:Frm}(h:FOk n F):iL n F=0:=by
 unfold iL;rw[if_neg (by have:=h.n0;have:=h.n64;omega),if_neg (by simpa using h.cst),if_neg (by have:=h.ok.few;omega)];exact jw.2 h.ok.term
theorem uD{n:Int}{d:Nat -> Int}{f:Nat -> ByteArray}{k:Nat}(h:fG n d f k=0):(0 <= d k /\ d k<n) /\ (0<k -> d (k-1)<d k) /\ gm (f k).data.toList=0 /\ (f k).data.toList≠ [48]:=by
 unfold fG at h;by_cases h1:d k<0 \/ n <= d k
 ·rw[if_pos h1] at h;cases h
 rw[if_neg h1] at h;by_cases t:0<k /\ d k <= d (k-1)
 ·rw[if_pos t] at h;cases h
 rw[if_neg t] at h;by_cases r:gm (f k).data.toList=0
 ·rw[if_neg (by simpa using r)] at h;by_cases C:(f k).data.toList= [48]
  ·rw[if_pos C] at h;cases h
  ·exact⟨by omega,by omega,r,C⟩
 ·rw[if_pos r] at h;exact absurd h r
theorem GH{l:List UInt8}(h:gm l=0):l.length <= 400 /\ fo l=0:=by
 unfold gm at h;by_cases h1:400<l.length
 ·rw[if_pos h1] at h;cases h
 ·rw[if_neg h1] at h;exact⟨by omega,h⟩
theorem oq{s:ByteArray}(h:gm s.data.toList=0):s.size <= 400:=by rw[zi];exact(GH h).1
open Classical in
noncomputable def qof(s:ByteArray):Rat:=if h:∃q,s.data.toList=fB q then h.choose else 0
theorem jQ{s:ByteArray}{q:Rat}(h:s.data.toList=fB q):qof s=q:=by
 have r:∃q,s.data.toList=fB q:=⟨q,h⟩
 unfold qof;rw[dif_pos r];exact kZ (r.choose_spec.symm.trans h)
theorem zo(q:Rat):qof (eB q)=q:=jQ (jA q)
theorem zq{s:ByteArray}(h:fo s.data.toList≠0):qof s=0:=by
 unfold qof;rw[dif_neg];rintro⟨q,r⟩;rw[r] at h;exact h (nC q)
theorem GI{s:ByteArray}(h:fo s.data.toList=0):s.data.toList=fB (qof s):=by
 obtain⟨q,r⟩:=CS h;rw[jQ r];exact r
theorem ig{s:ByteArray}{K:Nat}(h:s.size <= K)(r:0<K):RL K (qof s):=by
 by_cases h1:fo s.data.toList=0
 ·exact rz (GI h1) h
 ·rw[zq h1];exact RL.zero.mono r
noncomputable def fw(F:Frm)(x:Nat -> Rat):Nat -> Rat
 | 0=>qof F.c
 | k+1=>fw F x k+qof (F.f k)*x (F.d k).toNat
noncomputable def iw(F:Frm):Nat -> Nat -> Rat
 | 0=>fun _=>0
 | k+1=>upd (iw F k) (F.d k).toNat (qof (F.f k))
theorem rE{F:Frm}{x:Nat -> Rat}{K X:Nat}(h:RL K (qof F.c))(r:∀k,k<F.N -> RL K (qof (F.f k)))(t:∀k,k<F.N -> RL X (x (F.d k).toNat)):∀k,k <= F.N -> RL (K+k* (K+X+1)) (fw F x k):=by
 intro k
 induction k with
 | zero=>intro _;exact h.mono oM
 | succ k C=>intro E;exact((C oM).add ((r k oM).mul (t k oM))).mono (by rw[Nat.succ_mul];omega)
theorem uE{F:Frm}{K:Nat}(r:∀k,k<F.N -> RL K (qof (F.f k)))(h:0<K):∀k,k <= F.N -> ∀j,RL K (iw F k j):=by
 intro k
 induction k with
 | zero=>intro _ j;exact RL.zero.mono h
 | succ k t=>
  intro C j;by_cases e:j=(F.d k).toNat
  ·rw[iw,e,Lp.upd_same];exact r k oM
  ·rw[iw,Lp.eQ _ _ e];exact t oM j
theorem zu{n i:Nat}(r:i<n)(f:Nat -> Rat)(q:Rat)(x:Nat -> Rat):eH n (upd f i q) x=eH n f x+ (q-f i)*x i:=by
 induction n with
 | zero=>omega
 | succ n h=>
  rw[og,og];by_cases e:i=n
  ·subst e;rw[Lp.upd_same,lX (a':=f) (x':=x) (fun k t=>Lp.eQ _ _ oM) (fun _ _=>rfl)];grind
  ·rw[h oM,Lp.eQ _ _ oM];grind
theorem TOk.lt{n:Int}{F:Frm}(h:TOk n F){k:Nat}(r:k<F.N):0 <= F.d k /\ F.d k<n:=(uD (h.term k r)).1
theorem TOk.inc{n:Int}{F:Frm}(h:TOk n F):∀k,k<F.N -> ∀i,i<k -> F.d i<F.d k:=by
 intro k
 induction k with
 | zero=>intro _ i r;omega
 | succ k C=>
  intro t i r;have h1:=(uD (h.term (k+1) t)).2.1 oM;rw[Nat.add_sub_cancel] at h1;by_cases e:i=k
  ·rw[e];exact h1
  ·have:=C oM i oM;omega
theorem GJ{F:Frm}{j:Nat}:∀k,(∀i,i<k -> (F.d i).toNat≠j) -> iw F k j=0:=by
 intro k
 induction k with
 | zero=>intro _;rfl
 | succ k r=>intro h;rw[iw,Lp.eQ _ _ (fun e=>h k oM e.symm)];exact r fun i t=>h i oM
theorem GK{n:Nat}{F:Frm}(h:TOk n F)(x:Nat -> Rat):∀k,k <= F.N -> fw F x k=qof F.c+eH n (iw F k) x:=by
 intro k
 induction k with
 | zero=>intro _;rw[fw,iw,show eH n (fun _=>0) x=0 from Lp.iF fun k _=>by grind];grind
 | succ k t=>
  intro C;have h1:=h.lt (k:=k) oM;rw[fw,iw,t oM,zu oM,GJ k (fun i r=>by have:=h.inc k oM i r;have:=h.lt (k:=i) oM;omega)];grind
noncomputable def pA(P:Prb)(i j:Nat):Rat:=if i<2*P.n then upd (fun _=>0) (i / 2) 1 j* (if i%2=0 then 1 else -1) else iw (P.F (i-2*P.n)) (P.F (i-2*P.n)).N j*1
noncomputable def pB(P:Prb)(i:Nat):Rat:=if i<2*P.n then(if i%2=0 then((P.a (i / 2)+P.u (i / 2):Int):Rat) else((-P.a (i / 2)-P.l (i / 2):Int):Rat)) else -qof (P.F (i-2*P.n)).c
noncomputable def pC(F:Frm)(g:Int)(j:Nat):Rat:=iw F F.N j* (g:Rat)
def pM(P:Prb):Nat:=2*P.n+P.m
structure POk (P:Prb):Prop where
 n64:P.n <= 64
 m64:P.m <= 64
 dim:∀k,k<P.n -> (-1073741824 <= P.a k /\ P.a k <= 1073741824) /\ (-1073741824 <= P.l k /\ P.l k <= 1073741824) /\ (-1073741824 <= P.u k /\ P.u k <= 1073741824) /\ P.l k <= P.u k
 con:∀k,k<P.m -> FOk P.n (P.F k)
theorem uF{z:Int}(h:jM z=true): -1073741824 <= z /\ z <= 1073741824:=by
 unfold jM at h
 simpa using h
theorem zw{P:Prb}(h:iA P=0):POk P:=by
 unfold iA at h;by_cases h1:64<P.n \/ 64<P.m
 ·rw[if_pos h1] at h;cases h
 rw[if_neg h1] at h;by_cases G:fE P.n (gW P.s P.a P.l P.u)=0
 ·rw[if_neg (by simpa using G)] at h;refine⟨by omega,by omega,fun k M=> ?_,fun k M=> ?_⟩
  ·have r:=jw.1 G k M;unfold gW at r;by_cases C:jg (kT P.s k) (P.s k)=0
   ·rw[if_neg (by simpa using C)] at r;by_cases E:jM (P.a k)=false \/ jM (P.l k)=false \/ jM (P.u k)=false
    ·rw[if_pos E] at r;cases r
    ·rw[if_neg E] at r;simp only[not_or,Bool.not_eq_false] at E;by_cases O:P.u k<P.l k
     ·rw[if_pos O] at r;cases r
     ·exact⟨uF E.1,uF E.2.1,uF E.2.2,by omega⟩
   ·rw[if_pos C] at r;exact absurd r C
  ·have r:=jw.1 h k M;unfold jP at r;by_cases C:jg (kT P.t k) (P.t k)=0
   ·rw[if_neg (by simpa using C)] at r;exact qg r
   ·rw[if_pos C] at r;exact absurd r C
 ·rw[if_pos G] at h;exact absurd h G
theorem FOk.ou{n:Nat}{F:Frm}(h:TOk (n:Nat) F):∀k,k<F.N -> 0 <= F.d k /\ F.d k<(n:Nat):=fun _ r=>h.lt r
theorem TOk.size{n:Int}{F:Frm}(h:TOk n F):∀k,k<F.N -> (F.f k).size <= 400:=fun k r=>oq (uD (h.term k r)).2.2.1
theorem FOk.rF{n:Int}{F:Frm}(h:FOk n F):F.c.size <= 400:=oq h.cst
end
section
open Go.RowKit
open Lp (RL upd eH)
theorem nQ(s:ByteArray)(w:World)(E:s.size <= 65536)(r:fF w):
  Calls prog 71 #[.string s] w fun e w'=>∃v,e= .returned (.tuple #[v, .int .i64 (fo s.data.toList:Nat)]) /\ eP w' v (qof s) /\ Below w.heap.size w w':=by
 refine(uk s w E r).mono ?_;rintro e w' ⟨C,h⟩
 rcases C with ⟨h0,rfl⟩ | ⟨q,v,h0,t,rfl,G⟩
 ·exact⟨_,rfl,by rw[zq h0];exact eP.jo _,h⟩
 ·exact⟨v,by rw[h0];rfl,by rw[jQ t];exact G,h⟩
set_option maxRecDepth 100000 in
set_option maxHeartbeats 12800000 in
theorem uG(F:Frm)(T X:Option Addr)(cT n cX:Nat)(x:Nat -> Rat)(K X0:Nat)(w:World)(hT:TT w (.slice T F.N cT) F.N F.d F.f)(hX:fD w (.slice X n cX) n x)(hd:∀k,k<F.N -> 0 <= F.d k /\ F.d k<(n:Nat))(hc:F.c.size <= K)(hf:∀k,k<F.N -> (F.f k).size <= K)(hx:∀j,j<n -> RL X0 (x j))(V:0<K /\ K <= 65536)(au:X0 <= 65536)(hN:F.N <= 1000000)(hg:fF w):
  Calls prog 59 #[.agg #[.string F.c, .slice T F.N cT], .slice X n cX] w fun e w'=>∃v,e= .returned v /\ eP w' v (fw F x F.N) /\ Below w.heap.size w w':=by
 have az:∀k,k <= F.N -> RL 1000000000000 (fw F x k):=fun k hk=>(rE (K:=K) (X:=X0) (ig hc V.1) (fun k hk=>ig (hf k hk) V.1) (fun k hk=>hx _ (by have:=hd k hk;omega)) k hk).mono (by
  have h1:k* (K+X0+1) <= 1000000*131073:=Nat.mul_le_mul oM oM
  omega)
 have aF:=lH az;have HD:=lH hd;have a5:=lH (And.intro hc hf);have ad:=lH hx;have a2:=lH (And.intro V au);have aG:=lH hN;have ab:=lH hg;clear az hd hc hf hx V au hN hg;have HT:=lH hT;have HX:=lH hX;clear hT hX;obtain⟨W,hW,C,r,t⟩:=eN2 w [.string F.c, .slice T F.N cT] 25 [.bool false, .slice none 0 0, .bool false, .slice none 0 0] 40;go_enter func59,ntmps59;go_wp2_with fail
 rw[<- hW];clear hW;have aV:=aI 0 C;have b0:=C.o.lt;go_wp2_with fail
 clear aV b0;refine(nQ F.c _ (Nat.le_trans a5.o.1 a2.o.1.2) (ab.o.below t.o)).mono ?_;rintro e w1 ⟨vz,rfl,hz,Z⟩;obtain⟨sz,Az,lz,cz,tz,Bz,mz,dz,rfl⟩:=hz.shape;have G:=lH hz;clear hz;replace C:=rW C Z;replace r:=rW r Z;replace t:=bT t Z;clear Z;obtain⟨w2,a7⟩:=eX (w1.alloc (.cells #[.bool sz, .slice Az lz cz, .bool tz, .slice Bz mz dz] 40));obtain⟨E,a6⟩:=eX (w1.heap.size);have O:Below w1.heap.size w1 w2:=by rw[a7];exact eD _ _
 have h:Hid (Row w2 E 40 [.bool sz, .slice Az lz cz, .bool tz, .slice Bz mz dz]):=lH (by rw[a7,a6];exact eO _ _);replace C:=rW C O;replace G:=lH (G.o.below O);replace t:=bT t O;have aE:Hid (w.heap.size+1<E):=lH (by rw[a6];exact r.o.lt);replace r:=rW r O;clear O
 go_upto_region 2 with (fail)
 rw[<- a7, <- a6];clear a7 a6;have aO:=aI 1 C;have b1:=C.o.lt;go_wp2_with fail
 clear aO b1;have aa:=lH (AtQ.mk (q:=fw F x 0) h.o G.o)
 go_loopw [20] (fun iv wr=>∃k:Nat,k <= F.N /\ iv= .int .i64 k /\ AtQ wr E (fw F x k) /\ Row wr w.heap.size 25 [.string F.c, .slice T F.N cT] /\ Row wr (w.heap.size+1) 40 [.bool false, .slice none 0 0, .bool false, .slice none 0 0] /\ Below w.heap.size w wr) (fun iv _=>F.N-(intOf iv).toNat)
 case atStart=>exact⟨0,Nat.zero_le _,rfl,aa.o,C.o,r.o,t.o⟩
 case round=>
  clear C r h G t aa;obtain⟨k,hk,rfl,aM,aB,aC,av⟩:=hrel;obtain⟨sz,Az,lz,cz,tz,Bz,mz,dz,ro,ax⟩:=aM;have h:=lH ro;have G:=lH ax;have C:=lH aB;have r:=lH aC;have t:=lH av;clear ro ax aB aC av;by_cases bf:((k:Nat):Int)<(F.N:Nat)
  ·have a3:k<F.N:=oM
   obtain⟨z,hz⟩:∃z:Nat,F.d k=(z:Int):=⟨(F.d k).toNat,by have:=HD.o k a3;omega⟩
   have a8:z<n:=by have:=HD.o k a3;omega
   have bg:((z:Nat):Int)<((n:Nat):Int):=oM
   have HZ:Hid ((F.d k).toNat=z):=lH oM;obtain⟨gA,oA,rfl,aw⟩:=(HT.o.below t.o).at_ oM;obtain⟨a9,aT⟩:=aw k a3;rw[hz] at a9;have aU:=eF a9;clear hz aw;have a4:=h;obtain⟨w3,Y⟩:=eX (wr.alloc (.cells #[.int .i64 (z:Nat), .string (F.f k)] 126));obtain⟨gT,R⟩:=eX (wr.heap.size);have M:Below wr.heap.size wr w3:=by rw[Y];exact eD _ _
   have RT:Hid (Row w3 gT 126 [.int .i64 (z:Nat), .string (F.f k)]):=lH (by rw[Y,R];exact eO _ _);replace C:=rW C M;replace r:=rW r M;replace h:=rW h M;replace G:=lH (G.o.below M);replace t:=bT t M;have bc:Hid (gT≠E):=lH (by rw[R];have:=a4.o.lt;omega);clear a4 M
   go_upto_region 5 with (fail)
   clear a9 aT aU;rw[<- Y, <- R];clear Y R;have aQ:=aI 1 RT;have b2:=RT.o.lt;go_wp2_with fail
   clear aQ b2;refine(nQ (F.f k) _ (Nat.le_trans (a5.o.2 k a3) a2.o.1.2) (ab.o.below t.o)).mono ?_;rintro e w4 ⟨vf,rfl,hf,Z⟩;obtain⟨sf,Af,lf,cf,tf,Bf,mf,df,rfl⟩:=hf.shape;have Vf:=lH hf;clear hf;replace C:=rW C Z;replace r:=rW r Z;replace h:=rW h Z;replace RT:=rW RT Z;replace G:=lH (G.o.below Z);replace t:=bT t Z;clear Z;have a4:=h;obtain⟨w5,Y⟩:=eX (w4.alloc (.cells #[.bool sf, .slice Af lf cf, .bool tf, .slice Bf mf df] 40));obtain⟨gK,R⟩:=eX (w4.heap.size);have M:Below w4.heap.size w4 w5:=by rw[Y];exact eD _ _
   have RK:Hid (Row w5 gK 40 [.bool sf, .slice Af lf cf, .bool tf, .slice Bf mf df]):=lH (by rw[Y,R];exact eO _ _);replace C:=rW C M;replace r:=rW r M;replace h:=rW h M;replace RT:=rW RT M;replace G:=lH (G.o.below M);replace Vf:=lH (Vf.o.below M);replace t:=bT t M;have bb:Hid (gK≠E):=lH (by rw[R];have:=a4.o.lt;omega);clear a4 M
   go_upto_region 6 with (fail)
   rw[<- Y, <- R];clear Y R;obtain⟨gx,rfl,aA⟩:=(HX.o.below t.o).at_ oM;obtain⟨sx,Ax,lx,cx,tx,Bx,mx,dx,ar,aD⟩:=aA.fK a8;have Qx:=lH ar;have Vx:=lH aD;clear aA ar aD;go_wp2_with fail
   have a1:=rG w5;have aK:=h.o.lt;obtain⟨ag,ak,an,aq⟩:=aT4 h.o;have aJ:=RK.o.lt;obtain⟨af,aj,am,ap⟩:=aT4 RK.o;have aL:=RT.o.lt;have ah:=aI 0 RT;have aH:=Qx.o.lt;obtain⟨ae,ai,al,ao⟩:=Qx.o;have KS:=lH (kC ag (kC ak (kC an (kC aq (kC af (kC aj (kC am (kC ap (kC ah (kC ae (kC ai (kC al (kN ao)))))))))))));clear aK ag ak an aq aJ af aj am ap aL ah aH ae ai al ao;refine rL KS.o (fun i=>decide (9 <= i)) ?_;have U:=KS.o _ a1.o;refine tKs 0 30 U ?_;refine tKs 1 31 U ?_;refine tKs 2 32 U ?_;refine tKs 3 33 U ?_;refine tKs 4 34 U ?_;refine tKs 5 35 U ?_;refine tKs 6 36 U ?_;refine rD 7 (fun K V=> ?_);go_simp;refine(mO _ _ (qof (F.f k)) (x z) _ (by exact Vf.o) (by exact Vx.o) ((ig (a5.o.2 k a3) a2.o.1.1).mono (by have:=a2.o.1.2;omega)) ((ad.o z a8).mono (by have:=a2.o.2;omega))).mono ?_;rintro e w1 ⟨vp,rfl,hp,a0⟩;have a0:Below w5.heap.size w5 w1:=bD a0;obtain⟨sp,Ap,lp,cp,tp,Bp,mp,dp,rfl⟩:=hp.shape;have Vp:=lH hp;clear hp;replace G:=lH (G.o.below a0);replace C:=rW C a0;replace r:=rW r a0;replace h:=rW h a0;replace t:=bT t a0;replace a1:=bT a1 a0;clear U a0;have U:=KS.o _ a1.o;refine kH V U ?_;clear V K;refine rD 8 (fun K V=> ?_);go_simp;refine(u7 _ _ (fw F x k) (qof (F.f k)*x z) _ (by exact G.o) (by exact Vp.o) (aF.o k hk) (((ig (a5.o.2 k a3) a2.o.1.1).mul (ad.o z a8)).mono (by have:=a2.o;omega))).mono ?_;rintro e w2 ⟨vr,rfl,hr,O⟩;have O:Below w1.heap.size w1 w2:=bD O;obtain⟨sr,Ar,lr,cr,tr,Br,mr,dr,rfl⟩:=hr.shape;have Vr:=lH hr;clear hr;replace C:=rW C O;replace r:=rW r O;replace h:=rW h O;replace t:=bT t O;replace a1:=bT a1 O;obtain⟨b3,b4,b5,b6⟩:=aT4 h.o;have b7:=h.o.lt;have aW:=h.o.free 0;have aX:=h.o.free 1;have aY:=h.o.free 2;have aZ:=h.o.free 3;clear U O;have U:=KS.o _ a1.o;refine kH V U ?_;clear V K;refine rD 9 (fun K V=> ?_);go_simp;refine kL V ?_;clear V K;refine dN ?_ _;clear U KS a1;clear b3 aW b4 aX b5 aY b6 aZ b7;have bd:=aE.o;clear RT RK Qx Vx Vf Vp G;have R:World.grownBy w2 ((((w2.setCell ⟨E,0,none⟩ (.bool sr)).setCell ⟨E,1,none⟩ (.slice Ar lr cr)).setCell ⟨E,2,none⟩ (.bool tr)).setCell ⟨E,3,none⟩ (.slice Br mr dr)) (some (E)):=gJ _ _ _ _ _ _ _ _ _ _;have b8:=C.o.lt;have b9:=r.o.lt;have ba:=h.o.lt;replace Vr:=lH (Vr.o.other R h.o dC);replace C:=lH (C.o.other R oM);replace r:=lH (r.o.other R oM);replace t:Hid (Below w.heap.size w ((((w2.setCell ⟨E,0,none⟩ (.bool sr)).setCell ⟨E,1,none⟩ (.slice Ar lr cr)).setCell ⟨E,2,none⟩ (.bool tr)).setCell ⟨E,3,none⟩ (.slice Br mr dr))):=lH (jq t.o oM _ _ _ _);replace h:Hid (Row ((((w2.setCell ⟨E,0,none⟩ (.bool sr)).setCell ⟨E,1,none⟩ (.slice Ar lr cr)).setCell ⟨E,2,none⟩ (.bool tr)).setCell ⟨E,3,none⟩ (.slice Br mr dr)) (E) 40 [.bool sr, .slice Ar lr cr, .bool tr, .slice Br mr dr]):=lH (h.o.iJ);obtain⟨w3,Y⟩:=eX (((((w2.setCell ⟨E,0,none⟩ (.bool sr)).setCell ⟨E,1,none⟩ (.slice Ar lr cr)).setCell ⟨E,2,none⟩ (.bool tr)).setCell ⟨E,3,none⟩ (.slice Br mr dr)));rw[<- Y] at Vr C r h t;clear R b8 b9 ba;rw[<- Y];clear Y;have be:=aG.o;go_wp2_with fail
   go_roundw
   case rel=>exact⟨k+1,a3,by simp,AtQ.mk h.o (by rw[fw,HZ.o];exact Vr.o),C.o,r.o,t.o⟩
   case measure=>exact mZ
  ·have ay:k=F.N:=oM
   rw[ay] at G;clear ay;obtain⟨bh,bi,bj,bk⟩:=aT4 h.o;have bq:=h.o.lt;obtain⟨aN,aP,aR,aS⟩:=aT4 r.o;have bp:=r.o.lt;have bl:=r.o.free 0;have bm:=r.o.free 1;have bn:=r.o.free 2;have bo:=r.o.free 3;have hr:=ic r.o gM oM t.o G.o;have ac:=lH hr;clear hr;go_wp2_with fail
   refine bodyPost_ret (v:= .agg #[.bool sz, .slice Az lz cz, .bool tz, .slice Bz mz dz]) (by simp[results,results59,go_sem,aN,aP,aR,aS]) rfl ?_;exact⟨_,rfl,ac.o.1,ac.o.2⟩
end
section
open Go.RowKit
open Lp (RL upd eu)
theorem Row.iZ{w:World}{g:Nat}{e:TypeId}{r t C E G M O R v0 v1 v2 v3 v4 v5 v6 v7:Value}(h:Row w g e [r,t,C,E,G,M,O,R]):
  Row ((((((((w.setCell ⟨g,0,none⟩ v0).setCell ⟨g,1,none⟩ v1).setCell ⟨g,2,none⟩ v2).setCell ⟨g,3,none⟩ v3).setCell ⟨g,4,none⟩ v4).setCell ⟨g,5,none⟩ v5).setCell ⟨g,6,none⟩ v6).setCell ⟨g,7,none⟩ v7) g e [v0,v1,v2,v3,v4,v5,v6,v7]:=
 (((((((h.set 0 v0).set 1 v1).set 2 v2).set 3 v3).set 4 v4).set 5 v5).set 6 v6).set 7 v7
theorem ja(w:World)(g:Nat)(v0 v1 v2 v3 v4 v5 v6 v7:Value):
  w.grownBy ((((((((w.setCell ⟨g,0,none⟩ v0).setCell ⟨g,1,none⟩ v1).setCell ⟨g,2,none⟩ v2).setCell ⟨g,3,none⟩ v3).setCell ⟨g,4,none⟩ v4).setCell ⟨g,5,none⟩ v5).setCell ⟨g,6,none⟩ v6).setCell ⟨g,7,none⟩ v7) (some g):=
 grownBy_trans (grownBy_trans (grownBy_trans (grownBy_trans (grownBy_trans (grownBy_trans (grownBy_trans (grownBy_set _ _ _ _) (grownBy_set _ _ _ _)) (grownBy_set _ _ _ _)) (grownBy_set _ _ _ _)) (grownBy_set _ _ _ _)) (grownBy_set _ _ _ _)) (grownBy_set _ _ _ _)) (grownBy_set _ _ _ _)
theorem fD.other{w w':World}{v:Value}{n g:Nat}{e:TypeId}{cs:List Value}{f:Nat -> Rat}(h:fD w v n f)(R:w.grownBy w' (some g))(t:Row w g e cs)(M:e≠169)(O:e≠40):fD w' v n f:=by
 obtain⟨A,c,U,h1,C,E⟩:=h;refine⟨A,c,U,h1,C,E.imp id fun⟨g',G,r⟩=>⟨g',G,?_⟩⟩;obtain⟨V,T⟩:=r.row;exact r.other R t M (fU T t (fun e=>O e.symm))
theorem RB.jD{w:World}{g n c:Nat}{f:Nat -> Rat}(h:RB w g n f)(r:n <= c)(t:c <= maxLen):fD w (.slice (some ⟨g,0,none⟩) n c) n f:=⟨_,_,rfl,r,t, .inr ⟨g,rfl,h⟩⟩
def GL(w:World)(L:Lay)(m n:Nat)(D1:eu)(e:Ending)(w':World):Prop:=∃N D,Lp.Reach m n D1 N D /\ eZ w' L m n D /\ Chg (L.blocks m) w w' /\ rf w' L m n D e
def uH(wr:World)(L:Lay)(m n M:Nat)(D1:eu)(g:Nat):Prop:=∃N D,g+N=M /\ Lp.Reach m n D1 N D /\ eZ wr L m n D
theorem eZ.jF{w w':World}{L:Lay}{m n g:Nat}{D:eu}{e:TypeId}{cs:List Value}(h:eZ w L m n D)(C:w.grownBy w' (some g))(G:Row w g e cs)(h0:e≠169)(h1:e≠241)(h2:e≠3)(h3:e≠40)(h4:e≠33):eZ w' L m n D:=by
 obtain⟨⟨s,A,l,c,t,B,d,x,a1,hv⟩,a2,a3,U,V,W,X,a8,Y,aa,ab,ac,ad⟩:=h
 have T:∀ {k j:Nat} {f:Nat -> Rat},RB w k j f -> k≠g:=fun O=>by
  obtain⟨_,R⟩:=O.row;exact fU R G (fun e=>h3 e.symm)
 have ni:∀ {k j:Nat} {f:Nat -> Nat},IB w k j f -> k≠g:=fun O=>by
  obtain⟨_,R⟩:=O.row;exact fU R G (fun e=>h2 e.symm)
 refine⟨⟨s,A,l,c,t,B,d,x,a1.other C (fU a1 G (fun e=>h1 e.symm)),hv.other C G h0⟩,a2,a3,fun M=>(U M).other C (ni (U M)),fun E=>(V E).other C (ni (V E)),fun M=>(W M).other C G h0 (T (W M)),fun E=>(X E).other C G h0 (T (X E)),fun M=> ?_,fun E r a0=>(Y E r a0).other C G h0 (T (Y E r a0)),aa,ab,ac,ad⟩;obtain⟨ae,Z,hh⟩:=a8 M;exact⟨ae,Z.other C (fU Z G (fun e=>h4 e.symm)),hh⟩
theorem GM{n:Nat}{o:Nat -> Nat}{f b:Nat -> Rat}(i:Nat):lW n o f b n i=b i+Lp.spread n o f (n+i):=rfl
theorem GN{n:Nat}{o:Nat -> Nat}{f:Nat -> Rat}(i:Nat):lW n o f (fun _=>0) n i=Lp.spread n o f (n+i):=by
 show(0:Rat)+Lp.spread n o f (n+i)=_;grind
end
section
open Go.RowKit
open Lp (RL upd eH)
def jH(n:Int)(N:Nat)(s:Nat -> ByteArray):Nat:=if(N:Int)≠n then 13 else fE N (fun j=>fo (s j).data.toList)
def rH(B:Nat)(w:World)(n:Int)(N:Nat)(s:Nat -> ByteArray)(e:Ending):Prop:=
 (jH n N s≠0 /\ e= .returned (.tuple #[.slice none 0 0, .int .i64 (jH n N s:Nat)])) \/
 (jH n N s=0 /\ ∃g,B <= g /\ e= .returned (.tuple #[.slice (some ⟨g,0,none⟩) N N, .int .i64 0]) /\ RB w g N (fun j=>qof (s j)))
theorem zx{B:Nat}{w:World}{n:Int}{N:Nat}{s:Nat -> ByteArray}{e:Ending}(O:(N:Int)=n)(h:nP B w N s e):rH B w n N s e:=by
 have t:jH n N s=fE N (fun j=>fo (s j).data.toList):=by unfold jH;rw[if_neg (fun h=>h O)]
 rcases h with ⟨j,r,h1,E,rfl⟩ | ⟨g,f,M,rfl,R,G⟩
 ·have C:fE N (fun j=>fo (s j).data.toList)=fo (s j).data.toList:=kv r h1 E;exact .inl ⟨by rw[t,C];exact E,by rw[t,C]⟩
 ·exact .inr ⟨by rw[t];exact jw.2 fun j r=>by rw[G j r];exact nC _,g,M,rfl,R.congr fun j r=>(jQ (G j r)).symm⟩
set_option maxRecDepth 100000 in
set_option maxHeartbeats 12800000 in
theorem GQ(n:Int)(V:Value)(N:Nat)(s:Nat -> ByteArray)(w:World)(C:TS w V N s)(hN:N <= 1000000000)(U:∀j,j<N -> (s j).size <= 400)(R:fF w):
  Calls prog 58 #[.int .i64 n,V] w fun e w'=>rH w.heap.size w' n N s e /\ Below w.heap.size w w':=by
 obtain⟨A,c,rfl,a0,a1⟩:=C.shape;have W:=lH C;have Z:=lH U;have Y:=lH hN;have X:=lH R;clear C U hN R;by_cases h:(N:Int)=n
 ·have T:((N:Int) !=n)=false:=by simpa using h
  have t:=lH h;go_enter func58,ntmps58;go_wp2_with fail
  refine(FD _ N s _ W.o Y.o Z.o X.o).mono ?_;rintro e w1 ⟨r,O⟩;have E:=lH O;have G:=lH (zx h r);clear T O h t
  rcases r with ⟨j,hj,h1,h2,rfl⟩ | ⟨g,f,hB,rfl,r,hf⟩
  ·clear hj h1 h2;go_wp2_with fail
   go_returns;exact⟨G.o,E.o⟩
  ·clear hB r hf;go_wp2_with fail
   go_returns;exact⟨G.o,E.o⟩
 ·have T:((N:Int) !=n)=true:=by simpa using h
  have t:=lH h;clear h;go_enter func58,ntmps58;go_wp2_with fail
  go_returns;have M:jH n N s=13:=by unfold jH;rw[if_pos t.o]
  exact⟨.inl ⟨by rw[M];decide,by rw[M];rfl⟩,Below.refl _ _⟩
def kz(n:Int)(F:Frm)(N:Nat)(s:Nat -> ByteArray):Nat:=if iL n F≠0 then iL n F else jH n N s
noncomputable def uI(F:Frm)(s:Nat -> ByteArray):ByteArray:=eB (fw F (fun j=>qof (s j)) F.N)
set_option maxRecDepth 100000 in
set_option maxHeartbeats 12800000 in
theorem GR(n:Int)(F:Frm)(T:Option Addr)(V:Nat)(va:Value)(N:Nat)(s:Nat -> ByteArray)(w:World)(hT:TT w (.slice T F.N V) F.N F.d F.f)(ha:TS w va N s)(hN:N <= 1000000000)(hs:∀j,j<N -> (s j).size <= 60)(ht:Tab w)(hg:fF w):
  Calls prog 18 #[.int .i64 n, .agg #[.string F.c, .slice T F.N V],va] w fun e w'=>((kz n F N s≠0 /\ e= .returned (.tuple #[.string ⟨#[]⟩, .int .i64 (kz n F N s:Nat)])) \/ (kz n F N s=0 /\ e= .returned (.tuple #[.string (uI F s), .int .i64 0]))) /\ Below w.heap.size w w':=by
 obtain⟨A,c,rfl,aa,ab⟩:=ha.shape;have HA:=lH ha;have HT:=lH hT;have a9:=lH hs;have ag:=lH hN;have a1:=lH hg;have aj:=lH ht;have ae:=lH (Nat.le_trans aa ab);clear ha hT hs hN hg ht aa ab;obtain⟨W,hW,C,r⟩:=eN1 w [.string F.c, .slice T F.N V] 25;go_enter func18,ntmps18
 go_upto_region 1 with (fail)
 rw[<- hW];clear hW;obtain⟨a4,a5⟩:=aT2 C.o;have a6:=C.o.lt;go_wp2_with fail
 clear a4 a5 a6;refine(qd n F T V _ (HT.o.below r.o) (a1.o.below r.o)).mono ?_;rintro e w1 ⟨rfl,t⟩;replace C:=rW C t;replace r:=bT r t;clear t;obtain⟨E,M⟩:=eX (iL n F);rw[<- M];have G:=lH M;clear M;by_cases h0:E=0
 ·subst h0;have a0:Hid (iL n F=0):=lH G.o.symm;clear G;go_wp2_with fail
  refine(GQ n _ N s _ (HA.o.below r.o) ag.o (fun j hj=>Nat.le_trans (a9.o j hj) dC) (a1.o.below r.o)).mono ?_;rintro e w2 ⟨U,t⟩;replace C:=rW C t;replace r:=bT r t;clear t;obtain⟨E,M⟩:=eX (jH n N s);unfold rH at U;rw[<- M] at U;have G:=lH M;clear M
  rcases U with ⟨h0,rfl⟩ | ⟨h0,g,hg,rfl,U⟩
  ·have O:=lH h0;clear h0;have a2:¬((E:Nat):Int)=0:=by have:=O.o;omega
   have al:(((E:Nat):Int) !=0)=true:=by simpa using a2
   go_wp2_with fail
   go_returns;have Y:kz n F N s=E:=by unfold kz;rw[if_neg (by rw[a0.o];simp), <- G.o]
   exact⟨.inl ⟨by rw[Y];exact O.o,by rw[Y];rfl⟩,r.o⟩
  ·subst h0;have ak:Hid (kz n F N s=0):=lH (by unfold kz;rw[if_neg (by rw[a0.o];simp)];exact G.o.symm);have ai:=lH (U.jD (Nat.le_refl _) ae.o);have af:Hid ((N:Int)=n):=lH (by have h:=G.o;unfold jH at h;by_cases e:(N:Int)=n;exact e;rw[if_pos e] at h;cases h);clear hg U;obtain⟨a4,a5⟩:=aT2 C.o;have a6:=C.o.lt;go_wp2_with fail
   clear a4 a5 a6;have a3:=qg a0.o;have ad:TOk ((N:Nat):Int) F:=by rw[af.o];exact a3.ok
   have ac:∀j,j<N -> RL 60 (qof (s j)):=fun j hj=>ig (a9.o j hj) dC
   have a7:=lH a3;have R:=lH ad;have a8:=lH ac;clear a3 ad ac;refine(uG F T (some ⟨g,0,none⟩) V N N (fun j=>qof (s j)) 400 60 _ (HT.o.below r.o) ai.o (fun k Z=>R.o.lt Z) a7.o.rF R.o.size a8.o dC dC (by have:=R.o.few;omega) (a1.o.below r.o)).mono ?_;rintro e w3 ⟨vz,rfl,hz,t⟩;obtain⟨sz,Az,lz,cz,tz,Bz,mz,dz,rfl⟩:=hz.shape;have VZ:=lH hz;clear hz;replace r:=bT r t;clear t;have ah:Hid (RL 100000 (fw F (fun j=>qof (s j)) F.N)):=lH ((rE (K:=400) (X:=60) (ig a7.o.rF dC) (fun k Z=>ig (R.o.size k Z) dC) (fun k Z=>a8.o _ (by have:=R.o.lt Z;omega)) F.N (Nat.le_refl _)).mono (by have:=R.o.few;omega));go_wp2_with fail
   refine(jE _ _ 100000 _ VZ.o ah.o dC (aj.o.below r.o)).mono ?_;rintro e w4 ⟨rfl,t⟩;replace r:=bT r t;clear t;rw[show eB (fw F (fun j=>qof (s j)) F.N)=uI F s from rfl];go_wp2_with fail
   go_returns;exact⟨.inr ⟨ak.o,rfl⟩,r.o⟩
 ·have O:=lH h0;clear h0;have a2:¬((E:Nat):Int)=0:=by have:=O.o;omega
  have al:(((E:Nat):Int) !=0)=true:=by simpa using a2
  go_wp2_with fail
  go_returns;have Y:kz n F N s=E:=by unfold kz;rw[<- G.o,if_pos O.o]
  exact⟨.inl ⟨by rw[Y];exact O.o,by rw[Y];rfl⟩,r.o⟩
end
section
open Go.RowKit
open Lp (RL upd eH sumTo jf Opt)
def kF:Frm:=⟨⟨#[48]⟩,2,fun i=>(i:Nat),fun i=>if i=0 then⟨#[49]⟩ else⟨#[45,49]⟩⟩
def kG:Frm:=⟨⟨#[45,49,52,48,48,48]⟩,2,fun i=>(i:Nat),fun _=>⟨#[49]⟩⟩
def kP(m:Nat):Prb:=⟨2,m,fun i=>if i=0 then⟨#[97]⟩ else⟨#[98]⟩,fun i=>if i=0 then 10000 else 4000,fun i=>if i=0 then -100 else -20,fun i=>if i=0 then 50 else 20,fun _=>⟨#[115,117,109]⟩,fun _=>kG⟩
theorem q_1:qof ⟨#[49]⟩=1:=jQ kR
theorem q_m:qof ⟨#[45,49]⟩= -1:=jQ kR
theorem q_0:qof ⟨#[48]⟩=0:=jQ kR
theorem q_s:qof ⟨#[45,49,52,48,48,48]⟩= -14000:=jQ kR
theorem zy(a x:Nat -> Rat):eH 2 a x=a 0*x 0+a 1*x 1:=by rw[og,og,show eH 0 a x=0 from rfl];grind
theorem zz:iw kF kF.N 0=1 /\ iw kF kF.N 1= -1:=by
 constructor
 ·show upd (upd (fun _=>0) 0 (qof ⟨#[49]⟩)) 1 (qof ⟨#[45,49]⟩) 0=1;rw[Lp.eQ _ _ dC,Lp.upd_same,q_1]
 ·show upd (upd (fun _=>0) 0 (qof ⟨#[49]⟩)) 1 (qof ⟨#[45,49]⟩) 1= -1;rw[Lp.upd_same,q_m]
theorem zA:iw kG kG.N 0=1 /\ iw kG kG.N 1=1:=by
 constructor
 ·show upd (upd (fun _=>0) 0 (qof ⟨#[49]⟩)) 1 (qof ⟨#[49]⟩) 0=1;rw[Lp.eQ _ _ dC,Lp.upd_same,q_1]
 ·show upd (upd (fun _=>0) 0 (qof ⟨#[49]⟩)) 1 (qof ⟨#[49]⟩) 1=1;rw[Lp.upd_same,q_1]
theorem GU(m:Nat)(x:Nat -> Rat):eH 2 (pA (kP m) 0) x=x 0 /\ eH 2 (pA (kP m) 1) x= -x 0 /\ eH 2 (pA (kP m) 2) x=x 1 /\ eH 2 (pA (kP m) 3) x= -x 1 /\ eH 2 (pA (kP m) 4) x=x 0+x 1:=by
 refine⟨?_,?_,?_,?_,?_⟩ <;> rw[zy]
 ·rw[show pA (kP m) 0 0=1*1 from rfl,show pA (kP m) 0 1=0*1 from rfl];grind
 ·rw[show pA (kP m) 1 0=1* -1 from rfl,show pA (kP m) 1 1=0* -1 from rfl];grind
 ·rw[show pA (kP m) 2 0=0*1 from rfl,show pA (kP m) 2 1=1*1 from rfl];grind
 ·rw[show pA (kP m) 3 0=0* -1 from rfl,show pA (kP m) 3 1=1* -1 from rfl];grind
 ·rw[show pA (kP m) 4 0=iw kG kG.N 0*1 from rfl,show pA (kP m) 4 1=iw kG kG.N 1*1 from rfl,zA.1,zA.2];grind
theorem GV(m:Nat):pB (kP m) 0=10050 /\ pB (kP m) 1= -9900 /\ pB (kP m) 2=4020 /\ pB (kP m) 3= -3980 /\ pB (kP m) 4=14000:=by
 refine⟨rfl,rfl,rfl,rfl,?_⟩;rw[show pB (kP m) 4= -qof ⟨#[45,49,52,48,48,48]⟩ from rfl,q_s];grind
theorem rJ{m:Nat}(Z:m <= 1){x:Nat -> Rat}:jf (pM (kP m)) 2 (pA (kP m)) (pB (kP m)) x↔(x 0 <= 10050 /\ 9900 <= x 0 /\ x 1 <= 4020 /\ 3980 <= x 1 /\ (m=1 -> x 0+x 1 <= 14000)):=by
 obtain⟨O,R,T,U,V⟩:=GU m x;obtain⟨b0,C,b2,E,G⟩:=GV m;have X:pM (kP m)=4+m:=rfl;rw[X];constructor
 ·intro h;have h0:=h 0 oM;have h1:=h 1 oM;have r:=h 2 oM;have M:=h 3 oM;rw[O,b0] at h0;rw[R,C] at h1;rw[T,b2] at r;rw[U,E] at M;refine⟨h0,by grind,r,by grind,fun e=> ?_⟩;have t:=h 4 oM;rw[V,G] at t;exact t
 ·rintro⟨h0,h1,r,M,t⟩ i Y;have:i=0 \/ i=1 \/ i=2 \/ i=3 \/ (i=4 /\ m=1):=oM
  rcases this with e | e | e | e | ⟨e,W⟩
  ·rw[e,O,b0];exact h0
  ·rw[e,R,C];grind
  ·rw[e,T,b2];exact r
  ·rw[e,U,E];grind
  ·rw[e,V,G];exact t W
theorem zB(g:Int)(x:Nat -> Rat):eH 2 (pC kF g) x=(x 0-x 1)*g:=by
 rw[zy];unfold pC;rw[zz.1,zz.2];grind
theorem uJ(x:Nat -> Rat):fw kF x kF.N=x 0-x 1:=by
 show qof ⟨#[48]⟩+qof ⟨#[49]⟩*x 0+qof ⟨#[45,49]⟩*x 1=x 0-x 1;rw[q_0,q_1,q_m];grind
def kx(a b:Rat)(j:Nat):Rat:=if j=0 then a else b
theorem uK{m:Nat}(C:m <= 1):jf (pM (kP m)) 2 (pA (kP m)) (pB (kP m)) (kx 9900 4020) /\ jf (pM (kP m)) 2 (pA (kP m)) (pB (kP m)) (kx (if m=0 then 10050 else 10020) 3980):=by
 rw[rJ C,rJ C];have e:m=0 \/ m=1:=oM
 have r:∀a b,kx a b 0=a:=fun _ _=>rfl
 have t:∀a b,kx a b 1=b:=fun _ _=>rfl
 rw[r,t,r,t]
 rcases e with e | e
 ·rw[if_pos e];exact⟨⟨by decide,by decide,by decide,by decide,fun _=>by grind⟩,by decide,by decide,by decide,by decide,fun h=>by omega⟩
 ·rw[if_neg oM];exact⟨⟨by decide,by decide,by decide,by decide,fun _=>by grind⟩,by decide,by decide,by decide,by decide,fun _=>by grind⟩
theorem GX{m:Nat}(t:m <= 1){q:Rat}{x y:Nat -> Rat}(h:Opt (pM (kP m)) 2 (pA (kP m)) (pB (kP m)) (pC kF (-1)) q x y):x 0=9900 /\ x 1=4020:=by
 have h1:=h.le (uK t).1;have r:=h.value;rw[zB] at h1 r;obtain⟨M,O,R,T,U⟩:=(rJ t).1 h.holds;have C:kx 9900 4020 0=9900:=rfl;have E:kx 9900 4020 1=4020:=rfl;rw[C,E] at h1;have G:(((-1:Int)):Rat)= -1:=rfl;rw[G] at h1 r;constructor <;> grind
theorem zC{m:Nat}(t:m <= 1){q:Rat}{x y:Nat -> Rat}(h:Opt (pM (kP m)) 2 (pA (kP m)) (pB (kP m)) (pC kF 1) q x y):x 0=(if m=0 then 10050 else 10020) /\ x 1=3980:=by
 have h1:=h.le (uK t).2;have r:=h.value;rw[zB] at h1 r;obtain⟨O,R,T,U,C⟩:=(rJ t).1 h.holds;have E:∀a:Rat,kx a 3980 0=a:=fun _=>rfl
 have G:∀a:Rat,kx a 3980 1=3980:=fun _=>rfl
 rw[E,G] at h1;have M:(((1:Int)):Rat)=1:=rfl;rw[M] at h1 r;have e:m=0 \/ m=1:=oM
 rcases e with e | e
 ·rw[if_pos e] at h1 ⊢;constructor <;> grind
 ·have V:=C e;rw[if_neg oM] at h1 ⊢;constructor <;> grind
theorem mR:iA (kP 0)=0 /\ iA (kP 1)=0 /\ iL 2 kF=0:=by decide+kernel
end
section
open Go.RowKit
open Lp (RL upd eH)
set_option maxRecDepth 100000 in
set_option maxHeartbeats 12800000 in
theorem ow(F:Frm)(T:Option Addr)(cT n:Nat)(G:Int)(K:Nat)(w:World)(hT:TT w (.slice T F.N cT) F.N F.d F.f)(hd:∀k,k<F.N -> 0 <= F.d k /\ F.d k<(n:Nat))(hf:∀k,k<F.N -> (F.f k).size <= K)(C:0<K /\ K <= 65536)(ad:G=1 \/ G= -1)(hn:n <= 64)(hN:F.N <= 1000000)(ht:Tab w)(R:fF w):
  Calls prog 115 #[.int .i64 (n:Nat), .agg #[.string F.c, .slice T F.N cT], .int .i64 G] w fun e w'=>∃g,e= .returned (.slice (some ⟨g,0,none⟩) n n) /\ w.heap.size <= g /\ SK w' g n (fun j=>eB (iw F F.N j* (G:Rat))) /\ Below w.heap.size w w':=by
 have ao:∀k,k <= F.N -> ∀j,RL 65536 (iw F k j):=fun k hk j=>(uE (K:=K) (fun k hk=>ig (hf k hk) C.1) C.1 k hk j).mono C.2
 have ap:RL 1 (G:Rat):=by rcases ad with rfl | rfl <;> (unfold RL;decide)
 have aH:=lH ao;have ah:=lH ap;have ag:=lH ad;have HD:=lH hd;have a9:=lH hf;have a3:=lH C;have ar:=lH hn;have au:=lH hN;have aq:=lH R;have av:=lH ht;have HT:=lH hT;clear ao ap ad hd hf C hN R ht hT;obtain⟨W,hW,r,h⟩:=eN1 w [.string F.c, .slice T F.N cT] 25;go_enter func115,ntmps115
 go_upto_region 1 with (fail)
 rw[<- hW];clear hW;obtain⟨Y,a7⟩:=eX (W.heap.size)
 go_wp2_with (at_make;refine yI _ rfl (.tmp 13) (.tmp 13) rfl _ _ n rfl rfl rfl rfl oM ?_)
 rw[<- a7];intro w1 a0 O aA;rw[a7] at O;have SB:=lH a0;have aa:Hid (w.heap.size<Y):=lH (by rw[a7];exact r.o.lt);replace r:=rW r O;replace h:=bT h O;clear O;clear a0 aA a7 hn;go_wp2_with fail
 go_loopw [16] (fun iv wr=>∃k:Nat,k <= n /\ iv= .int .i64 k /\ SK wr Y n (fun j=>if j<k then⟨#[48]⟩ else⟨#[]⟩) /\ Row wr w.heap.size 25 [.string F.c, .slice T F.N cT] /\ Below w.heap.size w wr) (fun iv _=>n-(intOf iv).toNat)
 case atStart=>exact⟨0,Nat.zero_le _,rfl,SB.o.congr (fun j _=>by rw[if_neg oM]),r.o,h.o⟩
 case round=>
  clear r SB h;obtain⟨k,hk,rfl,a0,a6,a4⟩:=hrel;have SB:=lH a0;have r:=lH a6;have h:=lH a4;clear a0 a6 a4;by_cases az:((k:Nat):Int)<(n:Nat)
  ·have U:k<n:=oM
   have kg:=SB.o.at_ U;have fg:=SB.o.free k;have kl:=SB.o.lt;have ac:=aa.o;have R:World.grownBy wr (wr.setCell ⟨Y,k,none⟩ (.string ⟨#[48]⟩)) (some Y):=grownBy_set _ _ _ _;have BN:=SB.o.set (x:=⟨#[48]⟩) U;have a8:=h.o.grown R h.o.size (by first | (simp;done) | (simp;omega));have ab:=r.o.other R oM;clear R ac;have ay:=ar.o;go_wp2_with fail
   clear kg fg kl;go_roundw
   case rel=>
    refine⟨k+1,by omega,by simp,BN.congr (fun j hj=> ?_),ab,a8⟩;by_cases e:j=k
    ·rw[e,Lp.upd_same,if_pos oM]
    ·rw[Lp.eQ _ _ e];by_cases e2:j<k;rw[if_pos e2,if_pos oM];rw[if_neg e2,if_neg oM]
   case measure=>exact mZ
  ·have a5:k=n:=oM
   rw[a5] at SB;clear a5;replace SB:=lH (SB.o.congr (s':=fun j=>eB (iw F 0 j* (G:Rat))) (fun j hj=>by rw[if_pos hj];show _=eB (0* (G:Rat));rw[Rat.zero_mul];kernel_rfl));have aB:=aI 1 r;have aF:=r.o.lt;go_wp2_with fail
   clear aB aF;obtain⟨wo,rfl⟩:=eX (wr)
   go_loopw [26] (fun iv wr=>∃k:Nat,k <= F.N /\ iv= .int .i64 k /\ SK wr Y n (fun j=>eB (iw F k j* (G:Rat))) /\ Row wr w.heap.size 25 [.string F.c, .slice T F.N cT] /\ Below w.heap.size w wr) (fun iv _=>F.N-(intOf iv).toNat)
   case atStart=>exact⟨0,Nat.zero_le _,rfl,SB.o,r.o,h.o⟩
   case round=>
    clear r SB h;obtain⟨k,hk,rfl,a0,a6,a4⟩:=hrel;have SB:=lH a0;have r:=lH a6;have h:=lH a4;clear a0 a6 a4;by_cases az:((k:Nat):Int)<(F.N:Nat)
    ·have U:k<F.N:=oM
     obtain⟨z,hz⟩:∃z:Nat,F.d k=(z:Int):=⟨(F.d k).toNat,by have:=HD.o k U;omega⟩
     have ae:z<n:=by have:=HD.o k U;omega
     have aJ:((z:Nat):Int)<((n:Nat):Int):=oM
     have HZ:Hid ((F.d k).toNat=z):=lH oM;obtain⟨gA,oA,rfl,an⟩:=(HT.o.below h.o).at_ oM;obtain⟨af,aD⟩:=an k U;rw[hz] at af;have aE:=eF af;clear hz an;obtain⟨w3,V⟩:=eX (wr.alloc (.cells #[.int .i64 (z:Nat), .string (F.f k)] 126));obtain⟨gT,a2⟩:=eX (wr.heap.size);have t:Below wr.heap.size wr w3:=by rw[V];exact eD _ _
     have X:Hid (Row w3 gT 126 [.int .i64 (z:Nat), .string (F.f k)]):=lH (by rw[V,a2];exact eO _ _);replace r:=rW r t;replace SB:=lH (SB.o.below t);replace h:=bT h t;clear t
     go_upto_region 10 with (fail)
     clear af aD aE;rw[<- V, <- a2];clear V a2;have aC:=aI 1 X;have aG:=X.o.lt;go_wp2_with fail
     clear aC aG;refine(nQ (F.f k) _ (Nat.le_trans (a9.o k U) a3.o.2) (aq.o.below h.o)).mono ?_;rintro e w4 ⟨vf,rfl,hf,O⟩;obtain⟨sf,Af,lf,cf,tf,Bf,mf,df,rfl⟩:=hf.shape;have Vf:=lH hf;clear hf;replace r:=rW r O;replace X:=rW X O;replace SB:=lH (SB.o.below O);replace h:=bT h O;clear O;obtain⟨w5,V⟩:=eX (w4.alloc (.cells #[.bool sf, .slice Af lf cf, .bool tf, .slice Bf mf df] 40));obtain⟨gK,a2⟩:=eX (w4.heap.size);have t:Below w4.heap.size w4 w5:=by rw[V];exact eD _ _
     have RK:Hid (Row w5 gK 40 [.bool sf, .slice Af lf cf, .bool tf, .slice Bf mf df]):=lH (by rw[V,a2];exact eO _ _);replace r:=rW r t;replace X:=rW X t;replace SB:=lH (SB.o.below t);replace Vf:=lH (Vf.o.below t);replace h:=bT h t;clear t
     go_upto_region 11 with (fail)
     rw[<- V, <- a2];clear V a2;go_wp2_with fail
     have M:=rG w5;have ax:=X.o.lt;have aj:=aI 0 X;have aw:=RK.o.lt;obtain⟨ai,ak,al,am⟩:=aT4 RK.o;have KS:=lH (kC aj (kC ai (kC ak (kC al (kN am)))));clear ax aj aw ai ak al am;refine rL KS.o (fun i=>decide (9 <= i)) ?_;have E:=KS.o _ M.o;refine tKs 0 36 E ?_;refine tKs 1 37 E ?_;refine tKs 2 38 E ?_;refine tKs 3 39 E ?_;refine tKs 4 40 E ?_;refine rD 5 (fun K C=> ?_);go_simp;refine(nL G (by have:=ag.o;omega) (by have:=ag.o;omega) _).mono ?_;rintro e w1 ⟨vs,rfl,hs,Z⟩;have Z:Below w5.heap.size w5 w1:=bD Z;obtain⟨ss,As,ls,cs,ts,Bs,ms,ds,rfl⟩:=hs.shape;have Vs:=lH hs;clear hs;replace Vf:=lH (Vf.o.below Z);replace r:=rW r Z;replace SB:=lH (SB.o.below Z);replace h:=bT h Z;replace M:=bT M Z;clear E Z;have E:=KS.o _ M.o;refine kH C E ?_;clear C K;refine rD 6 (fun K C=> ?_);go_simp;refine(mO _ _ (qof (F.f k)) (G:Rat) _ (by exact Vf.o) (by exact Vs.o) ((ig (a9.o k U) a3.o.1).mono (by have:=a3.o.2;omega)) (ah.o.mono dC)).mono ?_;rintro e w2 ⟨vp,rfl,hp,a1⟩;have a1:Below w1.heap.size w1 w2:=bD a1;obtain⟨sp,Ap,lp,cp,tp,Bp,mp,dp,rfl⟩:=hp.shape;have Vp:=lH hp;clear hp;replace r:=rW r a1;replace SB:=lH (SB.o.below a1);replace h:=bT h a1;replace M:=bT M a1;clear E a1;have E:=KS.o _ M.o;refine kH C E ?_;clear C K;refine rD 7 (fun K C=> ?_);go_simp;refine(jE _ (qof (F.f k)* (G:Rat)) 65537 _ Vp.o ((((ig (a9.o k U) a3.o.1).mono a3.o.2).mul ah.o).mono dC) dC (av.o.below h.o)).mono ?_;rintro e w3 ⟨rfl,t⟩;have t:Below w2.heap.size w2 w3:=bD t;replace r:=rW r t;replace SB:=lH (SB.o.below t);replace h:=bT h t;replace M:=bT M t;clear E t;have E:=KS.o _ M.o;refine kH C E ?_;clear C K;have kg:=SB.o.at_ ae;have fg:=SB.o.free z;have kl:=SB.o.lt;refine tKs 8 44 E ?_;refine rD 9 (fun K C=> ?_);go_simp;refine kL C ?_;clear C K;refine dN ?_ _;clear E KS M;clear kg fg kl;have kg:=SB.o.at_ ae;have fg:=SB.o.free z;have kl:=SB.o.lt;have ac:=aa.o;have R:World.grownBy w3 (w3.setCell ⟨Y,z,none⟩ (.string (eB (qof (F.f k)* (G:Rat))))) (some Y):=grownBy_set _ _ _ _;have BN:=SB.o.set (x:=(eB (qof (F.f k)* (G:Rat)))) ae;have a8:=h.o.grown R h.o.size (by first | (simp;done) | (simp;omega));have ab:=r.o.other R oM;clear R ac;have ay:=au.o;clear kg fg kl;go_wp2_with fail
     go_roundw
     case rel=>
      refine⟨k+1,U,by simp,BN.congr (fun j hj=> ?_),ab,a8⟩;rw[iw,HZ.o];by_cases e:j=z
      ·rw[e,Lp.upd_same,Lp.upd_same]
      ·rw[Lp.eQ _ _ e,Lp.eQ _ _ e]
     case measure=>exact mZ
    ·have a5:k=F.N:=oM
     rw[a5] at SB;clear a5;go_wp2_with fail
     go_returns;exact⟨Y,rfl,Nat.le_of_lt aa.o,SB.o,h.o⟩
end
end Go.Proofs.YtokagbahdkfagaaGreatDoor
