/- Parts of this proof: Eq3 Sizes WithL. -/
import Derived.Test.YtdefghfjhgmpfaaGreatDoorMAZ
import Derived.ChangeKeysEq
import Derived.Test.YtdefghfjhgmpfaaGreatDoorMAV
import Derived.Test.YtdefghfjhgmpfaaGreatDoorMAO
import Derived.Test.YtdefghfjhgmpfaaGreatDoorMBB
import Derived.Test.YtdefghfjhgmpfaaGreatDoorMBC
namespace Go.Proofs.YtdefghfjhgmpfaaGreatDoor
open Go.Proofs.Tryz
section
open Go.RowKit
theorem nC(w:World)(a b c t b' c':Int):(Op.equalIn 10000 171 (.agg #[.int .i64 a, .int .i64 b, .int .i64 c]) (.agg #[.int .i64 t, .int .i64 b', .int .i64 c'])).run prog w= .ok (a==t && (b==b' && c==c')) w:=by
 obtain⟨i,G,T,U,X⟩:=info_parts zn;rw[run_equalIn_array w 9999 _ _ underlying171 G,show prog.cellsOf 3=1 by kernel_rfl,show List.range 3= [0,1,2] from rfl];have F:prog.plainKey 3=true:=by kernel_rfl
 have p:∀ (x y z v:Value) (j:Nat) (w:World), #[x,y,z][j]? =some v -> (Go.part 3 #[x,y,z] (j*1)).run prog w= .ok v w:=fun x y z v j w h=>run_part_plain w F (by rw[Nat.mul_one];exact h)
 have M:=fun(x y z:Value) (w:World)=>p x y z x 0 w rfl
 have O:=fun(x y z:Value) (w:World)=>p x y z y 1 w rfl
 have R:=fun(x y z:Value) (w:World)=>p x y z z 2 w rfl
 obtain⟨d,E⟩:=eX (9999);have q:∀ (a b:Int) (w:World),(Op.equalIn d 3 (.int .i64 a) (.int .i64 b)).run prog w= .ok (a==b) w:=fun a b w=>by rw[E];exact run_equalIn_int w 9998 _ _ _ a b underlying3
 rw[<- E];simp only[Op.eqItems,Sem.run_bind,M,Result.andThen_ok,q];cases a==t
 ·simp
 ·simp only[Bool.not_true,Bool.false_eq_true,if_false,Sem.run_bind,O,Result.andThen_ok,q,Bool.true_and];cases b==b'
  ·simp
  ·simp only[Bool.not_true,Bool.false_eq_true,if_false,Sem.run_bind,R,Result.andThen_ok,q,Bool.true_and];cases c==c' <;> simp
end
section
open Go.RowKit
open Lp (RL upd eu)
set_option maxRecDepth 100000 in
set_option maxHeartbeats 3200000 in
theorem Ji(s:ByteArray)(O R M:Option Addr)(t E h U X T n m:Nat)(w:World):
  Calls prog 89 #[.agg #[.int .i64 1, .string s, .slice O t U, .slice R E X, .slice M h T], .int .i64 n, .int .i64 m] w fun e w'=>((((t=n /\ E=m /\ h=0)) /\ e= .returned (.int .i64 0)) \/ (¬((t=n /\ E=m /\ h=0)) /\ e= .returned (.int .i64 13))) /\ Below w.heap.size w w':=by
 by_cases hS:t=n /\ E=m /\ h=0
 ·obtain⟨h1,h2,h3⟩:=hS;subst t;subst E;subst h;have q3:∀w:World,(Op.equalIn 10000 171 (.agg #[.int .i64 (n:Nat), .int .i64 (m:Nat), .int .i64 0]) (.agg #[.int .i64 (n:Nat), .int .i64 (m:Nat), .int .i64 0])).run prog w= .ok true w:=fun w=>by rw[nC];simp
  obtain⟨W,hW,F,G,HB⟩:=eN2 w [.int .i64 1, .string s, .slice O n U, .slice R m X, .slice M 0 T] 32 [.int .i64 n, .int .i64 m, .int .i64 0] 171;go_enter func89,ntmps89;obtain⟨o0,o1,o2,o3,o4⟩:=aT5 F.o;obtain⟨q0,Y,q1,Z,q2,f2⟩:=aF3 G.o;have ol:=F.o.lt;have ql:=G.o.lt;rw[hW] at o0 o1 o2 o3 o4 q0 q1 q2 Y Z f2 ol ql;go_wp2_with fail
  go_returns;exact⟨.inl ⟨⟨(by first | rfl | trivial),(by first | rfl | trivial),(by first | rfl | trivial)⟩,rfl⟩,(eD _ _).trans ((eD _ _).mono (eD _ _).size)⟩
 ·have q3:∀w:World,(Op.equalIn 10000 171 (.agg #[.int .i64 (t:Nat), .int .i64 (E:Nat), .int .i64 (h:Nat)]) (.agg #[.int .i64 (n:Nat), .int .i64 (m:Nat), .int .i64 0])).run prog w= .ok false w:=fun w=>by rw[nC];refine congrArg (fun z=>Result.ok z w) ?_;simp;omega
  obtain⟨W,hW,F,G,HB⟩:=eN2 w [.int .i64 1, .string s, .slice O t U, .slice R E X, .slice M h T] 32 [.int .i64 n, .int .i64 m, .int .i64 0] 171;go_enter func89,ntmps89;obtain⟨o0,o1,o2,o3,o4⟩:=aT5 F.o;obtain⟨q0,Y,q1,Z,q2,f2⟩:=aF3 G.o;have ol:=F.o.lt;have ql:=G.o.lt;rw[hW] at o0 o1 o2 o3 o4 q0 q1 q2 Y Z f2 ol ql;go_wp2_with fail
  go_returns;exact⟨.inr ⟨hS,rfl⟩,(eD _ _).trans ((eD _ _).mono (eD _ _).size)⟩
set_option maxRecDepth 100000 in
set_option maxHeartbeats 3200000 in
theorem Jj(s:ByteArray)(AP AY AD:Option Addr)(G M F cP cY cD n m:Nat)(w:World):
  Calls prog 89 #[.agg #[.int .i64 2, .string s, .slice AP G cP, .slice AY M cY, .slice AD F cD], .int .i64 n, .int .i64 m] w fun e w'=>((((G=0 /\ M=m /\ F=0) /\ s=⟨#[]⟩) /\ e= .returned (.int .i64 0)) \/ (¬((G=0 /\ M=m /\ F=0) /\ s=⟨#[]⟩) /\ e= .returned (.int .i64 13))) /\ Below w.heap.size w w':=by
 by_cases hS:G=0 /\ M=m /\ F=0
 ·obtain⟨h1,h2,h3⟩:=hS;subst G;subst M;subst F;by_cases hs:s=⟨#[]⟩
  ·subst hs;have q3:∀w:World,(Op.equalIn 10000 171 (.agg #[.int .i64 0, .int .i64 (m:Nat), .int .i64 0]) (.agg #[.int .i64 0, .int .i64 (m:Nat), .int .i64 0])).run prog w= .ok true w:=fun w=>by rw[nC];simp
   obtain⟨W,U,t,E,HB⟩:=eN2 w [.int .i64 2, .string ⟨#[]⟩, .slice AP 0 cP, .slice AY m cY, .slice AD 0 cD] 32 [.int .i64 n, .int .i64 m, .int .i64 0] 171;go_enter func89,ntmps89;obtain⟨X,Y,Z,o3,o4⟩:=aT5 t.o;obtain⟨q0,O,q1,R,q2,T⟩:=aF3 E.o;have ol:=t.o.lt;have ql:=E.o.lt;rw[U] at X Y Z o3 o4 q0 q1 q2 O R T ol ql;go_wp2_with fail
   go_returns;exact⟨.inl ⟨⟨⟨(by first | rfl | trivial),(by first | rfl | trivial),(by first | rfl | trivial)⟩,(by first | rfl | trivial)⟩,rfl⟩,(eD _ _).trans ((eD _ _).mono (eD _ _).size)⟩
  ·have a0:s.toList≠ []:=fun h=>hs (lY (by rw[<- ByteArray.toList_eq];exact h))
   have a1:(s.toList== [])=false:=by simpa using a0
   have a2:¬s.toList.isEmpty=true:=by simpa using a0
   have q3:∀w:World,(Op.equalIn 10000 171 (.agg #[.int .i64 0, .int .i64 (m:Nat), .int .i64 0]) (.agg #[.int .i64 0, .int .i64 (m:Nat), .int .i64 0])).run prog w= .ok true w:=fun w=>by rw[nC];simp
   obtain⟨W,U,t,E,HB⟩:=eN2 w [.int .i64 2, .string s, .slice AP 0 cP, .slice AY m cY, .slice AD 0 cD] 32 [.int .i64 n, .int .i64 m, .int .i64 0] 171;go_enter func89,ntmps89;obtain⟨X,Y,Z,o3,o4⟩:=aT5 t.o;obtain⟨q0,O,q1,R,q2,T⟩:=aF3 E.o;have ol:=t.o.lt;have ql:=E.o.lt;rw[U] at X Y Z o3 o4 q0 q1 q2 O R T ol ql;go_wp2_with fail
   go_returns;exact⟨.inr ⟨fun h=>hs h.2,rfl⟩,(eD _ _).trans ((eD _ _).mono (eD _ _).size)⟩
 ·have q3:∀w:World,(Op.equalIn 10000 171 (.agg #[.int .i64 (G:Nat), .int .i64 (M:Nat), .int .i64 (F:Nat)]) (.agg #[.int .i64 0, .int .i64 (m:Nat), .int .i64 0])).run prog w= .ok false w:=fun w=>by rw[nC];refine congrArg (fun z=>Result.ok z w) ?_;simp;omega
  obtain⟨W,U,t,E,HB⟩:=eN2 w [.int .i64 2, .string s, .slice AP G cP, .slice AY M cY, .slice AD F cD] 32 [.int .i64 n, .int .i64 m, .int .i64 0] 171;go_enter func89,ntmps89;obtain⟨X,Y,Z,o3,o4⟩:=aT5 t.o;obtain⟨q0,O,q1,R,q2,T⟩:=aF3 E.o;have ol:=t.o.lt;have ql:=E.o.lt;rw[U] at X Y Z o3 o4 q0 q1 q2 O R T ol ql;go_wp2_with fail
  go_returns;exact⟨.inr ⟨fun h=>hS h.1,rfl⟩,(eD _ _).trans ((eD _ _).mono (eD _ _).size)⟩
set_option maxRecDepth 100000 in
set_option maxHeartbeats 3200000 in
theorem Jk(s:ByteArray)(AP AY AD:Option Addr)(G M F cP cY cD n m:Nat)(w:World):
  Calls prog 89 #[.agg #[.int .i64 3, .string s, .slice AP G cP, .slice AY M cY, .slice AD F cD], .int .i64 n, .int .i64 m] w fun e w'=>((((G=n /\ M=0 /\ F=n) /\ s=⟨#[]⟩) /\ e= .returned (.int .i64 0)) \/ (¬((G=n /\ M=0 /\ F=n) /\ s=⟨#[]⟩) /\ e= .returned (.int .i64 13))) /\ Below w.heap.size w w':=by
 by_cases hS:G=n /\ M=0 /\ F=n
 ·obtain⟨h1,h2,h3⟩:=hS;subst G;subst M;subst F;by_cases hs:s=⟨#[]⟩
  ·subst hs;have q3:∀w:World,(Op.equalIn 10000 171 (.agg #[.int .i64 (n:Nat), .int .i64 0, .int .i64 (n:Nat)]) (.agg #[.int .i64 (n:Nat), .int .i64 0, .int .i64 (n:Nat)])).run prog w= .ok true w:=fun w=>by rw[nC];simp
   obtain⟨W,U,t,E,HB⟩:=eN2 w [.int .i64 3, .string ⟨#[]⟩, .slice AP n cP, .slice AY 0 cY, .slice AD n cD] 32 [.int .i64 n, .int .i64 m, .int .i64 0] 171;go_enter func89,ntmps89;obtain⟨X,Y,Z,o3,o4⟩:=aT5 t.o;obtain⟨q0,O,q1,R,q2,T⟩:=aF3 E.o;have ol:=t.o.lt;have ql:=E.o.lt;rw[U] at X Y Z o3 o4 q0 q1 q2 O R T ol ql;go_wp2_with fail
   go_returns;exact⟨.inl ⟨⟨⟨(by first | rfl | trivial),(by first | rfl | trivial),(by first | rfl | trivial)⟩,(by first | rfl | trivial)⟩,rfl⟩,(eD _ _).trans ((eD _ _).mono (eD _ _).size)⟩
  ·have a0:s.toList≠ []:=fun h=>hs (lY (by rw[<- ByteArray.toList_eq];exact h))
   have a1:(s.toList== [])=false:=by simpa using a0
   have a2:¬s.toList.isEmpty=true:=by simpa using a0
   have q3:∀w:World,(Op.equalIn 10000 171 (.agg #[.int .i64 (n:Nat), .int .i64 0, .int .i64 (n:Nat)]) (.agg #[.int .i64 (n:Nat), .int .i64 0, .int .i64 (n:Nat)])).run prog w= .ok true w:=fun w=>by rw[nC];simp
   obtain⟨W,U,t,E,HB⟩:=eN2 w [.int .i64 3, .string s, .slice AP n cP, .slice AY 0 cY, .slice AD n cD] 32 [.int .i64 n, .int .i64 m, .int .i64 0] 171;go_enter func89,ntmps89;obtain⟨X,Y,Z,o3,o4⟩:=aT5 t.o;obtain⟨q0,O,q1,R,q2,T⟩:=aF3 E.o;have ol:=t.o.lt;have ql:=E.o.lt;rw[U] at X Y Z o3 o4 q0 q1 q2 O R T ol ql;go_wp2_with fail
   go_returns;exact⟨.inr ⟨fun h=>hs h.2,rfl⟩,(eD _ _).trans ((eD _ _).mono (eD _ _).size)⟩
 ·have q3:∀w:World,(Op.equalIn 10000 171 (.agg #[.int .i64 (G:Nat), .int .i64 (M:Nat), .int .i64 (F:Nat)]) (.agg #[.int .i64 (n:Nat), .int .i64 0, .int .i64 (n:Nat)])).run prog w= .ok false w:=fun w=>by rw[nC];refine congrArg (fun z=>Result.ok z w) ?_;simp;omega
  obtain⟨W,U,t,E,HB⟩:=eN2 w [.int .i64 3, .string s, .slice AP G cP, .slice AY M cY, .slice AD F cD] 32 [.int .i64 n, .int .i64 m, .int .i64 0] 171;go_enter func89,ntmps89;obtain⟨X,Y,Z,o3,o4⟩:=aT5 t.o;obtain⟨q0,O,q1,R,q2,T⟩:=aF3 E.o;have ol:=t.o.lt;have ql:=E.o.lt;rw[U] at X Y Z o3 o4 q0 q1 q2 O R T ol ql;go_wp2_with fail
  go_returns;exact⟨.inr ⟨fun h=>hS h.1,rfl⟩,(eD _ _).trans ((eD _ _).mono (eD _ _).size)⟩
end
section
open Go.RowKit
open Lp (RL upd eu)
def Cu(w':World)(v:Int)(m:Nat)(k:Nat -> Nat)(t:Nat -> Nat -> ByteArray)(b:Nat -> ByteArray)(e:Ending):Prop:=
 ((v<0 \/ 96<v) /\ e= .returned (.tuple #[.agg #[.slice none 0 0, .slice none 0 0, .slice none 0 0], .int .i64 2])) \/ (0 <= v /\ v <= 96 /\ o9 w' v.toNat m k (fun _=>⟨#[48]⟩) t b e)
theorem iD.other{w w':World}{v:Value}{m n:Nat}{A:Nat -> Nat -> Rat}{g:Nat}{e:TypeId}{cs:List Value}(h:iD w v m n A)(t:RowsIn w v m)(G:w.grownBy w' (some g))(R:Row w g e cs)(he:e≠160)(hq:e≠105)(hs:e≠95):iD w' v m n A /\ RowsIn w' v m:=by
 obtain⟨A',c,rfl,h1,M,F⟩:=h
 rcases t with t | ⟨x,c2,a0,E,T⟩
 ·subst t;exact⟨⟨A',c,rfl,h1,M, .inl rfl⟩, .inl rfl⟩
 ·have O:x≠g:=fV T R (fun e=>hs e.symm);refine⟨⟨A',c,rfl,h1,M,?_⟩, .inr ⟨x,c2,a0,E,T.other G O⟩⟩
  rcases F with F | ⟨y,U,hc⟩
  ·exact .inl F
  ·obtain rfl:y=x:=by
    rw[U] at E;simp only[Value.slice.injEq,Option.some.injEq,Addr.mk.injEq,and_true] at E;exact E.1
   refine .inr ⟨y,U,fun i t=> ?_⟩;obtain⟨X,z,Y,Z,a3⟩:=hc i t;exact⟨X,z,fP G O Y,Z,a3.other G R he hq⟩
theorem o9.other{w w':World}{n m:Nat}{k:Nat -> Nat}{o:Nat -> ByteArray}{t:Nat -> Nat -> ByteArray}{b:Nat -> ByteArray}{e:Ending}{g:Nat}{cs:List Value}(h:o9 w n m k o t b e)(E:w.grownBy w' (some g))(F:Row w g 98 cs):o9 w' n m k o t b e:=by
 rcases h with h | ⟨h0,M,R,O,T,X,U,A,bq,c,he,hc,Y,Z,hP,hI⟩
 ·exact .inl h
 ·have G:=Y.other hI E F dC dC dC;exact .inr ⟨h0,M,R,O,T,X,U,A,bq,c,he,hc.other E F dC dC,G.1,Z.other E F dC dC,hP,G.2⟩
theorem o9.form{w:World}{n m:Nat}{k:Nat -> Nat}{o:Nat -> ByteArray}{t:Nat -> Nat -> ByteArray}{b:Nat -> ByteArray}{e:Ending}(h:o9 w n m k o t b e):∃E X M G T R F U O z,e= .returned (.tuple #[.agg #[.slice E X M, .slice G T R, .slice F U O], .int .i64 z]):=by
 rcases h with ⟨_,h⟩ | ⟨_,E,G,F,M,R,O,_,_,_,h,_⟩
 ·exact⟨_,_,_,_,_,_,_,_,_,_,h⟩
 ·exact⟨_,_,_,_,_,_,_,_,_,_,h⟩
def RowsFit(m:Nat)(k:Nat -> Nat)(t:Nat -> Nat -> ByteArray)(b:Nat -> ByteArray):Prop:=m <= 1000000000 /\ (∀i,i<m -> ∀j,j<k i -> (t i j).size <= 65536) /\ ∀i,i<m -> (b i).size <= 65536
set_option maxRecDepth 100000 in
set_option maxHeartbeats 6400000 in
theorem Jl(v:Int)(AR:Option Addr)(m cR:Nat)(k:Nat -> Nat)(t:Nat -> Nat -> ByteArray)(b:Nat -> ByteArray)(w:World)(hr:fZ w (.slice AR m cR) m k t b)(hf:RowsFit m k t b)(M:iG w):
  Calls prog 63 #[.int .i64 v, .slice AR m cR] w fun e w'=>Cu w' v m k t b e /\ Below w.heap.size w w':=by
 have HR:=lH hr;have HF:=lH hf;have ah:=lH M;clear hr hf M;obtain⟨W,F,h,E⟩:=eN1 w [.slice none 0 0, .slice none 0 0, .slice none 0 0] 98;go_enter func63,ntmps63;by_cases h0:v<0
 ·have HV:Hid (v<0 \/ 96<v):=lH (.inl h0);have ab:decide (v<0)=true:=decide_eq_true h0;obtain⟨r0,O,U,R,X,T⟩:=aF3 h.o;have G:=h.o.lt;rw[F] at r0 U X O R T G;go_wp2_with fail
  rw[<- F];clear F G r0 O U R X T;obtain⟨k0,k1,k2⟩:=aT3 h.o;refine bodyPost_ret (v:= .tuple #[.agg #[.slice none 0 0, .slice none 0 0, .slice none 0 0], .int .i64 2]) (by simp[results,results63,go_sem,k0,k1,k2]) rfl ?_;exact⟨.inl ⟨HV.o,rfl⟩,E.o⟩
 ·by_cases a0:96<v
  ·have HV:Hid (v<0 \/ 96<v):=lH (.inr a0);have ab:decide (v<0)=false:=decide_eq_false h0;have ak:decide (96<v)=true:=decide_eq_true a0;obtain⟨r0,O,U,R,X,T⟩:=aF3 h.o;have G:=h.o.lt;rw[F] at r0 U X O R T G;go_wp2_with fail
   rw[<- F];clear F G r0 O U R X T;obtain⟨k0,k1,k2⟩:=aT3 h.o;refine bodyPost_ret (v:= .tuple #[.agg #[.slice none 0 0, .slice none 0 0, .slice none 0 0], .int .i64 2]) (by simp[results,results63,go_sem,k0,k1,k2]) rfl ?_;exact⟨.inl ⟨HV.o,rfl⟩,E.o⟩
  ·obtain⟨n,rfl⟩:∃n:Nat,v=n:=⟨v.toNat,by omega⟩
   have ab:decide (((n:Nat):Int)<0)=false:=decide_eq_false h0;have ak:decide ((96:Int)<((n:Nat):Int))=false:=decide_eq_false a0;have an:decide (96<n)=false:=decide_eq_false oM;have hn:n <= 96:=oM
   have am:=lH hn;clear h0 a0;have G:=h.o.lt;rw[F] at G
   go_wp2_with (at_make;refine AJ _ rfl (.tmp 15) (.tmp 15) rfl _ _ n rfl rfl rfl rfl oM ?_)
   rw[<- F];have af:W.heap.size=w.heap.size+1:=by rw[F];simp
   clear F G;intro w1 a2 a1 ae;rw[<- af] at a2 a1 ae ⊢;clear af;obtain⟨gN,a4⟩:=eX (W.heap.size);rw[<- a4] at a2 ⊢;have ai:Hid (w.heap.size<gN):=lH (by rw[a4];exact h.o.lt);have a5:=lH a2;have a6:=lH (E.o.trans (a1.mono E.o.size));have a8:=lH (h.o.below a1 h.o.lt);clear a2 a1 ae a4 E h;go_wp2_with fail
   go_loopw [19] (fun iv wr=>∃q:Nat,q <= n /\ iv= .int .i64 q /\ SK wr gN n (fun j=>if j<q then⟨#[48]⟩ else⟨#[]⟩) /\ Row wr w.heap.size 98 [.slice none 0 0, .slice none 0 0, .slice none 0 0] /\ Below w.heap.size w wr)
    (fun iv _=>n-(intOf iv).toNat)
   case atStart=>exact⟨0,Nat.zero_le _,rfl,a5.o.congr (fun j _=>by rw[if_neg oM]),a8.o,a6.o⟩
   case round=>
    clear a5 a6 a8;obtain⟨q,hq,rfl,a9,ad,aa⟩:=hrel;have BG:=lH a9;have h:=lH ad;have E:=lH aa;clear a9 ad aa;by_cases ap:((q:Nat):Int)<(n:Nat)
    ·have ac:q<n:=oM
     have ao:=ai.o;have kg:=BG.o.at_ ac;have fg:=BG.o.free q;have kl:=BG.o.lt;have M:World.grownBy wr (wr.setCell ⟨gN,q,none⟩ (.string ⟨#[48]⟩)) (some gN):=grownBy_set _ _ _ _;have BN:=BG.o.set (x:=⟨#[48]⟩) ac;have RN:=h.o.other M oM;have ag:=E.o.grown M E.o.size (by first | (simp;done) | (simp;omega));go_wp2_with fail
     clear kg fg kl;go_roundw
     case rel=>
      refine⟨q+1,by omega,by simp,BN.congr (fun j hj=> ?_),RN,ag⟩;by_cases e:j=q
      ·subst e;rw[Lp.upd_same,if_pos oM]
      ·rw[Lp.eT _ _ e];by_cases e2:j<q
       ·rw[if_pos e2,if_pos oM]
       ·rw[if_neg e2,if_neg oM]
     case measure=>exact mZ
    ·obtain rfl:n=q:=oM
     have aj:Hid (TS wr (.slice (some ⟨gN,0,none⟩) n n) n (fun _=>⟨#[48]⟩)):=lH ((BG.o.congr (fun j hj=>if_pos hj)).ts (Nat.le_refl _) (by unfold maxLen;omega));clear BG;go_wp2_with fail
     refine(wm (some ⟨gN,0,none⟩) AR n m n cR k (fun _=>⟨#[48]⟩) t b _ aj.o (HR.o.below E.o) oM HF.o.1 (fun j _=>by show(1:Nat) <= 65536;omega) HF.o.2.1 HF.o.2.2 (ah.o.below E.o)).mono ?_;rintro e w3 ⟨hr,a3⟩;obtain⟨Y,n1,cC,AS,m1,cS,Z,m2,cD,z,rfl⟩:=hr.form;have HP:=lH hr;replace h:=rW h a3;replace E:=bT E a3;clear a3 hr;obtain⟨r0,O,U,R,X,T⟩:=aF3 h.o;have G:=h.o.lt;go_wp2_with fail
     clear G r0 O U R X T;have M:World.grownBy w3 (((w3.setCell ⟨w.heap.size,0,none⟩ (.slice Y n1 cC)).setCell ⟨w.heap.size,1,none⟩ (.slice AS m1 cS)).setCell ⟨w.heap.size,2,none⟩ (.slice Z m2 cD)) (some w.heap.size):=grownBy_trans (grownBy_trans (grownBy_set _ _ _ _) (grownBy_set _ _ _ _)) (grownBy_set _ _ _ _);have RE:Row (((w3.setCell ⟨w.heap.size,0,none⟩ (.slice Y n1 cC)).setCell ⟨w.heap.size,1,none⟩ (.slice AS m1 cS)).setCell ⟨w.heap.size,2,none⟩ (.slice Z m2 cD)) w.heap.size 98 [.slice Y n1 cC, .slice AS m1 cS, .slice Z m2 cD]:=((h.o.set 0 (.slice Y n1 cC)).set 1 (.slice AS m1 cS)).set 2 (.slice Z m2 cD);have HN:=E.o.grown M E.o.size (by first | (simp;done) | (simp;omega));have a7:=HP.o.other M h.o;obtain⟨wE,al⟩:=eX ((((w3.setCell ⟨w.heap.size,0,none⟩ (.slice Y n1 cC)).setCell ⟨w.heap.size,1,none⟩ (.slice AS m1 cS)).setCell ⟨w.heap.size,2,none⟩ (.slice Z m2 cD)));rw[<- al] at RE HN a7 ⊢;have k0:=RE.at_ 0 rfl;have k1:=RE.at_ 1 rfl;have k2:=RE.at_ 2 rfl;refine bodyPost_ret (v:= .tuple #[.agg #[.slice Y n1 cC, .slice AS m1 cS, .slice Z m2 cD], .int .i64 z]) (by simp[results,results63,go_sem,k0,k1,k2]) rfl ?_;exact⟨.inr ⟨by omega,by omega,a7⟩,HN⟩
end
end Go.Proofs.YtdefghfjhgmpfaaGreatDoor
