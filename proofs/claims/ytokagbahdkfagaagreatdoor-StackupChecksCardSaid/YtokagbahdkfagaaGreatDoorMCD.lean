/- Parts of this proof: FramePr ChkM LName SLCheck CorI SCorner. -/
import Derived.Test.YtokagbahdkfagaaGreatDoorMAR
import Derived.Test.YtokagbahdkfagaaGreatDoorMAY
import Derived.Test.YtokagbahdkfagaaGreatDoorMAU
import Derived.Test.YtokagbahdkfagaaGreatDoorMAE
import Derived.Test.YtokagbahdkfagaaGreatDoorMBM
import Derived.Test.YtokagbahdkfagaaGreatDoorMAX
import Derived.Test.YtokagbahdkfagaaGreatDoorMBG
import Derived.Test.YtokagbahdkfagaaGreatDoorMBJ
import Derived.Test.YtokagbahdkfagaaGreatDoorMAP
namespace Go.Proofs.YtokagbahdkfagaaGreatDoor
open Go.Proofs.Tryz
section
open Go.ChangeShapes Go.WideShapes Go.ChangeAt Go.RowKit Go.Joins
theorem Kg(g o i j:Nat):((⟨g,o,none⟩:Addr).add i).add j=⟨g,o+i+j,none⟩:=by rw[Fs,Fs]
set_option maxRecDepth 100000 in
theorem KA{W:World}{H:Type}{enc:TypeId × Value -> H}{fuel:Nat}{cs:List Value}{x:DataW H × List MemPlace}(h:DataW.trod enc prog W 0 (fun _=>true) true fuel 76 cs=some x):∃q:ByteArray × Int × Int × Int,cs= [.string q.1, .int .i64 q.2.1, .int .i64 q.2.2.1, .int .i64 q.2.2.2]:=by
 obtain⟨xs,n,_,_,M,V,h⟩:=DataW.trod_struct underlying76 h;have U:prog.cellsOf 76=4:=by kernel_rfl
 rw[U] at M
 match cs,M with
 | [c0,O,R,T],_=>
  match xs,V with
  | [y0,X,Y,Z],_=>
   obtain⟨s,r,_,_⟩:=DataW.trod_string (cs:=[c0]) underlying9 (h 0 _ rfl);obtain⟨a,t,_,_⟩:=DataW.trod_int (cs:=[O]) underlying3 (h 1 _ rfl);obtain⟨l,E,_,_⟩:=DataW.trod_int (cs:=[R]) underlying3 (h 2 _ rfl);obtain⟨u,G,_,_⟩:=DataW.trod_int (cs:=[T]) underlying3 (h 3 _ rfl);simp only[List.cons.injEq,and_true] at r t E G;subst r t E G;exact⟨(s,a,l,u),rfl⟩
set_option maxRecDepth 100000 in
theorem KC{W:World}{H:Type}{enc:TypeId × Value -> H}{fuel:Nat}{cs:List Value}{x:DataW H × List MemPlace}(h:DataW.trod enc prog W 0 (fun _=>true) true fuel 120 cs=some x):∃q:ByteArray × Frm,∃v,cs= [.string q.1, .string q.2.c,v] /\ TT W v q.2.N q.2.d q.2.f:=by
 obtain⟨xs,n,_,_,O,U,h⟩:=DataW.trod_struct underlying120 h;have R:prog.cellsOf 120=3:=by kernel_rfl
 rw[R] at O
 match cs,O with
 | [c0,t,r],_=>
  match xs,U with
  | [y0,Z],_=>
   obtain⟨s,E,_,_⟩:=DataW.trod_string (cs:=[c0]) underlying9 (h 0 _ rfl);have hF:DataW.trod enc prog W 0 (fun _=>true) true n 25 [t,r]=some Z:=h 1 _ rfl;obtain⟨zs,Y,_,_,a0,V,M⟩:=DataW.trod_struct underlying25 hF
   match zs,V with
   | [z0,z1],_=>
    obtain⟨c,G,_,_⟩:=DataW.trod_string (cs:=[t]) underlying22 (M 0 _ rfl);have T:DataW.trod enc prog W 0 (fun _=>true) true Y 23 [r]=some z1:=M 1 _ rfl;obtain⟨N,d,f,X⟩:=Fu T;simp only[List.cons.injEq,and_true] at E G;subst E G;exact⟨(s,⟨c,N,d,f⟩),r,rfl,X⟩
theorem Kh{W:World}{a:Addr}{k:Nat}{cs:List Value}(M:0<k)(h: W.cells? 0 (a.add (0*k)) k=some cs):a.spot=none:=by
 obtain⟨_,O,G⟩:=World.cells?_some h;have t:=G 0 M;rw[List.getElem?_eq_getElem (show 0<cs.length by omega)] at t;have r:=World.cell?_spot t;rw[Nat.zero_mul] at r;have E:∀b:Addr,b.add 0=b:=fun b=>by unfold Addr.add;rw[if_pos rfl]
 rw[E,E] at r;exact r
theorem KD{W:World}{H:Type}{enc:TypeId × Value -> H}{fuel:Nat}{v:Value}{x:DataW H × List MemPlace}(hf:DataW.trod enc prog W 0 (fun _=>true) true fuel 55 [v]=some x):∃n s a l u,TD W v n s a l u:=by
 have Z:prog.cellsOf 76=4:=by kernel_rfl
 rcases Go.Deep.open_slice underlying55 hf with ⟨h0,_⟩ | ⟨a,len,cap,m,n',D,Pl,h0,_,R,T,a0,_,t⟩
 ·simp only[List.cons.injEq,and_true] at h0;subst h0;exact⟨0,fun _=>⟨#[]⟩,fun _=>0,fun _=>0,fun _=>0,_,_,rfl,Nat.le_refl _,Nat.zero_le _, .inl rfl⟩
 ·simp only[List.cons.injEq,and_true] at h0;subst h0;rw[Z] at t;have a1:len <= m:=by rw[a0];split <;> omega
  rcases Nat.eq_zero_or_pos len with U | U
  ·subst U;exact⟨0,fun _=>⟨#[]⟩,fun _=>0,fun _=>0,fun _=>0,_,_,rfl,R,T, .inl rfl⟩
  ·have r:a.spot=none:=by
    obtain⟨V,h1,_⟩:=t 0 oM;exact Kh dC h1
   obtain⟨g,o,sp⟩:=a;have r:sp=none:=r;subst r
   have X:∀i,i<len -> ∃q:ByteArray × Int × Int × Int,W.cell? ⟨g,o+i*4,none⟩=some (.string q.1) /\ W.cell? ⟨g,o+i*4+1,none⟩=some (.int .i64 q.2.1) /\ W.cell? ⟨g,o+i*4+2,none⟩=some (.int .i64 q.2.2.1) /\ W.cell? ⟨g,o+i*4+3,none⟩=some (.int .i64 q.2.2.2):=fun i hi=>by
    obtain⟨V,h1,Y⟩:=t i oM;obtain⟨_,_,h⟩:=World.cells?_some h1;obtain⟨q,rfl⟩:=KA Y;have E:=h 0 dC;have G:=h 1 dC;have M:=h 2 dC;have O:=h 3 dC;rw[Kg] at E G M O;exact⟨q,E,G,M,O⟩
   obtain⟨q,hq⟩:=Go.Deep.choose_lt X;exact⟨len,fun i=>(q i).1,fun i=>(q i).2.1,fun i=>(q i).2.2.1,fun i=>(q i).2.2.2,_,_,rfl,R,T, .inr ⟨g,o,rfl,hq⟩⟩
theorem KE{W:World}{H:Type}{enc:TypeId × Value -> H}{fuel:Nat}{v:Value}{x:DataW H × List MemPlace}(Z:DataW.trod enc prog W 0 (fun _=>true) true fuel 56 [v]=some x):∃m s F,TC W v m s F:=by
 have Y:prog.cellsOf 120=3:=by kernel_rfl
 rcases Go.Deep.open_slice underlying56 Z with ⟨h0,_⟩ | ⟨a,len,cap,m,n',D,Pl,h0,_,O,R,a0,_,t⟩
 ·simp only[List.cons.injEq,and_true] at h0;subst h0;exact⟨0,fun _=>⟨#[]⟩,fun _=>⟨⟨#[]⟩,0,fun _=>0,fun _=>⟨#[]⟩⟩,_,_,rfl,Nat.le_refl _,Nat.zero_le _, .inl rfl⟩
 ·simp only[List.cons.injEq,and_true] at h0;subst h0;rw[Y] at t;have a1:len <= m:=by rw[a0];split <;> omega
  rcases Nat.eq_zero_or_pos len with T | T
  ·subst T;exact⟨0,fun _=>⟨#[]⟩,fun _=>⟨⟨#[]⟩,0,fun _=>0,fun _=>⟨#[]⟩⟩,_,_,rfl,O,R, .inl rfl⟩
  ·have r:a.spot=none:=by
    obtain⟨U,h1,_⟩:=t 0 oM;exact Kh dC h1
   obtain⟨g,o,sp⟩:=a;have r:sp=none:=r;subst r
   haveI:Inhabited Frm:=⟨⟨⟨#[]⟩,0,fun _=>0,fun _=>⟨#[]⟩⟩⟩
   have V:∀i,i<len -> ∃q:ByteArray × Frm,∃u,W.cell? ⟨g,o+i*3,none⟩=some (.string q.1) /\ W.cell? ⟨g,o+i*3+1,none⟩=some (.string q.2.c) /\ W.cell? ⟨g,o+i*3+2,none⟩=some u /\ TT W u q.2.N q.2.d q.2.f:=fun i hi=>by
    obtain⟨U,h1,X⟩:=t i oM;obtain⟨_,_,h⟩:=World.cells?_some h1;obtain⟨q,u,rfl,ht⟩:=KC X;have E:=h 0 dC;have G:=h 1 dC;have M:=h 2 dC;rw[Kg] at E G M;exact⟨q,u,E,G,M,ht⟩
   obtain⟨q,hq⟩:=Go.Deep.choose_lt V;exact⟨len,fun i=>(q i).1,fun i=>(q i).2,_,_,rfl,O,R, .inr ⟨g,o,rfl,hq⟩⟩
set_option maxRecDepth 100000 in
theorem KF{W:World}{base:Nat}{v:Value}{H:Type}{enc:TypeId × Value -> H}{d:DataW H}{R:List MemPlace}(M:Value.okWide prog W .any base 58 v)(G:DataW.Trod enc prog W 0 (fun _=>true) true 58 v d R):
  ∃ (P:Prb) (A C:Option Addr) (h cC:Nat),v= .agg #[.slice A P.n h, .slice C P.m cC] /\ PIn W (.slice A P.n h) (.slice C P.m cC) P:=by
 obtain⟨v0,v1,y0,T,n,rfl,_,_,h0,h1⟩:=open_agg2 underlying58 kR kR M G;obtain⟨O,s,a,l,u,E⟩:=KD h0;obtain⟨m,t,F,r⟩:=KE h1;obtain⟨A,h,rfl,_,_⟩:=E.shape;obtain⟨C,cC,rfl,_,_⟩:=r.shape;exact⟨⟨O,m,s,a,l,u,t,F⟩,A,C,h,cC,rfl,E,r⟩
end
section
open Go.RowKit
theorem Ki{s:Nat -> ByteArray}:∀k,(∀j,j<k -> jg (kT s j) (s j)=0) -> ∀x,x ∈ kT s k↔∃j,j<k /\ (s j).data.toList=x:=by
 intro k
 induction k with
 | zero=>intro _ x;rw[kT];simp
 | succ k E=>
  intro h x;rw[kT];unfold pW;rw[if_pos (h k oM),List.mem_cons,E (fun j r=>h j oM) x];constructor
  ·rintro(e | ⟨j,r,e⟩)
   ·exact⟨k,by omega,e.symm⟩
   ·exact⟨j,by omega,e⟩
  ·rintro⟨j,r,e⟩;by_cases t:j=k
   ·subst t;exact .inl e.symm
   ·exact .inr ⟨j,by omega,e⟩
theorem Kj{s t:ByteArray}(h:¬s=t):¬s.data.toList=t.data.toList:=fun e=>h (by
 cases s with
 | mk a=>cases t with
  | mk b=>rw[show a=b from Array.toList_inj.1 e])
theorem Kk{s:Nat -> ByteArray}{k:Nat}(h:∀j,j<k -> jg (kT s j) (s j)=0)(E:ku (s k)=true)(r:∀j,j<k -> ¬s j=s k):jg (kT s k) (s k)=0:=by
 unfold jg;rw[if_pos E,if_neg];rw[Ki k h];rintro⟨j,t,e⟩;exact Kj (r j t) e
theorem Kl{s:Nat -> ByteArray}{k:Nat}(h:ku (s k)=false):jg (kT s k) (s k)=11:=by
 unfold jg;rw[if_neg (by rw[h];simp)]
theorem Km{s:Nat -> ByteArray}{k j:Nat}(h:∀j,j<k -> jg (kT s j) (s j)=0)(E:ku (s k)=true)(t:j<k)(r:s j=s k):jg (kT s k) (s k)=9:=by
 unfold jg;rw[if_pos E,if_pos];rw[Ki k h];exact⟨j,t,by rw[r]⟩
theorem KH{P:Prb}{k:Nat}(h:gW P.s P.a P.l P.u k=0):jg (kT P.s k) (P.s k)=0:=Classical.byContradiction fun e=>by
 unfold gW at h;rw[if_pos e] at h;exact e h
theorem KI{P:Prb}{k:Nat}(h:jP P.n P.t P.F k=0):jg (kT P.t k) (P.t k)=0:=Classical.byContradiction fun e=>by
 unfold jP at h;rw[if_pos e] at h;exact e h
theorem K7{P:Prb}{k:Nat}(G:P.n <= 64 /\ P.m <= 64)(E:k<P.n)(h:∀j,j<k -> gW P.s P.a P.l P.u j=0)(r:gW P.s P.a P.l P.u k≠0):iA P=gW P.s P.a P.l P.u k:=by
 have t:=kv E h r;unfold iA;rw[if_neg oM,t,if_pos r]
theorem Kb{P:Prb}{k:Nat}(O:P.n <= 64 /\ P.m <= 64)(r:∀j,j<P.n -> gW P.s P.a P.l P.u j=0)(G:k<P.m)(h:∀j,j<k -> jP P.n P.t P.F j=0)(M:jP P.n P.t P.F k≠0):iA P=jP P.n P.t P.F k:=by
 have E:=kv G h M;unfold iA;rw[if_neg oM,if_neg (by rw[jw.2 r];simp),E]
theorem KJ{P:Prb}(E:P.n <= 64 /\ P.m <= 64)(r:∀j,j<P.n -> gW P.s P.a P.l P.u j=0)(h:∀j,j<P.m -> jP P.n P.t P.F j=0):iA P=0:=by
 unfold iA;rw[if_neg oM,if_neg (by rw[jw.2 r];simp)];exact jw.2 h
theorem Ko{P:Prb}(h:64<P.n \/ 64<P.m):iA P=6:=by unfold iA;rw[if_pos h]
end
section
open Go.RowKit
theorem Kc(D:ByteArray):D.data.toList.length=D.size:=by rw[Array.length_toList];rfl
theorem Kr(D:ByteArray)(k:Nat)(h:k<D.size):D[k]=D.data.toList[k]'(by rw[Kc];exact h):=by rw[Array.getElem_toList];rfl
theorem KL(s:ByteArray)(k:Nat)(h:k<s.size):∃x:Nat,s[k].toNat=x /\ x<256 /\ s.data.toList[k]? =some s[k] /\ s.data.toList.take (k+1)=s.data.toList.take k++ [s[k]]:=by
 have r:k<s.data.toList.length:=by rw[Kc];exact h
 refine⟨_,rfl,UInt8.toNat_lt _,?_,?_⟩
 ·rw[List.getElem?_eq_getElem r,Kr s k h]
 ·rw[Kr s k h];exact List.take_succ_eq_append_getElem r
theorem Ku{s:ByteArray}{k x:Nat}(h:∃c:UInt8,s.data.toList[k]? =some c /\ c.toNat=x)(E:x<33 \/ 126<x):ku s=false:=by
 obtain⟨c,h1,t⟩:=h
 have r:s.data.toList.all kr=false:=by
  rw[List.all_eq_false];refine⟨c,List.mem_of_getElem? h1,?_⟩;unfold kr;simp;omega
 unfold ku;rw[r,Bool.and_false]
theorem KM{s:ByteArray}(h:∀c ∈ s.data.toList,kr c=true):ku s=(decide (s.size≠0) && decide (s.size <= 40)):=by
 unfold ku;rw[List.all_eq_true.2 h,Bool.and_true]
set_option maxHeartbeats 1600000 in
theorem Kv(s:ByteArray)(w:World)(W:s.size <= 1000000000):
  Calls prog 93 #[.string s] w fun e w'=>e= .returned (.bool (ku s)) /\ w'=w:=by
 have HS:=lH W;have a2:((s.size:Nat):Int) <= 1000000000:=oM
 clear W;go_enter func93,ntmps93;go_wp2_with fail
 go_loop [3] (fun T=>∃k:Nat,((k:Nat):Int) <= ((s.size:Nat):Int) /\ T= .int .i64 k /\ Hid (∀c ∈ s.data.toList.take k,kr c=true)) (fun T=>s.size-(intOf T).toNat)
 case atStart=>exact⟨0,by omega,rfl,lH (fun c r=>by simp at r)⟩
 case round=>
  obtain⟨k,hk,rfl,R⟩:=hrel;by_cases a1:((k:Nat):Int)<((s.size:Nat):Int)
  ·have a0:k<s.size:=oM
   obtain⟨x,Y,_,V,X⟩:=KL s k a0;have U:Hid (∃c:UInt8,s.data.toList[k]? =some c /\ c.toNat=x):=lH ⟨_,V,Y⟩
   have Z:Hid (∀c ∈ s.data.toList.take (k+1),c ∈ s.data.toList.take k \/ c.toNat=x):=lH (fun c r=>by
    rw[X,List.mem_append,List.mem_singleton] at r
    rcases r with r | r
    ·exact .inl r
    ·exact .inr (by rw[r];exact Y))
   clear V X;by_cases h1:((x:Nat):Int)<33
   ·have M:decide (((x:Nat):Int)<33)=true:=decide_eq_true h1;have t:Hid (ku s=false):=lH (Ku U.o oM);go_wp2_with fail
    go_returns;exact⟨by rw[t.o];rfl,rfl⟩
   ·have M:decide (((x:Nat):Int)<33)=false:=decide_eq_false h1;by_cases G:(126:Int)<((x:Nat):Int)
    ·have O:decide ((126:Int)<((x:Nat):Int))=true:=decide_eq_true G;have t:Hid (ku s=false):=lH (Ku U.o oM);go_wp2_with fail
     go_returns;exact⟨by rw[t.o];rfl,rfl⟩
    ·have O:decide ((126:Int)<((x:Nat):Int))=false:=decide_eq_false G;have HX:Hid (33 <= x /\ x <= 126):=lH oM;go_wp2_with fail
     go_round
     case rel=>
      refine⟨k+1,by omega,by go_num,lH (fun c r=> ?_)⟩
      rcases Z.o c r with h | h
      ·exact R.o c h
      ·have:=HX.o;unfold kr;simp;omega
     case measure=>simp[intOf];omega
  ·have t:Hid (ku s=(decide (s.size≠0) && decide (s.size <= 40))):=lH (KM (by
    have:=R.o;rw[List.take_of_length_le (by rw[Kc];omega)] at this
    exact this))
   clear R;by_cases h1:(0:Int)<((s.size:Nat):Int)
   ·have M:decide ((0:Int)<((s.size:Nat):Int))=true:=decide_eq_true h1;by_cases G:((s.size:Nat):Int) <= 40
    ·have O:decide (((s.size:Nat):Int) <= 40)=true:=decide_eq_true G;have E:Hid (ku s=true):=lH (by rw[t.o,decide_eq_true (show s.size≠0 by omega),decide_eq_true (show s.size <= 40 by omega)];rfl);go_wp2_with fail
     go_returns;exact⟨by rw[E.o];rfl,rfl⟩
    ·have O:decide (((s.size:Nat):Int) <= 40)=false:=decide_eq_false G;have E:Hid (ku s=false):=lH (by rw[t.o,decide_eq_false (show ¬s.size <= 40 by omega),Bool.and_false]);go_wp2_with fail
     go_returns;exact⟨by rw[E.o];rfl,rfl⟩
   ·have M:decide ((0:Int)<((s.size:Nat):Int))=false:=decide_eq_false h1;have E:Hid (ku s=false):=lH (by rw[t.o,decide_eq_false (show ¬s.size≠0 by omega)];rfl);go_wp2_with fail
    go_returns;exact⟨by rw[E.o];rfl,rfl⟩
theorem Ke(n:Int)(w:World):
  Calls prog 94 #[.int .i64 n] w fun e w'=>e= .returned (.bool (!jM n)) /\ Below w.heap.size w w':=by
 by_cases h1:n< -1073741824
 ·have t:decide (n< -1073741824)=true:=decide_eq_true h1;have h:Hid (jM n=false):=lH (by unfold jM;simp;omega);go_enter func94,ntmps94;go_wp2_with fail
  go_returns;exact⟨by rw[h.o];rfl,by go_grown⟩
 ·have t:decide (n< -1073741824)=false:=decide_eq_false h1;by_cases r:(1073741824:Int)<n
  ·have E:decide ((1073741824:Int)<n)=true:=decide_eq_true r;have h:Hid (jM n=false):=lH (by unfold jM;simp;omega);go_enter func94,ntmps94;go_wp2_with fail
   go_returns;exact⟨by rw[h.o];rfl,by go_grown⟩
  ·have E:decide ((1073741824:Int)<n)=false:=decide_eq_false r;have h:Hid (jM n=true):=lH (by unfold jM;simp;omega);go_enter func94,ntmps94;go_wp2_with fail
   go_returns;exact⟨by rw[h.o];rfl,by go_grown⟩
end
section
open Go.RowKit
theorem Kw{s t:ByteArray}(h:¬s=t):¬s.toList=t.toList:=by
 rw[ByteArray.toList_eq,ByteArray.toList_eq];exact Kj h
set_option maxRecDepth 100000 in
set_option maxHeartbeats 12800000 in
theorem KN(P:Prb)(A C:Option Addr)(cA cC:Nat)(w:World)(hp:PIn w (.slice A P.n cA) (.slice C P.m cC) P)(hs:(∀i,i<P.n -> (P.s i).size <= 1000000000) /\ (∀i,i<P.m -> (P.t i).size <= 1000000000))(hf:∀i,i<P.m -> (P.F i).c.size <= 65536 /\ ∀k,k<(P.F i).N -> ((P.F i).f k).size <= 65536)(hg:fF w):
  Calls prog 54 #[.agg #[.slice A P.n cA, .slice C P.m cC]] w fun e w'=>e= .returned (.int .i64 (iA P:Nat)) /\ Below w.heap.size w w':=by
 have HD:=lH hp.1;have HC:=lH hp.2;have aL:=lH hs;have aR:=lH hf;have aS:=lH hg;clear hp hs hf hg;obtain⟨W,hW,M,G⟩:=eN1 w [.slice A P.n cA, .slice C P.m cC] 58;go_enter func54,ntmps54
 go_upto_region 1 with (fail)
 rw[<- hW];clear hW;obtain⟨aE,aq⟩:=aT2 M.o;have ah:=M.o.lt;by_cases hn:(64:Int)<(P.n:Nat)
 ·have aQ:decide ((64:Int)<(P.n:Nat))=true:=decide_eq_true hn;have HE:Hid (iA P=6):=lH (Ko oM);go_wp2_with fail
  go_returns;exact⟨by rw[HE.o];rfl,G.o⟩
 have aQ:decide ((64:Int)<(P.n:Nat))=false:=decide_eq_false hn;by_cases hm:(64:Int)<(P.m:Nat)
 ·have aP:decide ((64:Int)<(P.m:Nat))=true:=decide_eq_true hm;have HE:Hid (iA P=6):=lH (Ko oM);go_wp2_with fail
  go_returns;exact⟨by rw[HE.o];rfl,G.o⟩
 have aP:decide ((64:Int)<(P.m:Nat))=false:=decide_eq_false hm;have H6:Hid (P.n <= 64 /\ P.m <= 64):=lH oM;go_wp2_with fail
 clear hn aQ hm aP aE aq ah
 go_loopw [4] (fun iv wr=>∃ (k:Nat),k <= P.n /\ iv= .int .i64 k /\ Hid (∀j,j<k -> gW P.s P.a P.l P.u j=0) /\ Hid (Row wr w.heap.size 58 [.slice A P.n cA, .slice C P.m cC]) /\ Hid (Below w.heap.size w wr)) (fun iv _=>P.n-(intOf iv).toNat)
 case atStart=>exact⟨0,Nat.zero_le _,rfl,lH (fun j hj=>absurd hj oM),M,G⟩
 case round=>
  clear M G;obtain⟨k,hk,rfl,V,M,G⟩:=hrel;by_cases aX:((k:Nat):Int)<(P.n:Nat)
  ·have a9:k<P.n:=oM
   have X:=lH a9;have al:Hid (∀j,j<k -> jg (kT P.s j) (P.s j)=0):=lH (fun j hj=>KH (V.o j hj));obtain⟨gA,oA,rfl,a2⟩:=HD.o.at_ oM;have ar:=cell_below G.o (a2 k a9).1;have aG:=cell_below G.o (a2 k a9).2.1;have aH:=cell_below G.o (a2 k a9).2.2.1;have aZ:=cell_below G.o (a2 k a9).2.2.2;have aJ:=eF ar;have az:=lH a2;clear a2;have aE:=aI 0 M;have ah:=M.o.lt;obtain⟨W3,a7⟩:=eX (wr.alloc (.cells #[.string (P.s k), .int .i64 (P.a k), .int .i64 (P.l k), .int .i64 (P.u k)] 76));obtain⟨gT,ae⟩:=eX (wr.heap.size);have ad:Below wr.heap.size wr W3:=by rw[a7];exact eD _ _
   have r:Hid (Row W3 gT 76 [.string (P.s k), .int .i64 (P.a k), .int .i64 (P.l k), .int .i64 (P.u k)]):=lH (by rw[a7,ae];exact eO _ _);replace M:=rW M ad;replace G:=bT G ad;clear ad
   go_upto_region 8 with (fail)
   clear ar aG aH aZ aJ aE ah;rw[<- a7, <- ae];clear a7 ae;have aF:=aI 0 r;have Y:=r.o.lt;go_wp2_with fail
   clear aF Y;refine(Kv (P.s k) _ (aL.o.1 k X.o)).mono ?_;rintro e W4 ⟨rfl,ap⟩;rw[ap];clear ap W4;cases hnm:ku (P.s k)
   ·have a6:=lH hnm;clear hnm;go_wp2_with fail
    go_returns;have U:gW P.s P.a P.l P.u k=11:=by unfold gW;rw[Kl a6.o,if_pos dC]
    exact⟨by rw[K7 H6.o X.o V.o (by rw[U];decide),U];rfl,G.o⟩
   ·have a6:=lH hnm;clear hnm;go_wp2_with fail
    obtain⟨wo,rfl⟩:=eX (W3);obtain⟨sk,ag⟩:∃z:ByteArray,z=P.s k:=⟨_,rfl⟩
    rw[<- ag] at r;have ak:=lH ag;clear ag
    go_loopw [6] (fun iv wr=>∃ (j:Nat),j <= k /\ iv= .int .i64 j /\ Hid (∀i,i<j -> ¬P.s i=P.s k) /\ Hid (Row wr w.heap.size 58 [.slice (some ⟨gA,oA,none⟩) P.n cA, .slice C P.m cC]) /\ Hid (Row wr gT 76 [.string sk, .int .i64 (P.a k), .int .i64 (P.l k), .int .i64 (P.u k)]) /\ Hid (Below w.heap.size w wr)) (fun iv _=>k-(intOf iv).toNat)
    case atStart=>exact⟨0,Nat.zero_le _,rfl,lH (fun i hi=>absurd hi oM),M,r,G⟩
    case round=>
     clear M r G;obtain⟨j,hj,rfl,a5,M,r,G⟩:=hrel;by_cases aV:((j:Nat):Int)<(k:Nat)
     ·have an:j<k:=oM
      have ab:=lH an;have aD:j<P.n:=oM
      have Z:=lH (cell_below G.o ((az.o j aD).1));obtain⟨sj,af⟩:∃z:ByteArray,z=P.s j:=⟨_,rfl⟩
      rw[<- af] at Z;have aj:=lH af;clear af
      go_upto_region 13 with (fail)
      by_cases he:sj=sk
      ·have aa:Hid (P.s j=P.s k):=lH (by rw[<- aj.o, <- ak.o];exact he);subst he;refine iC (fun w'=> w'.cell? ⟨w.heap.size,0,none⟩=some (.slice (some ⟨gA,oA,none⟩) P.n cA) /\ w'.cell? ⟨gA,oA+j*4,none⟩=some (.string sj) /\ w'.cell? ⟨gT,0,none⟩=some (.string sj)) (fun i=>false) kR ?_;obtain⟨y1,a0⟩:=eX (wr.drew);rw[<- a0];have O:Below wr.heap.size wr y1:=by rw[a0];exact(Below.refl _ _).drew
       clear a0;replace M:=rW M O;replace r:=rW r O;replace Z:=lH (cell_below O Z.o);replace G:=bT G O;have aB:=lH O;clear O;have R:=And.intro (M.o.at_ 0 rfl) (And.intro (Z.o) (r.o.at_ 0 rfl));refine tKs 0 41 R ?_;refine tKs 1 42 R ?_;refine tKs 2 43 R ?_;refine tKs 3 44 R ?_;refine tKs 4 45 R ?_;refine tKs 5 46 R ?_;refine tKs 6 47 R ?_;refine tKs 7 48 R ?_;refine jd (i:=8) (v:= .bool true) (some 49) rfl (by rfl) kR kR kR kR (fun _ _ _ h=>h) (Or.inl ⟨by rfl,?_⟩) R ?_
       ·(intro w' ac;clear ac;go_simp;try simp)
       simp only[Act.put,List.setIfInBounds_toArray,List.set_cons_zero,List.set_cons_succ];refine dN ?_ _;clear R;go_wp2_with fail
       go_returns;have U:gW P.s P.a P.l P.u k=9:=by unfold gW;rw[Km al.o a6.o ab.o aa.o,if_pos dC]
       exact⟨by rw[K7 H6.o X.o V.o (by rw[U];decide),U];rfl,G.o⟩
      ·have aa:Hid (¬P.s j=P.s k):=lH (by rw[<- aj.o, <- ak.o];exact he);have ai:=lH (Kw he);clear he;refine iC (fun w'=> w'.cell? ⟨w.heap.size,0,none⟩=some (.slice (some ⟨gA,oA,none⟩) P.n cA) /\ w'.cell? ⟨gA,oA+j*4,none⟩=some (.string sj) /\ w'.cell? ⟨gT,0,none⟩=some (.string sk)) (fun i=>false) kR ?_;obtain⟨y1,a0⟩:=eX (wr.drew);rw[<- a0];have O:Below wr.heap.size wr y1:=by rw[a0];exact(Below.refl _ _).drew
       clear a0;replace M:=rW M O;replace r:=rW r O;replace Z:=lH (cell_below O Z.o);replace G:=bT G O;have aB:=lH O;clear O;have R:=And.intro (M.o.at_ 0 rfl) (And.intro (Z.o) (r.o.at_ 0 rfl));refine tKs 0 41 R ?_;refine tKs 1 42 R ?_;refine tKs 2 43 R ?_;refine tKs 3 44 R ?_;refine tKs 4 45 R ?_;refine tKs 5 46 R ?_;refine tKs 6 47 R ?_;refine tKs 7 48 R ?_;refine jd (i:=8) (v:= .bool false) (some 49) rfl (by rfl) kR kR kR kR (fun _ _ _ h=>h) (Or.inl ⟨by rfl,?_⟩) R ?_
       ·(intro w' ac;clear ac;go_simp;first | exact ai.o | (simp;exact ai.o))
       simp only[Act.put,List.setIfInBounds_toArray,List.set_cons_zero,List.set_cons_succ];refine dN ?_ _;clear R;have h6:=H6.o;have an:=ab.o;go_wp2_with fail
       go_roundw
       case rel=>exact⟨j+1,ab.o,by simp,lH (fun i hi=>by by_cases e:i=j;rw[e];exact aa.o;exact a5.o i oM),M,r,G⟩
       case measure=>exact mZ
     ·have am:j=k:=oM
      rw[am] at a5;clear am
      skip
      have a8:Hid (jg (kT P.s k) (P.s k)=0):=lH (Kk al.o a6.o a5.o);clear a5;have a3:=aI 1 r;have a1:=aI 2 r;have a4:=aI 3 r;have Y:=r.o.lt;go_wp2_with fail
      clear a3 a1 a4 Y;refine(Ke (P.a k) _).mono ?_;rintro e w5 ⟨rfl,O⟩;replace M:=rW M O;replace r:=rW r O;replace G:=bT G O;clear O;cases hi0:jM (P.a k)
      ·have av:=lH hi0;clear hi0;have a3:=aI 1 r;have a1:=aI 2 r;have a4:=aI 3 r;have Y:=r.o.lt;go_wp2_with fail
       go_returns;have U:gW P.s P.a P.l P.u k=2:=by unfold gW;rw[a8.o,if_neg (by simp),if_pos (.inl av.o)]
       exact⟨by rw[K7 H6.o X.o V.o (by rw[U];decide),U];rfl,G.o⟩
      ·have av:=lH hi0;clear hi0;have a3:=aI 1 r;have a1:=aI 2 r;have a4:=aI 3 r;have Y:=r.o.lt;go_wp2_with fail
       clear a3 a1 a4 Y;refine(Ke (P.l k) _).mono ?_;rintro e w6 ⟨rfl,O⟩;replace M:=rW M O;replace r:=rW r O;replace G:=bT G O;clear O;cases hi1:jM (P.l k)
       ·have aw:=lH hi1;clear hi1;have a3:=aI 1 r;have a1:=aI 2 r;have a4:=aI 3 r;have Y:=r.o.lt;go_wp2_with fail
        go_returns;have U:gW P.s P.a P.l P.u k=2:=by unfold gW;rw[a8.o,if_neg (by simp),if_pos (.inr (.inl aw.o))]
        exact⟨by rw[K7 H6.o X.o V.o (by rw[U];decide),U];rfl,G.o⟩
       ·have aw:=lH hi1;clear hi1;have a3:=aI 1 r;have a1:=aI 2 r;have a4:=aI 3 r;have Y:=r.o.lt;go_wp2_with fail
        clear a3 a1 a4 Y;refine(Ke (P.u k) _).mono ?_;rintro e w7 ⟨rfl,O⟩;replace M:=rW M O;replace r:=rW r O;replace G:=bT G O;clear O;cases hi2:jM (P.u k)
        ·have ax:=lH hi2;clear hi2;have a3:=aI 1 r;have a1:=aI 2 r;have a4:=aI 3 r;have Y:=r.o.lt;go_wp2_with fail
         go_returns;have U:gW P.s P.a P.l P.u k=2:=by unfold gW;rw[a8.o,if_neg (by simp),if_pos (.inr (.inr ax.o))]
         exact⟨by rw[K7 H6.o X.o V.o (by rw[U];decide),U];rfl,G.o⟩
        ·have ax:=lH hi2;clear hi2;have a1:=aI 2 r;have a4:=aI 3 r;have Y:=r.o.lt;by_cases ay:P.u k<P.l k
         ·have aA:=lH ay;have aY:decide (P.u k<P.l k)=true:=decide_eq_true ay;go_wp2_with fail
          go_returns;have U:gW P.s P.a P.l P.u k=8:=by unfold gW;rw[a8.o,if_neg (by simp),if_neg (by rw[av.o,aw.o,ax.o];simp),if_pos (by have:=aA.o;omega)]
          exact⟨by rw[K7 H6.o X.o V.o (by rw[U];decide),U];rfl,G.o⟩
         ·have aA:=lH ay;have aY:decide (P.u k<P.l k)=false:=decide_eq_false ay;have h6:=H6.o;have aW:=X.o;go_wp2_with fail
          clear a1 a4 Y;go_roundw
          case rel=>
           refine⟨k+1,X.o,by simp,lH (fun j hj=> ?_),M,G⟩;by_cases e:j=k
           ·rw[e];unfold gW;rw[a8.o,if_neg (by simp),if_neg (by rw[av.o,aw.o,ax.o];simp),if_neg (by have:=aA.o;omega)]
           ·exact V.o j oM
          case measure=>exact mZ
  ·have ao:k=P.n:=oM
   rw[ao] at V;have au:=V;clear ao V;obtain⟨wq,rfl⟩:=eX (wr);have aq:=aI 1 M;have ah:=M.o.lt;go_wp2_with fail
   clear aq ah
   go_loopw [7] (fun iv wr=>∃ (k:Nat),k <= P.m /\ iv= .int .i64 k /\ Hid (∀j,j<k -> jP P.n P.t P.F j=0) /\ Hid (Row wr w.heap.size 58 [.slice A P.n cA, .slice C P.m cC]) /\ Hid (Below w.heap.size w wr)) (fun iv _=>P.m-(intOf iv).toNat)
   case atStart=>exact⟨0,Nat.zero_le _,rfl,lH (fun j hj=>absurd hj oM),M,G⟩
   case round=>
    clear M G;obtain⟨k,hk,rfl,V,M,G⟩:=hrel;have aq:=aI 1 M;have ah:=M.o.lt;by_cases aX:((k:Nat):Int)<(P.m:Nat)
    ·have a9:k<P.m:=oM
     have X:=lH a9;have al:Hid (∀j,j<k -> jg (kT P.t j) (P.t j)=0):=lH (fun j hj=>KI (V.o j hj));obtain⟨gA,oA,rfl,a2⟩:=HC.o.at_ oM;obtain⟨uv,aM,aN,aO,aC⟩:=a2 k a9;obtain⟨T,cT,rfl,_,_⟩:=aC.shape;have aT:=lH aC;have ar:=cell_below G.o aM;have aG:=cell_below G.o aN;have aH:=cell_below G.o aO;have aJ:=eF ar;have az:Hid (∀i,i<P.m -> w.cell? ⟨gA,oA+i*3,none⟩=some (.string (P.t i))):=lH (fun i hi=>by obtain⟨_,h,_⟩:=a2 i hi;exact h);clear a2 aM aN aO aC;obtain⟨W3,a7⟩:=eX (wr.alloc (.cells #[.string (P.t k), .string (P.F k).c, .slice T (P.F k).N cT] 120));obtain⟨gT,ae⟩:=eX (wr.heap.size);have ad:Below wr.heap.size wr W3:=by rw[a7];exact eD _ _
     have r:Hid (Row W3 gT 120 [.string (P.t k), .string (P.F k).c, .slice T (P.F k).N cT]):=lH (by rw[a7,ae];exact eO _ _);replace M:=rW M ad;replace G:=bT G ad;clear ad
     go_upto_region 23 with (fail)
     clear ar aG aH aJ aq ah;rw[<- a7, <- ae];clear a7 ae;have aF:=aI 0 r;have Y:=r.o.lt;go_wp2_with fail
     clear aF Y;refine(Kv (P.t k) _ (aL.o.2 k X.o)).mono ?_;rintro e W4 ⟨rfl,ap⟩;rw[ap];clear ap W4;cases hnm:ku (P.t k)
     ·have a6:=lH hnm;clear hnm;go_wp2_with fail
      go_returns;have U:jP P.n P.t P.F k=11:=by unfold jP;rw[Kl a6.o,if_pos dC]
      exact⟨by rw[Kb H6.o au.o X.o V.o (by rw[U];decide),U];first | done | rfl,G.o⟩
     ·have a6:=lH hnm;clear hnm;go_wp2_with fail
      obtain⟨wo,rfl⟩:=eX (W3);obtain⟨sk,ag⟩:∃z:ByteArray,z=P.t k:=⟨_,rfl⟩
      rw[<- ag] at r;have ak:=lH ag;clear ag
      go_loopw [9] (fun iv wr=>∃ (j:Nat),j <= k /\ iv= .int .i64 j /\ Hid (∀i,i<j -> ¬P.t i=P.t k) /\ Hid (Row wr w.heap.size 58 [.slice A P.n cA, .slice (some ⟨gA,oA,none⟩) P.m cC]) /\ Hid (Row wr gT 120 [.string sk, .string (P.F k).c, .slice T (P.F k).N cT]) /\ Hid (Below w.heap.size w wr)) (fun iv _=>k-(intOf iv).toNat)
      case atStart=>exact⟨0,Nat.zero_le _,rfl,lH (fun i hi=>absurd hi oM),M,r,G⟩
      case round=>
       clear M r G;obtain⟨j,hj,rfl,a5,M,r,G⟩:=hrel;by_cases aV:((j:Nat):Int)<(k:Nat)
       ·have an:j<k:=oM
        have ab:=lH an;have aD:j<P.m:=oM
        have Z:=lH (cell_below G.o ((az.o j aD)));obtain⟨sj,af⟩:∃z:ByteArray,z=P.t j:=⟨_,rfl⟩
        rw[<- af] at Z;have aj:=lH af;clear af
        go_upto_region 28 with (fail)
        by_cases he:sj=sk
        ·have aa:Hid (P.t j=P.t k):=lH (by rw[<- aj.o, <- ak.o];exact he);subst he;refine iC (fun w'=> w'.cell? ⟨w.heap.size,1,none⟩=some (.slice (some ⟨gA,oA,none⟩) P.m cC) /\ w'.cell? ⟨gA,oA+j*3,none⟩=some (.string sj) /\ w'.cell? ⟨gT,0,none⟩=some (.string sj)) (fun i=>false) kR ?_;obtain⟨y1,a0⟩:=eX (wr.drew);rw[<- a0];have O:Below wr.heap.size wr y1:=by rw[a0];exact(Below.refl _ _).drew
         clear a0;replace M:=rW M O;replace r:=rW r O;replace Z:=lH (cell_below O Z.o);replace G:=bT G O;have aB:=lH O;clear O;have R:=And.intro (M.o.at_ 1 rfl) (And.intro (Z.o) (r.o.at_ 0 rfl));refine tKs 0 89 R ?_;refine tKs 1 90 R ?_;refine tKs 2 91 R ?_;refine tKs 3 92 R ?_;refine tKs 4 93 R ?_;refine tKs 5 94 R ?_;refine tKs 6 95 R ?_;refine tKs 7 96 R ?_;refine jd (i:=8) (v:= .bool true) (some 97) rfl (by rfl) kR kR kR kR (fun _ _ _ h=>h) (Or.inl ⟨by rfl,?_⟩) R ?_
         ·(intro w' ac;clear ac;go_simp;try simp)
         simp only[Act.put,List.setIfInBounds_toArray,List.set_cons_zero,List.set_cons_succ];refine dN ?_ _;clear R;go_wp2_with fail
         go_returns;have U:jP P.n P.t P.F k=9:=by unfold jP;rw[Km al.o a6.o ab.o aa.o,if_pos dC]
         exact⟨by rw[Kb H6.o au.o X.o V.o (by rw[U];decide),U];first | done | rfl,G.o⟩
        ·have aa:Hid (¬P.t j=P.t k):=lH (by rw[<- aj.o, <- ak.o];exact he);have ai:=lH (Kw he);clear he;refine iC (fun w'=> w'.cell? ⟨w.heap.size,1,none⟩=some (.slice (some ⟨gA,oA,none⟩) P.m cC) /\ w'.cell? ⟨gA,oA+j*3,none⟩=some (.string sj) /\ w'.cell? ⟨gT,0,none⟩=some (.string sk)) (fun i=>false) kR ?_;obtain⟨y1,a0⟩:=eX (wr.drew);rw[<- a0];have O:Below wr.heap.size wr y1:=by rw[a0];exact(Below.refl _ _).drew
         clear a0;replace M:=rW M O;replace r:=rW r O;replace Z:=lH (cell_below O Z.o);replace G:=bT G O;have aB:=lH O;clear O;have R:=And.intro (M.o.at_ 1 rfl) (And.intro (Z.o) (r.o.at_ 0 rfl));refine tKs 0 89 R ?_;refine tKs 1 90 R ?_;refine tKs 2 91 R ?_;refine tKs 3 92 R ?_;refine tKs 4 93 R ?_;refine tKs 5 94 R ?_;refine tKs 6 95 R ?_;refine tKs 7 96 R ?_;refine jd (i:=8) (v:= .bool false) (some 97) rfl (by rfl) kR kR kR kR (fun _ _ _ h=>h) (Or.inl ⟨by rfl,?_⟩) R ?_
         ·(intro w' ac;clear ac;go_simp;first | exact ai.o | (simp;exact ai.o))
         simp only[Act.put,List.setIfInBounds_toArray,List.set_cons_zero,List.set_cons_succ];refine dN ?_ _;clear R;have h6:=H6.o;have an:=ab.o;go_wp2_with fail
         go_roundw
         case rel=>exact⟨j+1,ab.o,by simp,lH (fun i hi=>by by_cases e:i=j;rw[e];exact aa.o;exact a5.o i oM),M,r,G⟩
         case measure=>exact mZ
       ·have am:j=k:=oM
        rw[am] at a5;clear am;have a8:Hid (jg (kT P.t k) (P.t k)=0):=lH (Kk al.o a6.o a5.o);clear a5;have a3:=aI 1 r;have a1:=aI 2 r;have Y:=r.o.lt;go_wp2_with fail
        clear a3 a1 Y;refine(IK P.n (P.F k) T cT _ (aT.o.below G.o) (aR.o k X.o) (aS.o.below G.o)).mono ?_;rintro e w5 ⟨rfl,O⟩;replace M:=rW M O;replace G:=bT G O;clear O;obtain⟨E,hE⟩:=eX (iL P.n (P.F k));rw[<- hE];have aK:=lH hE;clear hE;by_cases h0:E=0
        ·subst h0;have h6:=H6.o;have aW:=X.o;go_wp2_with fail
         go_roundw
         case rel=>
          refine⟨k+1,X.o,by simp,lH (fun j hj=> ?_),M,G⟩;by_cases e:j=k
          ·rw[e];unfold jP;rw[a8.o,if_neg (by simp), <- aK.o]
          ·exact V.o j oM
         case measure=>exact mZ
        ·have H1:=lH h0;clear h0;have aU:¬((E:Nat):Int)=0:=by have:=H1.o;omega
         have b0:(((E:Nat):Int) !=0)=true:=by simpa using aU
         go_wp2_with fail
         go_returns;have U:jP P.n P.t P.F k=E:=by unfold jP;rw[a8.o,if_neg (by simp), <- aK.o]
         exact⟨by rw[Kb H6.o au.o X.o V.o (by rw[U];exact H1.o),U];first | done | rfl,G.o⟩
    ·have ao:k=P.m:=oM
     rw[ao] at V;clear ao;go_wp2_with fail
     go_returns;exact⟨by rw[KJ H6.o au.o V.o];rfl,G.o⟩
end
section
open Go.RowKit
open Lp (RL upd eH jf)
noncomputable def K6(P:Prb)(F:Frm)(g:Int):Nat -> Nat -> Int
 | 0=>fun i=>P.a i+P.l i
 | k+1=>if sgI (qof (F.f k)).num=g then upd (K6 P F g k) (F.d k).toNat (P.a (F.d k).toNat+P.u (F.d k).toNat) else K6 P F g k
noncomputable def KO(P:Prb)(F:Frm)(g:Int)(j:Nat):Rat:=((K6 P F g F.N j:Int):Rat)
end
section
open Go.RowKit
open Lp (RL upd eH)
theorem KP:(prog.info? 22).map (fun i=>(i.zero,i.size,i.bytes))=some (some (.string ⟨#[]⟩),1,16):=by kernel_rfl
theorem fI.sk{w:World}{B:Option Addr}{n b:Nat}{s:Nat -> ByteArray}(h:fI w (.slice B n b) 22 n (fun j u=>u= .string (s j)))(M:0<n):∃g,B=some ⟨g,0,none⟩ /\ SK w g n s:=by
 obtain⟨g,c',cs,r,O,G,t⟩:=h.done M;simp only[Value.slice.injEq,true_and] at r;exact⟨g,r.1,cs,O,G,fun j E=>by obtain⟨u,h1,rfl⟩:=t j E;exact h1⟩
theorem KQ{P:Program}(w:World){o:Oper}{a:Act}{K:Act -> World -> Prop}{Q:Exit -> Act -> World -> Prop}(s x:Operand)(t:TypeId)
  (X:o.op= .call {callee:= .builtin .append,args:= #[s,x],argTypes:= #[t,t]})
  (e:TypeId) (i:TypeInfo) (z:Value) (r:Nat) (ht:P.underlying t=some (.slice e)) (V: P.info? e=some i) (hz:i.zero=some z)
  (a1:i.size=1) (U:i.bytes=r) (a3:z.cells.size=1)
  (v:Value) (k:Nat) (p:Nat -> Value -> Prop) (hs:a.eval s=v) (Y:fI w v e k p)
  (u:Value) (h1:u.oneCell'=true) (hp:p k u) (g:Nat) (hr:Row w g e [u]) (hx:a.eval x= .slice (some ⟨g,0,none⟩) 1 1)
  (G:k+1 <= maxLen /\ (k+1)*r <= 140737488355328)
  (h:∀v' w',fI w' v' e (k+1) p -> Turned w w' v v' -> K (a.put o.dst v') w'):Oper.wp P o a w K Q:=by
 obtain⟨xs,M,a0⟩:=Y;have W:xs.length=k:=by have:=M.1;omega
 refine nO _ s x t X e i z 1 r ht V hz a1 U a3 dC v k xs hs M ⟨g,0,none⟩ 1 1 [u] hx rfl ?_ ?_ G.1 G.2 ?_
 ·intro j y E;rw[add0];exact hr.at_ j E
 ·intro y O;simp only[List.mem_singleton] at O;subst O;exact h1
 ·intro v' w' Z a2;refine h v' w' ⟨_,Z,fun j E=> ?_⟩ a2;by_cases e:j=k
  ·subst e;exact⟨u,by rw[List.getElem?_append_right oM,W];simp,hp⟩
  ·obtain⟨y,R,T⟩:=a0 j oM;exact⟨y,by rw[List.getElem?_append_left oM];exact R,T⟩
noncomputable def Ky(P:Prb)(j:Nat):ByteArray:=eB ((P.a j+P.l j:Int):Rat)
def KR(w:World)(P:Prb)(F:Frm)(g:Int)(e:Ending):Prop:=
 (qE P F≠0 /\ e= .returned (.tuple #[.slice none 0 0, .int .i64 (qE P F:Nat)])) \/
 (qE P F=0 /\ ∃X cX,e= .returned (.tuple #[.slice X P.n cX, .int .i64 0]) /\ TS w (.slice X P.n cX) P.n (fun j=>eB (KO P F g j)))
def K8(w:World)(base:Nat)(B:Option Addr)(n:Nat)(z:Prop)(s:Nat -> ByteArray):Prop:=(n=0 /\ z) \/ ∃g,B=some ⟨g,0,none⟩ /\ base <= g /\ SK w g n s
theorem K8.ts{w:World}{base:Nat}{B:Option Addr}{n c:Nat}{z:Prop}{s:Nat -> ByteArray}(h:K8 w base B n z s)(r:n <= c)(t:c <= maxLen):TS w (.slice B n c) n s:=by
 rcases h with ⟨h0,_⟩ | ⟨g,rfl,_,h⟩
 ·exact⟨_,_,rfl,r,t, .inl h0⟩
 ·exact h.ts r t
set_option maxRecDepth 100000 in
set_option maxHeartbeats 12800000 in
theorem KV(P:Prb)(F:Frm)(A C T:Option Addr)(cA cC cT:Nat)(gr:Bool)(w:World)(hp:PIn w (.slice A P.n cA) (.slice C P.m cC) P)(hF:TT w (.slice T F.N cT) F.N F.d F.f)(ht:Tab w)(hg:fF w):
  Calls prog 29 #[.agg #[.slice A P.n cA, .slice C P.m cC], .agg #[.string F.c, .slice T F.N cT], .bool gr] w fun e w'=>KR w' P F (sgB gr) e /\ Below w.heap.size w w':=by
 have al:=lH hp;have aD:=lH hF;have aH:=lH ht;have aE:=lH hg;clear hp hF ht hg;obtain⟨W,hW,G,M,t⟩:=eN2 w [.slice A P.n cA, .slice C P.m cC] 58 [.string F.c, .slice T F.N cT] 25;go_enter func29,ntmps29
 go_upto_region 1 with (fail)
 rw[<- hW];clear hW;obtain⟨ad,b7⟩:=aT2 G.o;have ag:=G.o.lt;obtain⟨b3,ax⟩:=aT2 M.o;have aB:=M.o.lt;go_wp2_with fail
 clear ad b7 ag b3 ax aB;refine(Ii P F A C T cA cC cT _ (al.o.below t.o) (aD.o.below t.o) (aE.o.below t.o)).mono ?_;rintro e w1 ⟨rfl,r⟩;replace G:=rW G r;replace M:=rW M r;replace t:=bT t r;clear r;obtain⟨E,hE⟩:=eX (qE P F);rw[<- hE];have HE:=lH hE;clear hE;by_cases h0:E=0
 ·subst h0;have am:Hid (qE P F=0):=lH HE.o.symm;clear HE;have ab:Hid (POk P):=lH (Ig am.o).1;have a6:Hid (TOk (P.n:Nat) F):=lH (Ig am.o).2.ok;have ak:Hid (P.n <= 64):=lH ab.o.n64;have ad:=aI 0 G;have ag:=G.o.lt;go_wp2_with fail
  clear ad ag
  go_loopw [9,26] (fun ov iv wr=>∃ (k:Nat) (B:Option Addr) (b:Nat),k <= P.n /\ ov= .slice B k b /\ iv= .int .i64 k /\ Hid (fI wr (.slice B k b) 22 k (fun j u=>u= .string (Ky P j))) /\ Hid (∀g,(Value.slice B k b).ownBlock=some g -> w.heap.size <= g) /\ Hid (Row wr w.heap.size 58 [.slice A P.n cA, .slice C P.m cC]) /\ Hid (Row wr (w.heap.size+1) 25 [.string F.c, .slice T F.N cT]) /\ Hid (Below w.heap.size w wr)) (fun _ iv _=>P.n-(intOf iv).toNat)
  case atStart=>exact⟨0,none,0,Nat.zero_le _,rfl,rfl,lH (fI.nil _ _ _),lH (fun g hg=>by simp[Value.ownBlock] at hg),G,M,t⟩
  case round=>
   clear G M t;obtain⟨k,B,b,hk,rfl,rfl,X,LB,G,M,t⟩:=hrel;by_cases bg:((k:Nat):Int)<(P.n:Nat)
   ·have a7:k<P.n:=oM
    have a9:=lH a7;obtain⟨gA,oA,rfl,Y⟩:=al.o.1.at_ oM;have a2:=cell_below t.o (Y k a7).1;have ae:=cell_below t.o (Y k a7).2.1;have az:=cell_below t.o (Y k a7).2.2.1;have aA:=cell_below t.o (Y k a7).2.2.2;have af:=eF a2;clear Y;have a3:=lH (ab.o.dim k a7);obtain⟨W3,a1⟩:=eX (wr.alloc (.cells #[.string (P.s k), .int .i64 (P.a k), .int .i64 (P.l k), .int .i64 (P.u k)] 76));obtain⟨gT,a4⟩:=eX (wr.heap.size);have O:Below wr.heap.size wr W3:=by rw[a1];exact eD _ _
    have R:Hid (Row W3 gT 76 [.string (P.s k), .int .i64 (P.a k), .int .i64 (P.l k), .int .i64 (P.u k)]):=lH (by rw[a1,a4];exact eO _ _);replace G:=rW G O;replace M:=rW M O;replace X:=lH (X.o.below O);replace t:=bT t O;clear O
    go_upto_region 8 with (fail)
    clear a2 ae az aA af;rw[<- a1, <- a4];clear a1 a4;have ay:=aI 1 R;have b9:=aI 2 R;have ah:=R.o.lt;have au: -9223372036854775808 <= P.a k+P.l k /\ P.a k+P.l k <= 9223372036854775807:=by have:=a3.o;omega
    have aY:IntKind.i64.wrap (P.a k+P.l k)=P.a k+P.l k:=by rw[IntKind.wrap_i64];omega
    go_wp2_with fail
    clear ay b9 ah;refine(nL (P.a k+P.l k) au.1 au.2 _).mono ?_;rintro e w4 ⟨vf,rfl,hf,r⟩;obtain⟨sf,Af,lf,cf,tf,Bf,mf,df,rfl⟩:=hf.shape;have VF:=lH hf;clear hf au aY;replace G:=rW G r;replace M:=rW M r;replace X:=lH (X.o.below r);replace t:=bT t r;clear r;go_wp2_with fail
    refine(jE _ ((P.a k+P.l k:Int):Rat) 20 _ VF.o ((rM (k:=11) (by have:=a3.o;omega) dC).mono dC) dC (aH.o.below t.o)).mono ?_;rintro e w5 ⟨rfl,r⟩;clear VF R;replace G:=rW G r;replace M:=rW M r;replace X:=lH (X.o.below r);replace t:=bT t r;clear r;obtain⟨tn,a5⟩:∃y:ByteArray,y=eB ((P.a k+P.l k:Int):Rat):=⟨_,rfl⟩
    rw[<- a5];have an:=lH a5;clear a5;obtain⟨iN,aW,aZ,b0,b1⟩:=info_parts KP;obtain⟨w6,a1⟩:=eX (w5.alloc (.cells #[.string tn] 22));obtain⟨gt,a4⟩:=eX (w5.heap.size);have O:Below w5.heap.size w5 w6:=by rw[a1];exact eD _ _
    have RX:Hid (Row w6 gt 22 [.string tn]):=lH (by rw[a1,a4];exact eO _ _);replace G:=rW G O;replace M:=rW M O;replace X:=lH (X.o.below O);replace t:=bT t O;clear O
    go_wp2_with (at_builtin;(rw[<- a1, <- a4];refine wpList_plain rfl fun K hK=>KQ _ (.tmp 30) (.tmp 38) 26 rfl 22 iN (.string ⟨#[]⟩) 16 underlying26 aW aZ b0 b1 rfl (.slice B k b) k (fun j u=>u= .string (Ky P j)) rfl X.o (.string tn) rfl (by rw[an.o];rfl) gt RX.o rfl ⟨by have:=ak.o;have:=a9.o;unfold maxLen;omega,by have:=ak.o;have:=a9.o;omega⟩ ?_))
    intro va w7 ho ht;rw[<- a1] at ht;clear a1 a4;obtain⟨B2,b2,rfl,_,_⟩:=fI.shape ho;have aS:=lH (G.o.turned ht (fun e=>by obtain⟨_,hx⟩:=X.o.row e;have h0:=G.o.ty hx;revert h0;decide));have aR:=lH (M.o.turned ht (fun e=>by obtain⟨_,hx⟩:=X.o.row e;have h0:=M.o.ty hx;revert h0;decide));have aP:=lH (ht.base t.o.size LB.o);have aM:=lH (t.o.trans (ht.below (B:=w.heap.size) t.o.size LB.o));have aQ:=lH ho;clear ho ht;have bf:k<64:=by have:=ak.o;have:=a9.o;omega
    go_wp2_with fail
    go_roundw
    case rel=>exact⟨k+1,B2,b2,a9.o,rfl,by simp,aQ,aP,aS,aR,aM⟩
    case measure=>first | (simp[intOf];done) | (simp[intOf];have:=a9.o;omega)
   ·have aa:Hid (k=P.n):=lH oM;have aC:Hid (P.n <= b /\ b <= maxLen):=lH (by obtain⟨A2,c2,hv,h1,h2⟩:=X.o.shape;cases hv;rw[<- aa.o];exact⟨h1,h2⟩)
    have CL:Hid (K8 wr w.heap.size B P.n (F.N=0) (fun j=>eB ((K6 P F (sgB gr) 0 j:Int):Rat))):=lH (by
     rcases Nat.eq_zero_or_pos P.n with h0 | h0
     ·exact .inl ⟨h0,by have h:=a6.o.lt (k:=0);rcases Nat.eq_zero_or_pos F.N with e | e;exact e;have:=h e;omega⟩
     ·obtain⟨g,e,hs⟩:=fI.sk X.o (by rw[aa.o];exact h0);rw[aa.o] at hs
      exact .inr ⟨g,e,LB.o g (by rw[e];rfl),hs.congr (fun j _=>rfl)⟩)
    have ax:=aI 1 M;have aB:=M.o.lt
    skip
    clear X LB;obtain⟨wo,rfl⟩:=eX (wr);go_wp2_with fail
    clear ax aB
    go_loopw [44] (fun iv wr=>∃ (k:Nat),k <= F.N /\ iv= .int .i64 k /\ Hid (K8 wr w.heap.size B P.n (F.N=0) (fun j=>eB ((K6 P F (sgB gr) k j:Int):Rat))) /\ Hid (Row wr w.heap.size 58 [.slice A P.n cA, .slice C P.m cC]) /\ Hid (Row wr (w.heap.size+1) 25 [.string F.c, .slice T F.N cT]) /\ Hid (Below w.heap.size w wr)) (fun iv _=>F.N-(intOf iv).toNat)
    case atStart=>exact⟨0,Nat.zero_le _,rfl,CL,G,M,t⟩
    case round=>
     clear CL G M t;obtain⟨q,hq,rfl,CL,G,M,t⟩:=hrel;by_cases bh:((q:Nat):Int)<(F.N:Nat)
     ·have ai:q<F.N:=oM
      have ac:=lH ai;obtain⟨z,hz⟩:∃z:Nat,F.d q=(z:Int):=⟨(F.d q).toNat,by have:=a6.o.lt ai;omega⟩
      have a8:z<P.n:=by have:=a6.o.lt ai;omega
      have bj:((z:Nat):Int)<((P.n:Nat):Int):=oM
      have HZ:Hid ((F.d q).toNat=z):=lH oM;have ao:=lH a8
      rcases CL.o with ⟨_,h0⟩ | ⟨gO,rfl,aK,hs⟩
      ·exact absurd h0 oM
      have SB:=lH hs;have aj:=lH aK;clear CL aK hs;obtain⟨gA,oA,rfl,Y⟩:=(aD.o.below t.o).at_ oM;obtain⟨a2,ae⟩:=Y q ai;rw[hz] at a2;have af:=eF a2;clear hz Y;obtain⟨w3,Z⟩:=eX (wr.alloc (.cells #[.int .i64 (z:Nat), .string (F.f q)] 126));obtain⟨gT,a0⟩:=eX (wr.heap.size);have O:Below wr.heap.size wr w3:=by rw[Z];exact eD _ _
      have R:Hid (Row w3 gT 126 [.int .i64 (z:Nat), .string (F.f q)]):=lH (by rw[Z,a0];exact eO _ _);replace G:=rW G O;replace M:=rW M O;replace SB:=lH (SB.o.below O);replace t:=bT t O;clear O
      go_upto_region 13 with (fail)
      clear a2 ae af;rw[<- Z, <- a0];clear Z a0;obtain⟨gD,oD,rfl,Y⟩:=al.o.1.at_ oM;have a2:=cell_below t.o (Y z a8).1;have ae:=cell_below t.o (Y z a8).2.1;have az:=cell_below t.o (Y z a8).2.2.1;have aA:=cell_below t.o (Y z a8).2.2.2;have af:=eF a2;clear Y;have ad:=aI 0 G;have ag:=G.o.lt;have b5:=aI 0 R;have ah:=R.o.lt;have a3:=lH (ab.o.dim z a8);obtain⟨w4,Z⟩:=eX (w3.alloc (.cells #[.string (P.s z), .int .i64 (P.a z), .int .i64 (P.l z), .int .i64 (P.u z)] 76));obtain⟨gE,a0⟩:=eX (w3.heap.size);have O:Below w3.heap.size w3 w4:=by rw[Z];exact eD _ _
      have U:Hid (Row w4 gE 76 [.string (P.s z), .int .i64 (P.a z), .int .i64 (P.l z), .int .i64 (P.u z)]):=lH (by rw[Z,a0];exact eO _ _);replace G:=rW G O;replace M:=rW M O;replace R:=rW R O;replace SB:=lH (SB.o.below O);replace t:=bT t O;clear O
      go_upto_region 14 with (fail)
      clear a2 ae az aA af ad ag b5 ah;rw[<- Z, <- a0];clear Z a0;have ay:=aI 1 R;have ah:=R.o.lt;go_wp2_with fail
      clear ay ah;refine(nQ (F.f q) _ (Nat.le_trans (a6.o.size q ac.o) dC) (aE.o.below t.o)).mono ?_;rintro e w5 ⟨vf,rfl,hf,r⟩;obtain⟨sf,Af,lf,cf,tf,Bf,mf,df,rfl⟩:=hf.shape;have VF:=lH hf;clear hf;replace G:=rW G r;replace M:=rW M r;replace R:=rW R r;replace U:=rW U r;replace SB:=lH (SB.o.below r);replace t:=bT t r;clear r;obtain⟨w6,Z⟩:=eX (w5.alloc (.cells #[.bool sf, .slice Af lf cf, .bool tf, .slice Bf mf df] 40));obtain⟨gK,a0⟩:=eX (w5.heap.size);have O:Below w5.heap.size w5 w6:=by rw[Z];exact eD _ _
      have RK:Hid (Row w6 gK 40 [.bool sf, .slice Af lf cf, .bool tf, .slice Bf mf df]):=lH (by rw[Z,a0];exact eO _ _);replace G:=rW G O;replace M:=rW M O;replace R:=rW R O;replace U:=rW U O;replace SB:=lH (SB.o.below O);replace VF:=lH (VF.o.below O);replace t:=bT t O;clear O
      go_upto_region 15 with (fail)
      rw[<- Z, <- a0];clear Z a0;obtain⟨b4,b6,b8,ba⟩:=aT4 RK.o;have bb:=RK.o.lt;go_wp2_with fail
      clear b4 b6 b8 ba bb;refine(fQ _ (qof (F.f q)) _ VF.o).mono ?_;rintro e w7 ⟨rfl,r⟩;clear VF RK;replace G:=rW G r;replace M:=rW M r;replace R:=rW R r;replace U:=rW U r;replace SB:=lH (SB.o.below r);replace t:=bT t r;clear r;go_wp2_with fail
      refine(zQ gr _).mono ?_;rintro e w8 ⟨rfl,r⟩;replace G:=rW G r;replace M:=rW M r;replace R:=rW R r;replace U:=rW U r;replace SB:=lH (SB.o.below r);replace t:=bT t r;clear r;obtain⟨sz,av⟩:=eX (sgI (qof (F.f q)).num);obtain⟨gz,ar⟩:=eX (sgB gr);rw[<- av, <- ar];have aG:=lH av;have aF:=lH ar;clear av ar;by_cases he:sz=gz
      ·have bc:=lH he;subst he;have aJ:(sz==sz)=true:=by simp
       go_upto_region 16 with (fail)
       clear aJ;have bi:z<k:=by have:=aa.o;have:=ao.o;omega
       refine iC (fun w'=> w'.cell? ⟨gT,0,none⟩=some (.int .i64 (z:Nat)) /\ w'.cell? ⟨gE,1,none⟩=some (.int .i64 (P.a z)) /\ w'.cell? ⟨gE,3,none⟩=some (.int .i64 (P.u z))) (fun i=>decide (11 <= i)) kR ?_;obtain⟨y1,aw⟩:=eX (w8.drew);rw[<- aw];have r:Below w8.heap.size w8 y1:=by rw[aw];exact(Below.refl _ _).drew
       clear aw;replace G:=rW G r;replace M:=rW M r;replace R:=rW R r;replace U:=rW U r;replace SB:=lH (SB.o.below r);replace t:=bT t r;have bd:=lH r;clear r;have V:=And.intro (R.o.at_ 0 rfl) (And.intro (U.o.at_ 1 rfl) (U.o.at_ 3 rfl));refine tKs 0 65 V ?_;refine tKs 1 66 V ?_;refine tKs 2 67 V ?_;refine tKs 3 68 V ?_;refine tKs 4 69 V ?_;refine tKs 5 70 V ?_;refine tKs 6 71 V ?_;refine jd (i:=7) (v:= .int .i64 (P.a z+P.u z)) (some 72) rfl (by rfl) kR kR kR kR (fun _ _ _ h=>h) (Or.inl ⟨by rfl,?_⟩) V ?_
       ·(intro w' aT;clear aT;go_simp;rw[IntKind.wrap_i64];have:=a3.o;omega)
       simp only[Act.put,List.setIfInBounds_toArray,List.set_cons_zero,List.set_cons_succ];refine rD 8 (fun K hK=> ?_);go_simp;refine(nL (P.a z+P.u z) (by have:=a3.o;omega) (by have:=a3.o;omega) _).mono ?_;rintro e y2 ⟨vy,rfl,hy,r⟩;obtain⟨sy,Ay,ly,cy,ty,By,my,dy,rfl⟩:=hy.shape;have VY:=lH hy;clear hy;replace G:=rW G r;replace M:=rW M r;replace R:=rW R r;replace U:=rW U r;replace SB:=lH (SB.o.below r);replace t:=bT t r;clear r;clear V;have V:=And.intro (R.o.at_ 0 rfl) (And.intro (U.o.at_ 1 rfl) (U.o.at_ 3 rfl));refine kH hK V ?_;clear hK K;refine rD 9 (fun K hK=> ?_);go_simp;refine(jE _ ((P.a z+P.u z:Int):Rat) 20 _ VY.o ((rM (k:=11) (by have:=a3.o;omega) dC).mono dC) dC (aH.o.below t.o)).mono ?_;rintro e y3 ⟨rfl,r⟩;obtain⟨tn,a5⟩:∃y:ByteArray,y=(eB ((P.a z+P.u z:Int):Rat)):=⟨_,rfl⟩
       rw[<- a5];have an:=lH a5;clear a5;replace G:=rW G r;replace M:=rW M r;replace R:=rW R r;replace U:=rW U r;replace SB:=lH (SB.o.below r);replace t:=bT t r;clear r;clear V;have V:=And.intro (R.o.at_ 0 rfl) (And.intro (U.o.at_ 1 rfl) (U.o.at_ 3 rfl));refine kH hK V ?_;clear hK K;refine tKs 10 75 V ?_;refine rD 11 (fun K hK=> ?_);have kg:=SB.o.at_ ao.o;have fg:=SB.o.free z;have kl:=SB.o.lt;go_simp;clear kg fg kl;have aV:=aj.o;have hg:World.grownBy y3 (y3.setCell ⟨gO,z,none⟩ (.string tn)) (some gO):=grownBy_set _ _ _ _;have hS:=SB.o.set (x:=tn) ao.o;obtain⟨cx,hx⟩:=SB.o.row;have aq:=G.o.other hg (fun e=>by have h0:=hx.ty (show Row _ gO _ _ from by rw[<- e];exact G.o);revert h0;decide);have ap:=M.o.other hg (fun e=>by have h0:=hx.ty (show Row _ gO _ _ from by rw[<- e];exact M.o);revert h0;decide);have hB:=t.o.grown hg t.o.size (by first | (simp;done) | (simp;omega));obtain⟨y4,aL⟩:=eX ((y3.setCell ⟨gO,z,none⟩ (.string tn)));rw[<- aL] at hS aq ap hB ⊢;clear aL hg aV hx cx SB G M t;have SB:=lH hS;have G:=lH aq;have M:=lH ap;have t:=lH hB;clear hS aq ap hB;refine kL hK ?_;clear hK K;refine dN ?_ _;clear V;have h6:=ab.o.n64;have h7:=a6.o.few;have aX:=ac.o;go_wp2_with fail
       go_roundw
       case rel=>exact⟨q+1,ac.o,by simp,lH (.inr ⟨gO,rfl,aj.o,SB.o.congr (fun j _=>by rw[K6,if_pos (by rw[<- aG.o];exact aF.o),HZ.o];by_cases e:j=z;rw[e,Lp.upd_same,Lp.upd_same];exact an.o;rw[Lp.eQ _ _ e,Lp.eQ _ _ e])⟩),G,M,t⟩
       case measure=>exact mZ
      ·have aN:=lH he;have aJ:(sz==gz)=false:=by simpa using he
       have h6:=ab.o.n64;have h7:=a6.o.few;have aX:=ac.o;go_wp2_with fail
       go_roundw
       case rel=>exact⟨q+1,ac.o,by simp,lH (.inr ⟨gO,rfl,aj.o,SB.o.congr (fun j _=>by rw[K6,if_neg (by rw[<- aG.o, <- aF.o];exact aN.o)])⟩),G,M,t⟩
       case measure=>exact mZ
     ·have aO:Hid (q=F.N):=lH oM;go_wp2_with fail
      go_returns;exact⟨.inr ⟨am.o,B,b,by rw[aa.o];rfl,by rw[aO.o] at CL;exact CL.o.ts aC.o.1 aC.o.2⟩,t.o⟩
 ·have H1:=lH h0;clear h0;have aU:¬((E:Nat):Int)=0:=by have:=H1.o;omega
  have be:(((E:Nat):Int) !=0)=true:=by simpa using aU
  go_wp2_with fail
  go_returns;exact⟨.inl ⟨by rw[<- HE.o];exact H1.o,by rw[<- HE.o];rfl⟩,t.o⟩
end
end Go.Proofs.YtokagbahdkfagaaGreatDoor
