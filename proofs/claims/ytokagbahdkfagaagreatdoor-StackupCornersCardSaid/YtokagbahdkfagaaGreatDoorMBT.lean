/- Parts of this proof: FrameCh. -/
import Derived.Test.YtokagbahdkfagaaGreatDoorMAR
import Derived.Test.YtokagbahdkfagaaGreatDoorMBS
import Derived.Deep.SlicePairs
import Derived.Lib.SmallJoins
namespace Go.Proofs.YtokagbahdkfagaaGreatDoor
open Go.Proofs.Tryz
open Go.ChangeShapes Go.WideShapes Go.ChangeAt Go.RowKit Go.Joins
theorem JA(g o i j:Nat):((⟨g,o,none⟩:Addr).add i).add j=⟨g,o+i+j,none⟩:=by
 have h:∀a b:Nat,((⟨g,a,none⟩:Addr).add b)=⟨g,a+b,none⟩:=fun a b=>by
  unfold Addr.add;by_cases e:b=0
  ·rw[if_pos e,e];rfl
  ·rw[if_neg e]
 rw[h,h]
theorem Jm{W:World}{H:Type}{enc:TypeId × Value -> H}{fuel:Nat}{cs:List Value}{x:DataW H × List MemPlace}{E I:TypeId}{k:Nat}{K:IntKind}(O:prog.underlying E=some (.array k I))(R:prog.underlying I=some (.int K))(t:prog.cellsOf E=k)(G:prog.cellsOf I=1)
  (T:DataW.trod enc prog W 0 (fun _=>true) true fuel E cs=some x):cs.length=k /\ ∃z:Nat -> Int,∀j,j<k -> cs[j]? =some (.int K (z j)) /\ (Lit.int K (z j)).wf=true:=by
 obtain⟨xs,m,_,_,r,Z,U⟩:=DataW.trod_array O T;rw[t] at r;refine⟨r,?_⟩
 have M:∀j,j<k -> ∃z:Int,cs[j]? =some (.int K z) /\ (Lit.int K z).wf=true:=fun j V=>by
  have h1:=U j V;rw[List.getElem?_eq_getElem (show j<xs.length by omega),G,Nat.mul_one] at h1;obtain⟨z,e,_,X⟩:=DataW.trod_int R h1;refine⟨z,?_,X⟩;have h:((cs.drop j).take 1)[0]? =some (.int K z):=by rw[e];rfl
  rw[List.getElem?_take,if_pos dC,List.getElem?_drop,Nat.add_zero] at h;exact h
 obtain⟨z,Y⟩:=Go.Deep.choose_lt M;exact⟨z,Y⟩
theorem J8{W:World}{H:Type}{enc:TypeId × Value -> H}{fuel:Nat}{v:Value}{x:DataW H × List MemPlace}{T E I:TypeId}{k:Nat}(hT:prog.underlying T=some (.slice E))(hE:prog.underlying E=some (.array k I))(hI:prog.underlying I=some (.int .i8))(M:prog.cellsOf E=k)(cI:prog.cellsOf I=1)(hk:0<k)
  (hf:DataW.trod enc prog W 0 (fun _=>true) true fuel T [v]=some x):∃ (A:Option Addr) (n c:Nat) (z:Nat -> Nat -> Int),v= .slice A n c /\ TAr W (.slice A n c) n k z /\ ∀i,i<n -> ∀j,j<k -> -128 <= z i j /\ z i j <= 127:=by
 rcases Go.Deep.open_slice hT hf with ⟨h0,_⟩ | ⟨a,len,cap,m,n',D,Pl,h0,_,hl,hm,a2,_,hx⟩
 ·simp only[List.cons.injEq,and_true] at h0;subst h0;exact⟨none,0,0,fun _ _=>0,rfl,⟨_,_,rfl,Nat.le_refl _,Nat.zero_le _, .inl rfl⟩,fun i h=>absurd h oM⟩
 ·simp only[List.cons.injEq,and_true] at h0;subst h0;have a3:len <= m:=by rw[a2];split <;> omega
  rcases Nat.eq_zero_or_pos len with r | r
  ·subst r;exact⟨_,_,_,fun _ _=>0,rfl,⟨_,_,rfl,hl,hm, .inl rfl⟩,fun i h=>absurd h oM⟩
  ·have U:a.spot=none:=by
    obtain⟨V,h1,Y⟩:=hx 0 oM;obtain⟨_,a0,O⟩:=World.cells?_some h1;rw[M] at a0 O;have G:=O 0 hk;rw[List.getElem?_eq_getElem (show 0<V.length by omega)] at G;have R:=World.cell?_spot G;rw[Nat.zero_mul] at R;have Z:∀b:Addr,b.add 0=b:=fun b=>by unfold Addr.add;rw[if_pos rfl]
    rw[Z,Z] at R;exact R
   obtain⟨g,o,sp⟩:=a;have U:sp=none:=U;subst U
   have a1:∀i,i<len -> ∃z:Nat -> Int,∀j,j<k -> W.cell? ⟨g,o+i*k+j,none⟩=some (.int .i8 (z j)) /\ -128 <= z j /\ z j <= 127:=fun i h=>by
    obtain⟨V,h1,Y⟩:=hx i oM;obtain⟨_,a0,O⟩:=World.cells?_some h1;obtain⟨_,z,r⟩:=Jm hE hI M cI Y;refine⟨z,fun j t=> ?_⟩;obtain⟨e1,X⟩:=r j t;have G:=O j (by rw[M];exact t);rw[M,JA] at G;simp only[Lit.wf,Bool.and_eq_true,decide_eq_true_eq] at X;exact⟨G.trans e1,X⟩
   obtain⟨z,r⟩:=Go.Deep.choose_lt a1;exact⟨_,_,_,z,rfl,⟨_,_,rfl,hl,hm, .inr ⟨g,o,rfl,fun i h j t=>(r i h j t).1⟩⟩,fun i h j t=>(r i h j t).2⟩
set_option maxRecDepth 100000 in
theorem JB{W:World}{base:Nat}{v:Value}{H:Type}{enc:TypeId × Value -> H}{d:DataW H}{ps:List MemPlace}(a1:Value.okWide prog W .any base 49 v)(hd:DataW.Trod enc prog W 0 (fun _=>true) true 49 v d ps):
  ∃ (c:Chn) (AL r AB t:Option Addr) (qL qG qB G:Nat),v= .agg #[.slice AL c.nL qL, .slice r c.nG qG, .slice AB c.nB qB, .slice t c.nT G] /\ CIn W (.slice AL c.nL qL) (.slice r c.nG qG) (.slice AB c.nB qB) (.slice t c.nT G) c:=by
 obtain⟨cs,rfl,E⟩:=okWide_struct underlying49 a1;have Z:prog.cellsOf 49=4:=by kernel_rfl
 rw[Z] at E;obtain⟨l⟩:=cs
 match l,E with
 | [c0,T,U,V],_=>
  obtain⟨fuel,h⟩:=hd;obtain⟨xs,n,_,_,hl,a0,h⟩:=DataW.trod_struct underlying49 h
  match xs,a0 with
  | [y0,y1,y2,y3],_=>
   have h0:=h 0 _ rfl;have h1:=h 1 _ rfl;have X:=h 2 _ rfl;have Y:=h 3 _ rfl;obtain⟨M,n0,q0,z0,rfl,t0,r0⟩:=J8 (v:=c0) (k:=3) underlying44 underlying129 underlying106 kR kR dC h0;obtain⟨O,n1,q1,z1,rfl,t1,r1⟩:=J8 (v:=T) (k:=5) underlying45 underlying139 underlying106 kR kR dC h1;obtain⟨A2,n2,q2,z2,rfl,t2,r2⟩:=J8 (v:=U) (k:=2) underlying46 underlying136 underlying106 kR kR dC X;obtain⟨R,n3,q3,z3,rfl,t3,r3⟩:=J8 (v:=V) (k:=6) underlying47 underlying134 underlying106 kR kR dC Y;exact⟨⟨n0,n1,n2,n3,z0,z1,z2,z3⟩,M,O,A2,R,q0,q1,q2,q3,rfl,⟨t0,t1,t2,t3,r0,r1,r2,r3⟩⟩
set_option maxRecDepth 100000 in
theorem JC{W:World}{base:Nat}{v:Value}{H:Type}{enc:TypeId × Value -> H}{d:DataW H}{ps:List MemPlace}(R:Value.okWide prog W .any base 64 v)(hd:DataW.Trod enc prog W 0 (fun _=>true) true 64 v d ps):
  ∃h:Nat -> Int,v= .agg #[.int .u8 (h 0), .int .u8 (h 1), .int .u8 (h 2), .int .u8 (h 3), .int .u8 (h 4)] /\ ∀i,i<5 -> 0 <= h i /\ h i <= 255:=by
 have hv:∃cs:Array Value,v= .agg cs /\ cs.size=5:=by
  simp only[Value.okWide,underlying64] at R;obtain⟨cs,h1,h2,_⟩:=R;exact⟨cs,h1,by rw[h2];kernel_rfl⟩
 obtain⟨cs,rfl,a0⟩:=hv;obtain⟨l⟩:=cs
 match l,a0 with
 | [c0,T,U,V,X],_=>
  obtain⟨fuel,hf⟩:=hd;obtain⟨_,z,r⟩:=Jm (k:=5) underlying64 underlying5 kR kR hf;have t:=(r 0 dC).1;have E:=(r 1 dC).1;have G:=(r 2 dC).1;have M:=(r 3 dC).1;have O:=(r 4 dC).1;have Y:c0= .int .u8 (z 0):=by simpa [Value.cells] using t
  have Z:T= .int .u8 (z 1):=by simpa [Value.cells] using E
  have d2:U= .int .u8 (z 2):=by simpa [Value.cells] using G
  have d3:V= .int .u8 (z 3):=by simpa [Value.cells] using M
  have d4:X= .int .u8 (z 4):=by simpa [Value.cells] using O
  clear t E G M O;subst Y Z d2 d3 d4;refine⟨z,rfl,fun i hi=> ?_⟩;have e:=(r i hi).2;simp only[Lit.wf,Bool.and_eq_true,decide_eq_true_eq] at e;exact e
end Go.Proofs.YtokagbahdkfagaaGreatDoor
