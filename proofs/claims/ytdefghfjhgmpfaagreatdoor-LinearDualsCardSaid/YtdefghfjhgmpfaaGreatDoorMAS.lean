/- Parts of this proof: RText RMinus RPlus ROrder RAdd RMul RDivA. -/
import Derived.Test.YtdefghfjhgmpfaaGreatDoorMAR
import Derived.Test.YtdefghfjhgmpfaaGreatDoorMAC
import Derived.Lib.ConvBytes
import Derived.Test.YtdefghfjhgmpfaaGreatDoorMAF
import Derived.Test.YtdefghfjhgmpfaaGreatDoorMAG
import Derived.Laws.AppendOwnNone
namespace Go.Proofs.YtdefghfjhgmpfaaGreatDoor
open Tryz
section
open Go.RowKit
def bV(c:UInt8):Value:= .int .u8 (c.toNat:Nat)
theorem Gf:(prog.info? 5).map (fun i=>(i.zero,i.size,i.bytes))=some (some (.int .u8 0),1,1):=by kernel_rfl
theorem zK{w:World}{base:Nat}{v:Value}{l:List UInt8}(h:w.ownsRow base 5 1 v l.length (l.map bV)):
  (convert 179 9 v).run prog w= .ok (.string ⟨l.toArray⟩) w:=by
 rcases h.2 with ⟨rfl,r⟩ | ⟨g,cap,E,rfl,_,G,h1,F,M,O⟩
 ·have C:l= []:=by simpa using r
  subst C;rw[run_convert_bytes_string w 179 9 5 none 0 0 underlying179 underlying5 underlying9];rfl
 ·refine run_convert_bytes_back (P:=prog) w 179 9 5 ⟨g,0,none⟩ cap l underlying179 underlying5 underlying9 (fun j t=> ?_);rw[Addr.add_lit,Nat.zero_add,World.ownsRow.cellAt h j oM];simp[t,bV]
theorem Gg(neg:Bool)(n:Nat)(h:0<n):txt (sgn neg n)=⟨((if neg then [45] else [])++ (T.ek n).reverse.map chr).toArray⟩:=by
 unfold txt sgn;rw[xG neg n h]
set_option maxHeartbeats 800000 in
theorem lX(neg:Bool)(v:Value)(l:List Nat)(w:World)(h:IsD w v l)(hd:T.Dig l)(hl:l.length <= 1099511627776):
  Calls prog 97 #[.bool neg,v] w fun e w'=>e= .returned (.string (txt (sgn neg (T.val l)))) /\ Below w.heap.size w w':=by
 obtain⟨i0,ah,aj,ak,al⟩:=info_parts Gf;obtain⟨A,c,rfl,hc,aw,hD⟩:=h;obtain⟨r,a3⟩:=eX (T.ek (T.val l));have ag:=hD.trimmed hd;have af:=(T.qc hd).1;have ae:=T.fF (T.val l);rw[<- a3] at ag af ae;have aA:r.length=0↔T.val l=0:=by rw[a3];exact T.oI
 have HD:=lH hD;have aq:=lH ag;have ao:=lH ae;have a6:=lH a3;have HL:=lH hl;have aE:=lH hd;have HC:=lH hc;have aD:=lH aw;have ar:=lH aA;have ap:=lH af;clear hD ag ae a3 hd aA hl af hc aw;obtain⟨S,hS⟩:=eX (txt (sgn neg (T.val l)));rw[<- hS];have au:=lH hS;clear hS;go_enter func97,ntmps97;go_wp2_with fail
 refine(sW A l.length c l _ rfl HC.o aD.o HD.o aE.o).mono ?_;rintro e w2 ⟨rfl,az,rfl⟩;rw[<- a6.o] at az;rw[<- a6.o];clear az;by_cases hz:r.length=0
 ·have aK:(((r.length:Nat):Int)==0)=true:=by rw[hz];rfl
  have ht:S=⟨#[48]⟩:=by
   rw[au.o,ar.o.1 hz];unfold sgn;cases neg <;> (unfold txt;simp[rJ])
  subst ht;clear hz;go_wp2_with fail
  go_returns;exact⟨rfl,by first | exact Below.refl _ _ | go_grown⟩
 ·have aK:(((r.length:Nat):Int)==0)=false:=by rw[beq_eq_false_iff_ne];omega
  have hp:0<T.val l:=by have:=ar.o;omega
  have ht:=Gg neg (T.val l) hp;rw[<- a6.o, <- au.o] at ht;have HT:=lH ht;have aL:r.length <= 9223372036854775807:=by have:=ap.o;have:=HL.o;omega
  have ax:r.length <= 1099511627776:=by have:=ap.o;have:=HL.o;omega
  have an:=lH ax;clear hz ht hp ax;have aC:r.drop r.length= []:=List.drop_eq_nil_of_le (Nat.le_refl _);have av:=lH aC;clear aC;cases neg
  ·go_wp2_with fail
   have start:∃pre:List UInt8,pre.length <= 1 /\ S=⟨(pre++r.reverse.map chr).toArray⟩ /\ w.ownsRow w.heap.size 5 1 (.slice none 0 0) pre.length (pre.map bV) /\ Below w.heap.size w w:=
    ⟨[],by simp,HT.o,World.ownsRow_nil _ _ _ _,Below.refl _ _⟩
   obtain⟨pre,a2,R,a0,U⟩:=start;have aa:=lH a2;have ab:=lH R;have a8:=lH a0;have a4:=lH U;clear a2 R a0 U
   go_loopw [5,6] (fun ov G wr=>∃j:Nat,j <= r.length /\ G= .int .i64 ((j:Int)-1) /\ Hid (wr.ownsRow w.heap.size 5 1 ov (pre++ (r.drop j).reverse.map chr).length ((pre++ (r.drop j).reverse.map chr).map bV)) /\ Hid (Below w.heap.size w wr)) (fun _ G _=>(intOf G+1).toNat)
   case atStart=>exact⟨r.length,Nat.le_refl _,rfl,lH (by rw[av.o];simpa using a8.o),a4⟩
   case round=>
    obtain⟨j,t,rfl,F,C⟩:=hrel
    rcases j with _ | j
    ·have ad:=zK F.o;rw[List.drop_zero, <- ab.o] at ad;go_wp2_with fail
     go_returns;exact⟨rfl,C.o⟩
    ·have aH:((j:Nat):Int)<(r.length:Nat):=oM
     obtain⟨b,am,hA,ac,V⟩:=Cells.at_ aq.o oM;have aF:=((fw C.o).1 b (am+j) ac).trans (V j oM);have aG:((dg r j:Nat):Int)<10:=by have:=ao.o j;omega
     have Z:(pre++ (r.drop (j+1)).reverse.map chr).length <= 1099511627777:=by
      have:=aa.o;have:=an.o;rw[List.length_append,List.length_map,List.length_reverse,List.length_drop];omega
     have W:(r.drop j).reverse.map chr=(r.drop (j+1)).reverse.map chr++ [chr (dg r j)]:=by
      rw[List.drop_eq_getElem_cons oM,List.reverse_cons,List.map_append,jG oM];rfl
     have a5:=lH W;have M:=lH Z;subst hA;clear V W Z
     go_wp2_with (at_builtin;refine wpList_append_own _ rfl (.tmp 23) (.tmp 30) 179 rfl w.heap.size 5 i0 (.int .u8 0) 1 1 underlying179 ah aj ak al rfl dC _ _ _ rfl (F.o.alloc _) ⟨wr.heap.size,0,none⟩ 1 1 [.int .u8 (48+ ((dg r j:Nat):Int))] rfl rfl ?d1 ?d2 ?d3 ?d4 ?d5 ?_)
     case d1=>
      intro i u t
      rcases i with _ | i
      ·simp at t;subst t;simp[Addr.add]
      ·simp at t
     case d2=>intro u E;simp at E;subst E;rfl
     case d3=>have:=M.o;unfold maxLen;omega
     case d4=>have:=M.o;omega
     case d5=>
      have h1:=C.o.size;have h3:=size_alloc wr (.cells #[.int .u8 (48+ ((dg r j:Nat):Int))] 5);omega
     intro v2 w2 a1 X ai;have a9:=lH a1;have a7:=lH X;clear a1 X ai;go_wp2_with fail
     go_roundw
     case rel=>
      refine⟨j,by omega,by first | rfl | (congr 1;omega),lH ?_,lH ?_⟩
      ·have h0:=a9.o;rw[a5.o, <- List.append_assoc]
       have e2:(Value.int .u8 (48+ ((dg r j:Nat):Int)))=bV (chr (dg r j)):=by
        unfold bV;rw[qh oM];simp
       rw[e2] at h0
       simpa [Nat.add_assoc] using h0
      ·have h1:=(iV wr (.cells #[.int .u8 (48+ ((dg r j:Nat):Int))] 5)).2.2;have O:=C.o.trans (h1.mono C.o.size);refine O.grown a7.o O.size ?_;intro k Y;have:=(F.o.lt k Y).1;omega
     case measure=>exact mZ
  ·go_wp2_with (at_builtin;refine wpList_append_own _ rfl (.tmp 13) (.tmp 14) 179 rfl w.heap.size 5 i0 (.int .u8 0) 1 1 underlying179 ah aj ak al rfl dC _ _ _ rfl (World.ownsRow_nil _ _ _ _) ⟨w.heap.size,0,none⟩ 1 1 [.int .u8 45] rfl rfl ?c1 ?c2 ?c3 ?c4 ?c5 ?_)
   case c1=>
    intro j u t
    rcases j with _ | j
    ·simp at t;subst t;simp[Addr.add]
    ·simp at t
   case c2=>intro u E;simp at E;subst E;rfl
   case c3=>unfold maxLen;omega
   case c4=>omega
   case c5=>simp
   intro v' w1 aB ay aJ
   have start:∃pre:List UInt8,pre.length <= 1 /\ S=⟨(pre++r.reverse.map chr).toArray⟩ /\ w1.ownsRow w.heap.size 5 1 v' pre.length (pre.map bV) /\ Below w.heap.size w w1:=
    ⟨[45],by simp,HT.o,aB,((iV w (.cells #[.int .u8 45] 5)).2.2).grown ay (by simp) (fun k Y=>by simp[Value.ownBlock] at Y)⟩
   clear aB ay aJ;go_wp2_with fail
   obtain⟨pre,a2,R,a0,U⟩:=start;have aa:=lH a2;have ab:=lH R;have a8:=lH a0;have a4:=lH U;clear a2 R a0 U
   go_loopw [5,6] (fun ov G wr=>∃j:Nat,j <= r.length /\ G= .int .i64 ((j:Int)-1) /\ Hid (wr.ownsRow w.heap.size 5 1 ov (pre++ (r.drop j).reverse.map chr).length ((pre++ (r.drop j).reverse.map chr).map bV)) /\ Hid (Below w.heap.size w wr)) (fun _ G _=>(intOf G+1).toNat)
   case atStart=>exact⟨r.length,Nat.le_refl _,rfl,lH (by rw[av.o];simpa using a8.o),a4⟩
   case round=>
    obtain⟨j,t,rfl,F,C⟩:=hrel
    rcases j with _ | j
    ·have ad:=zK F.o;rw[List.drop_zero, <- ab.o] at ad;go_wp2_with fail
     go_returns;exact⟨rfl,C.o⟩
    ·have aH:((j:Nat):Int)<(r.length:Nat):=oM
     obtain⟨b,am,hA,ac,V⟩:=Cells.at_ aq.o oM;have aF:=((fw C.o).1 b (am+j) ac).trans (V j oM);have aG:((dg r j:Nat):Int)<10:=by have:=ao.o j;omega
     have Z:(pre++ (r.drop (j+1)).reverse.map chr).length <= 1099511627777:=by
      have:=aa.o;have:=an.o;rw[List.length_append,List.length_map,List.length_reverse,List.length_drop];omega
     have W:(r.drop j).reverse.map chr=(r.drop (j+1)).reverse.map chr++ [chr (dg r j)]:=by
      rw[List.drop_eq_getElem_cons oM,List.reverse_cons,List.map_append,jG oM];rfl
     have a5:=lH W;have M:=lH Z;subst hA;clear V W Z
     go_wp2_with (at_builtin;refine wpList_append_own _ rfl (.tmp 23) (.tmp 30) 179 rfl w.heap.size 5 i0 (.int .u8 0) 1 1 underlying179 ah aj ak al rfl dC _ _ _ rfl (F.o.alloc _) ⟨wr.heap.size,0,none⟩ 1 1 [.int .u8 (48+ ((dg r j:Nat):Int))] rfl rfl ?d1 ?d2 ?d3 ?d4 ?d5 ?_)
     case d1=>
      intro i u t
      rcases i with _ | i
      ·simp at t;subst t;simp[Addr.add]
      ·simp at t
     case d2=>intro u E;simp at E;subst E;rfl
     case d3=>have:=M.o;unfold maxLen;omega
     case d4=>have:=M.o;omega
     case d5=>
      have h1:=C.o.size;have h3:=size_alloc wr (.cells #[.int .u8 (48+ ((dg r j:Nat):Int))] 5);omega
     intro v2 w2 a1 X ai;have a9:=lH a1;have a7:=lH X;clear a1 X ai;go_wp2_with fail
     go_roundw
     case rel=>
      refine⟨j,by omega,by first | rfl | (congr 1;omega),lH ?_,lH ?_⟩
      ·have h0:=a9.o;rw[a5.o, <- List.append_assoc]
       have e2:(Value.int .u8 (48+ ((dg r j:Nat):Int)))=bV (chr (dg r j)):=by
        unfold bV;rw[qh oM];simp
       rw[e2] at h0
       simpa [Nat.add_assoc] using h0
      ·have h1:=(iV wr (.cells #[.int .u8 (48+ ((dg r j:Nat):Int))] 5)).2.2;have O:=C.o.trans (h1.mono C.o.size);refine O.grown a7.o O.size ?_;intro k Y;have:=(F.o.lt k Y).1;omega
     case measure=>exact mZ
end
section
open Go.RowKit
theorem zL{lo:List Nat}{x:Nat}(h:T.Dig lo)(r:x<10):T.Dig (lo++ [x]):=T.Dig.append h (T.Dig.cons r T.Dig.nil)
theorem Gh{lo r lb:List Nat}{k c c' x:Nat}(t:lo.length=k)(h:T.val (r.take k)+T.BB^k*c=T.val lo+T.val (lb.take k))(C:dg r k+10*c'=x+c+dg lb k):
  T.val (r.take (k+1))+T.BB^ (k+1)*c'=T.val (lo++ [x])+T.val (lb.take (k+1)):=by
 rw[T.val_append,t,T.ib,T.ib,Nat.pow_succ];have e:T.BB^k* (dg r k+10*c')=T.BB^k* (x+c+dg lb k):=by rw[C]
 rw[Nat.mul_add,Nat.mul_add,Nat.mul_add, <- Nat.mul_assoc] at e;simp only[T.val, <- T.ik,Nat.mul_zero,Nat.add_zero] at e ⊢;omega
set_option maxHeartbeats 800000 in
theorem Gi(A B:Option Addr)(ca cb:Nat)(t lb:List Nat)(w:World)(ha:D64 w A t)(hb:D64 w B lb)(a8:T.Dig t)(a9:T.Dig lb)(ac:t.length<1099511627776)(ad:lb.length <= t.length)(ae:T.val lb <= T.val t):
  Calls prog 124 #[.slice A t.length ca, .slice B lb.length cb] w fun e w'=>∃v,e= .returned v /\ iH w.heap.size w' v (T.ek (T.val t-T.val lb)) /\ Below w.heap.size w w':=by
 obtain⟨i0,W,X,Y,Z⟩:=info_parts qR;have an:=lH ae;have am:=lH ad;have aK:t.length <= 9223372036854775807:=oM
 have aL:lb.length <= 9223372036854775807:=oM
 have al:=lH ac;have HA:=lH ha;have HB:=lH hb;have ah:=lH a8;have ai:=lH a9;clear ae ad ac ha hb a8 a9;go_enter func124,ntmps124;go_wp2_with fail
 go_loopw [5,6,7] (fun ov cv iv wr=>∃ (k c:Nat) (lo:List Nat),k <= t.length /\ cv= .int .i64 c /\ iv= .int .i64 k /\ lo.length=k /\ Hid (iC wr w.heap.size 3 ov (lo.map dV)) /\ Hid (T.Dig lo) /\ ((c:Nat):Int) <= 1 /\ Hid (T.val (t.take k)+T.BB^k*c=T.val lo+T.val (lb.take k)) /\ Hid (Below w.heap.size w wr))
  (fun _ _ iv _=>t.length-(intOf iv).toNat)
 case atStart=>exact⟨0,0,[],Nat.zero_le _,rfl,rfl,rfl,lH (iC.nil _ _ _),lH T.Dig.nil,by omega,lH (by simp[T.val]),lH (by first | exact Below.refl _ _ | go_grown)⟩
 case round=>
  obtain⟨k,c,lo,hk,rfl,rfl,af,R,a0,aE,ab,M⟩:=hrel;have O:=lH af;clear af;by_cases aH:((k:Nat):Int)<(t.length:Nat)
  ·obtain⟨b,az,rfl,ar,a6⟩:=Cells.at_ HA.o oM;have aF:=((fw M.o).1 b (az+k) ar).trans (a6 k oM);have aD:((dg t k:Nat):Int)<10:=by have:=ah.o k;omega
   have au:((dg lb k:Nat):Int)<10:=by have:=ai.o k;omega
   clear a6
   have c3:((lo.map dV).length+1 <= maxLen) /\ ((lo.map dV).length+1)*8 <= 140737488355328:=by
    have:=al.o;have:=O.o;rw[List.length_map];unfold maxLen;omega
   have U:=lH c3;clear c3
   have a5:∀ (h:Int) (v':Value) (C:World) (c' x:Nat),h=(x:Nat) -> iC C w.heap.size 3 v' (lo.map dV++ [.int .i64 h]) -> Below w.heap.size wr C -> x<10 -> dg t k+10*c'=x+c+dg lb k ->
     Hid (iC C w.heap.size 3 v' ((lo++ [x]).map dV)) /\ Hid (T.Dig (lo++ [x])) /\ Hid (T.val (t.take (k+1))+T.BB^ (k+1)*c'=T.val (lo++ [x])+T.val (lb.take (k+1))) /\ Hid (Below w.heap.size w C):=by
    intro h v' C c' x hn ay av hx hs;subst hn;refine⟨lH ?_,lH (zL a0.o hx),lH (Gh O.o ab.o hs),lH (M.o.trans av)⟩;rw[List.map_append];exact ay
   have V:=lH a5;clear a5;by_cases aJ:((k:Nat):Int)<(lb.length:Nat)
   ·obtain⟨b2,aA,rfl,ao,a7⟩:=Cells.at_ HB.o oM;have aG:=((fw M.o).1 b2 (aA+k) ao).trans (a7 k oM);clear a7;obtain⟨n1,aM⟩:∃n:Int,((dg t k:Nat):Int)-(c:Nat)=n:=⟨_,rfl⟩
    obtain⟨h,aw⟩:∃n:Int,n1-((dg lb k:Nat):Int)=n:=⟨_,rfl⟩
    have aB: -11<h:=oM
    have aC:h<10:=oM
    have ap: -2<n1:=oM
    have aq:n1<10:=oM
    by_cases ax:h<0
    ·go_wp2_with (at_builtin;refine mX _ rfl (.tmp 35) (.tmp 37) 76 rfl w.heap.size 3 i0 (.int .i64 0) 8 underlying76 W X Y Z rfl _ _ rfl R.o (.int .i64 (h+10)) rfl rfl U.o M.o.size ?_)
     intro v' C G E;have F:=V.o (h+10) v' C 1 (h+10).toNat oM G E oM oM;have r:=lH F;clear G E F;go_wp2_with fail
     go_roundw
     case rel=>exact⟨k+1,1,_,by omega,rfl,by go_num,by rw[List.length_append,O.o];rfl,r.o.1,r.o.2.1,by omega,r.o.2.2.1,r.o.2.2.2⟩
     case measure=>simp[intOf];omega
    ·go_wp2_with (at_builtin;refine mX _ rfl (.tmp 35) (.tmp 37) 76 rfl w.heap.size 3 i0 (.int .i64 0) 8 underlying76 W X Y Z rfl _ _ rfl R.o (.int .i64 h) rfl rfl U.o M.o.size ?_)
     intro v' C G E;have F:=V.o h v' C 0 h.toNat oM G E oM oM;have r:=lH F;clear G E F;go_wp2_with fail
     go_roundw
     case rel=>exact⟨k+1,0,_,by omega,rfl,by go_num,by rw[List.length_append,O.o];rfl,r.o.1,r.o.2.1,by omega,r.o.2.2.1,r.o.2.2.2⟩
     case measure=>simp[intOf];omega
   ·have ag:dg lb k=0:=jm oM;obtain⟨h,aw⟩:∃n:Int,((dg t k:Nat):Int)-(c:Nat)=n:=⟨_,rfl⟩
    have ap: -2<h:=oM
    have aq:h<10:=oM
    have a4:=lH ag;clear ag au;by_cases ax:h<0
    ·go_wp2_with (at_builtin;refine mX _ rfl (.tmp 35) (.tmp 37) 76 rfl w.heap.size 3 i0 (.int .i64 0) 8 underlying76 W X Y Z rfl _ _ rfl R.o (.int .i64 (h+10)) rfl rfl U.o M.o.size ?_)
     intro v' C G E;have F:=V.o (h+10) v' C 1 (h+10).toNat oM G E oM (by have:=a4.o;omega);have r:=lH F;clear G E F;go_wp2_with fail
     go_roundw
     case rel=>exact⟨k+1,1,_,by omega,rfl,by go_num,by rw[List.length_append,O.o];rfl,r.o.1,r.o.2.1,by omega,r.o.2.2.1,r.o.2.2.2⟩
     case measure=>simp[intOf];omega
    ·go_wp2_with (at_builtin;refine mX _ rfl (.tmp 35) (.tmp 37) 76 rfl w.heap.size 3 i0 (.int .i64 0) 8 underlying76 W X Y Z rfl _ _ rfl R.o (.int .i64 h) rfl rfl U.o M.o.size ?_)
     intro v' C G E;have F:=V.o h v' C 0 h.toNat oM G E oM (by have:=a4.o;omega);have r:=lH F;clear G E F;go_wp2_with fail
     go_roundw
     case rel=>exact⟨k+1,0,_,by omega,rfl,by go_num,by rw[List.length_append,O.o];rfl,r.o.1,r.o.2.1,by omega,r.o.2.2.1,r.o.2.2.2⟩
     case measure=>simp[intOf];omega
  ·have a3:k=t.length:=oM
   have a2:=ab.o;rw[a3,T.iF (Nat.le_refl _),T.iF am.o] at a2;have aa:=T.uE (lo:=lo) (c:=c) a0.o an.o oM (by rw[O.o,a3];exact a2);have HO:=lH R.o.fresh;have aj:=lH aa;clear a2 aa a3;go_wp2_with fail
   refine(zI _ _ lo _ HO.o a0.o).mono ?_;rintro e w2 ⟨v3,rfl,a1,rfl⟩;rw[aj.o] at a1;have ak:=lH a1;clear a1;go_wp2_with fail
   go_returns;exact⟨_,rfl,ak.o,M.o⟩
theorem zM(v1 v2:Value)(a b:Nat)(w:World)(h1:IsD w v1 (T.ek a))(C:IsD w v2 (T.ek b))(G:(T.ek a).length<1099511627776)(h:b <= a):
  Calls prog 124 #[v1,v2] w fun e w'=>∃v,e= .returned v /\ iH w.heap.size w' v (T.ek (a-b)) /\ Below w.heap.size w w':=by
 obtain⟨A,r,rfl,_,_,E⟩:=h1;obtain⟨B,t,rfl,_,_,F⟩:=C;have:=Gi A B r t _ _ w E F (T.fF a) (T.fF b) G (T.iO h) (by rw[T.fu,T.fu];exact h);rw[T.fu,T.fu] at this;exact this
theorem zN(v1 v2:Value)(a b:Nat)(w:World)(h1:IsD w v1 (T.ek a))(h:IsD w v2 (T.ek b))(t:(T.ek a).length<1099511627776)(C:b <= a):
  Calls prog 124 #[v1,v2] w fun e w'=>∃v,e= .returned v /\ IsD w' v (T.ek (a-b)) /\ Below w.heap.size w w':=
 (zM v1 v2 a b w h1 h t C).mono fun _ _ ⟨v,h1,h,r⟩=>⟨v,h1,h.isD,r⟩
end
section
open Go.RowKit
theorem Gj{lo r lb:List Nat}{k c s:Nat}(t:lo.length=k)(h:T.val lo+T.BB^k*c=T.val (r.take k)+T.val (lb.take k))(C:s=c+dg r k+dg lb k):
  T.val (lo++ [s%10])+T.BB^ (k+1)* (s / 10)=T.val (r.take (k+1))+T.val (lb.take (k+1)):=by
 rw[T.val_append,t,T.ib,T.ib,Nat.pow_succ];have:=T.jZ (T.BB^k) s;have e:T.BB^k*s=T.BB^k*c+T.BB^k*dg r k+T.BB^k*dg lb k:=by rw[C,Nat.mul_add,Nat.mul_add]
 simp only[T.val,Nat.mul_zero,Nat.add_zero];omega
theorem sZ{n:Int}{s:Nat}(h:n=(s:Nat)):Value.int .i64 (n / 10)= .int .i64 ((s / 10:Nat):Int):=by rw[h];congr 1
set_option maxHeartbeats 1600000 in
theorem Gl(A B:Option Addr)(ca cb:Nat)(r lb:List Nat)(w:World)(ha:D64 w A r)(hb:D64 w B lb)(ag:T.Dig r)(ah:T.Dig lb)(aA:r.length<1099511627776)(aB:lb.length<1099511627776):
  Calls prog 151 #[.slice A r.length ca, .slice B lb.length cb] w fun e w'=>∃v,e= .returned v /\ ∃lr,IsD w' v lr /\ T.Dig lr /\ T.val lr=T.val r+T.val lb /\ lr.length <= max r.length lb.length+1 /\ Below w.heap.size w w':=by
 obtain⟨i0,a2,a3,a4,a5⟩:=info_parts qR;obtain⟨M,hM⟩:=eX (max r.length lb.length);rw[<- hM];have aQ:((r.length:Nat):Int) <= (M:Nat):=oM
 have aR:((lb.length:Nat):Int) <= (M:Nat):=oM
 have aJ:M <= 9223372036854775806:=oM
 have ar:Hid (M<1099511627776):=lH oM;have ae:((M:Nat):Int) <= ((r.length:Nat):Int) \/ ((M:Nat):Int) <= ((lb.length:Nat):Int):=oM
 have aH:=lH ae;have HM:=lH hM;have HA:=lH ha;have HB:=lH hb;have ao:=lH ag;have ap:=lH ah;clear hM aA aB ha hb ag ah ae;go_enter func151,ntmps151;go_wp2_with fail
 go_loopw [5,6,7] (fun ov cv iv wr=>∃ (k c:Nat) (lo:List Nat),((k:Nat):Int) <= (M:Nat)+1 /\ cv= .int .i64 c /\ iv= .int .i64 k /\ lo.length=k /\ Hid (iC wr w.heap.size 3 ov (lo.map dV)) /\ Hid (T.Dig lo) /\ ((c:Nat):Int) <= 1 /\ Hid (M<k -> c=0) /\ Hid (T.val lo+T.BB^k*c=T.val (r.take k)+T.val (lb.take k)) /\ Hid (Below w.heap.size w wr))
  (fun _ _ iv _=>M+1-(intOf iv).toNat)
 case atStart=>exact⟨0,0,[],by omega,rfl,rfl,rfl,lH (iC.nil _ _ _),lH T.Dig.nil,by omega,lH (fun _=>rfl),lH (by simp[T.val]),lH (by first | exact Below.refl _ _ | go_grown)⟩
 case round=>
  obtain⟨k,c,lo,hk,rfl,rfl,ak,a0,ai,aN,ax,aj,V⟩:=hrel;have X:=lH ak;clear ak
  have c3:((lo.map dV).length+1 <= maxLen) /\ ((lo.map dV).length+1)*8 <= 140737488355328:=by
   have:=ar.o;have:=X.o;rw[List.length_map];unfold maxLen;omega
  have C3:=lH c3;clear c3;have aK:((dg r k:Nat):Int)<10:=by have:=ao.o k;omega
  have aL:((dg lb k:Nat):Int)<10:=by have:=ap.o k;omega
  have ad:∀ (C:Int) (v':Value) (E:World),C=((c+dg r k+dg lb k:Nat):Int) -> iC E w.heap.size 3 v' (lo.map dV++ [.int .i64 (C%10)]) -> Below w.heap.size wr E ->
    Hid (iC E w.heap.size 3 v' ((lo++ [(c+dg r k+dg lb k)%10]).map dV)) /\ Hid (T.Dig (lo++ [(c+dg r k+dg lb k)%10])) /\ Hid (M<k+1 -> (c+dg r k+dg lb k) / 10=0) /\ Hid (T.val (lo++ [(c+dg r k+dg lb k)%10])+T.BB^ (k+1)* ((c+dg r k+dg lb k) / 10)=T.val (r.take (k+1))+T.val (lb.take (k+1))) /\ Hid (Below w.heap.size w E):=by
   intro C v' E hn am ay;refine⟨lH ?_,lH (zL ai.o (Nat.mod_lt _ dC)),lH ?_,lH (Gj X.o aj.o rfl),lH (V.o.trans ay)⟩
   ·rw[List.map_append];have e:Value.int .i64 (C%10)=dV ((c+dg r k+dg lb k)%10):=by unfold dV;rw[hn];congr 1
    rw[e] at am;exact am
   ·intro h;have h1:dg r k=0:=jm oM;have h2:dg lb k=0:=jm oM;omega
  have a1:=lH ad;clear ad;by_cases aP:((k:Nat):Int)<(r.length:Nat)
  ·by_cases az:((k:Nat):Int)<(lb.length:Nat)
   ·obtain⟨b,ab,rfl,a8,Y⟩:=Cells.at_ HA.o oM;have av:=((fw V.o).1 b (ab+k) a8).trans (Y k oM);clear Y;obtain⟨b2,ac,rfl,a9,Z⟩:=Cells.at_ HB.o oM;have aw:=((fw V.o).1 b2 (ac+k) a9).trans (Z k oM);clear Z;obtain⟨W,aC⟩:∃n:Int,((c:Nat):Int)+ ((dg r k:Nat):Int)=n:=⟨_,rfl⟩
    obtain⟨C,al⟩:∃n:Int,W+ ((dg lb k:Nat):Int)=n:=⟨_,rfl⟩
    have aD:0 <= W:=oM
    have aE:W <= 10:=oM
    have aF:0 <= C:=oM
    have an:C <= 19:=oM
    have U:C=((c+dg r k+dg lb k:Nat):Int):=oM
    have F:=lH U;clear U
    go_wp2_with (at_builtin;refine mX _ rfl (.tmp 46) (.tmp 49) 76 rfl w.heap.size 3 i0 (.int .i64 0) 8 underlying76 a2 a3 a4 a5 rfl _ _ rfl a0.o (.int .i64 (C%10)) rfl rfl C3.o V.o.size ?_)
    intro v' E R G;have O:=a1.o C v' E F.o R G;have t:=lH O;clear R G O;go_wp2_with fail
    go_roundw
    case rel=>exact⟨k+1,(c+dg r k+dg lb k) / 10,_,by omega,sZ F.o,by go_num,by rw[List.length_append,X.o];rfl,t.o.1,t.o.2.1,by omega,t.o.2.2.1,t.o.2.2.2.1,t.o.2.2.2.2⟩
    case measure=>simp[intOf];omega
   ·obtain⟨b,ab,rfl,a8,Y⟩:=Cells.at_ HA.o oM;have av:=((fw V.o).1 b (ab+k) a8).trans (Y k oM);clear Y;have a7:Hid (dg lb k=0):=lH (jm oM);obtain⟨W,aC⟩:∃n:Int,((c:Nat):Int)+ ((dg r k:Nat):Int)=n:=⟨_,rfl⟩
    have aD:0 <= W:=oM
    have aE:W <= 10:=oM
    have U:W=((c+dg r k+dg lb k:Nat):Int):=by have:=a7.o;omega
    have F:=lH U;clear U
    go_wp2_with (at_builtin;refine mX _ rfl (.tmp 46) (.tmp 49) 76 rfl w.heap.size 3 i0 (.int .i64 0) 8 underlying76 a2 a3 a4 a5 rfl _ _ rfl a0.o (.int .i64 (W%10)) rfl rfl C3.o V.o.size ?_)
    intro v' E R G;have O:=a1.o W v' E F.o R G;have t:=lH O;clear R G O;go_wp2_with fail
    go_roundw
    case rel=>exact⟨k+1,(c+dg r k+dg lb k) / 10,_,by omega,sZ F.o,by go_num,by rw[List.length_append,X.o];rfl,t.o.1,t.o.2.1,by omega,t.o.2.2.1,t.o.2.2.2.1,t.o.2.2.2.2⟩
    case measure=>simp[intOf];omega
  ·by_cases az:((k:Nat):Int)<(lb.length:Nat)
   ·obtain⟨b2,ac,rfl,a9,Z⟩:=Cells.at_ HB.o oM;have aw:=((fw V.o).1 b2 (ac+k) a9).trans (Z k oM);clear Z;have a6:Hid (dg r k=0):=lH (jm oM);obtain⟨C,al⟩:∃n:Int,((c:Nat):Int)+ ((dg lb k:Nat):Int)=n:=⟨_,rfl⟩
    have aF:0 <= C:=oM
    have an:C <= 19:=oM
    have U:C=((c+dg r k+dg lb k:Nat):Int):=by have:=a6.o;omega
    have F:=lH U;clear U
    go_wp2_with (at_builtin;refine mX _ rfl (.tmp 46) (.tmp 49) 76 rfl w.heap.size 3 i0 (.int .i64 0) 8 underlying76 a2 a3 a4 a5 rfl _ _ rfl a0.o (.int .i64 (C%10)) rfl rfl C3.o V.o.size ?_)
    intro v' E R G;have O:=a1.o C v' E F.o R G;have t:=lH O;clear R G O;go_wp2_with fail
    go_roundw
    case rel=>exact⟨k+1,(c+dg r k+dg lb k) / 10,_,by omega,sZ F.o,by go_num,by rw[List.length_append,X.o];rfl,t.o.1,t.o.2.1,by omega,t.o.2.2.1,t.o.2.2.2.1,t.o.2.2.2.2⟩
    case measure=>simp[intOf];omega
   ·by_cases af:c=1
    ·have aO:((k:Nat):Int) <= (M:Nat):=by
      rcases Nat.lt_or_ge M k with h | h
      ·have:=ax.o h;omega
      ·omega
     have aG:=lH af;have a6:Hid (dg r k=0):=lH (jm oM);have a7:Hid (dg lb k=0):=lH (jm oM);obtain⟨C,al⟩:∃n:Int,((c:Nat):Int)=n:=⟨_,rfl⟩
     have aM:(0:Int)<C:=oM
     have an:C <= 19:=oM
     clear af;have U:C=((c+dg r k+dg lb k:Nat):Int):=by have:=a6.o;have:=a7.o;omega
     have F:=lH U;clear U
     go_wp2_with (at_builtin;refine mX _ rfl (.tmp 46) (.tmp 49) 76 rfl w.heap.size 3 i0 (.int .i64 0) 8 underlying76 a2 a3 a4 a5 rfl _ _ rfl a0.o (.int .i64 (C%10)) rfl rfl C3.o V.o.size ?_)
     intro v' E R G;have O:=a1.o C v' E F.o R G;have t:=lH O;clear R G O;go_wp2_with fail
     go_roundw
     case rel=>exact⟨k+1,(c+dg r k+dg lb k) / 10,_,by omega,sZ F.o,by go_num,by rw[List.length_append,X.o];rfl,t.o.1,t.o.2.1,by omega,t.o.2.2.1,t.o.2.2.2.1,t.o.2.2.2.2⟩
     case measure=>simp[intOf];omega
    ·have au:c=0:=oM
     subst au;have aa:=aj.o;rw[T.iF oM,T.iF oM,Nat.mul_zero,Nat.add_zero] at aa;have aq:=lH aa;clear aa;have hd:=a0.o.isD;have HD:=lH hd;clear hd;go_wp2_with fail
     go_returns;exact⟨_,rfl,lo,HD.o,ai.o,aq.o,by have:=X.o;omega,V.o⟩
end
section
open Go.RowKit
theorem Gm(A B:Option Addr)(ca cb:Nat)(h lb:List Nat)(w:World)(ha:D64 w A h)(hb:D64 w B lb)(Y:T.Can h)(Z:T.Can lb)(a9:h.length<17592186044416)(_hlb:lb.length<17592186044416):
  Calls prog 111 #[.slice A h.length ca, .slice B lb.length cb] w fun e w'=>e= .returned (.int .i64 (fM (T.val h) (T.val lb))) /\ gy w w':=by
 have G:=lH Y;have M:=lH Z;clear Y Z;obtain⟨a4,R⟩:=eX (fM (T.val h) (T.val lb));rw[<- R];have t:=lH R;clear R;by_cases C:h.length=lb.length
 ·have a2:(((h.length:Nat):Int) != (lb.length:Nat))=false:=by rw[C];simp
  have r:=lH C;clear C;go_enter func111,ntmps111;go_wp2_with fail
  go_loopw [5] (fun v wr=>∃k:Nat,k <= h.length /\ v= .int .i64 ((k:Int)-1) /\ Hid (∀j,k <= j -> j<h.length -> dg h j=dg lb j) /\ gy w wr) (fun v _=>(intOf v+1).toNat)
  case atStart=>exact⟨h.length,Nat.le_refl _,rfl,fun j h1 W=>absurd h1 oM,gy.refl _⟩
  case round=>
   obtain⟨k,hk,rfl,F,hw⟩:=hrel;obtain⟨m,rfl⟩:=hw
   rcases k with _ | k
   ·go_wp2_with fail
    go_returns;refine⟨?_,gy.mk _ _⟩;have:T.val h=T.val lb:=T.uF r.o (fun j U=>F.o j (Nat.zero_le _) U);rw[t.o,fM,if_neg oM,if_pos this];rfl
   ·obtain⟨b1,aa,rfl,a5,a0⟩:=Cells.at_ ha oM;obtain⟨b2,ab,rfl,a6,a1⟩:=Cells.at_ hb (by have:=r.o;omega);have a7:=a0 k oM;have a8:=a1 k (by have:=r.o;omega);have h1:((k:Nat):Int)<(h.length:Nat):=oM
    have W:((k:Nat):Int)<(lb.length:Nat):=by have:=r.o;omega
    clear a0 a1 a2;by_cases V:dg h k<dg lb k
    ·have O:=lH V;go_wp2_with fail
     go_quiet (fail)
     go_wp2_with fail
     go_returns;refine⟨?_,(gy.mk _ _).step _⟩;have:=T.qg G.o.1 r.o oM (fun j X E=>F.o j oM E) O.o;rw[t.o,fM,if_pos this];rfl
    ·by_cases a3:dg lb k<dg h k
     ·have O:=lH a3;go_wp2_with fail
      go_quiet (fail)
      go_wp2_with fail
      go_quiet (fail)
      go_wp2_with fail
      go_returns;refine⟨?_,((gy.mk _ _).step _).step _⟩;have h7:=r.o;have:=T.qg (k:=k) M.o.1 r.o.symm oM (fun j X E=>(F.o j oM oM).symm) O.o;rw[t.o,fM,if_neg oM,if_neg oM];rfl
     ·have HD:Hid (dg h k=dg lb k):=lH oM;go_wp2_with fail
      go_quiet (fail)
      go_wp2_with fail
      go_quiet (fail)
      go_wp2_with fail
      go_roundw
      case rel=>
       refine⟨k,by omega,rfl,fun j X E=> ?_,gy.mk _ _⟩;by_cases U:j=k
       ·rw[U];exact HD.o
       ·exact F.o j oM E
      case measure=>exact mZ
 ·have r:=lH C;have a2:(((h.length:Nat):Int) != (lb.length:Nat))=true:=by simp;omega
  clear C;by_cases V:h.length<lb.length
  ·go_enter func111,ntmps111;go_wp2_with fail
   go_returns;refine⟨?_,gy.refl _⟩;have:=T.qd G.o.1 M.o V;rw[t.o,fM,if_pos this];rfl
  ·go_enter func111,ntmps111;go_wp2_with fail
   go_returns;refine⟨?_,gy.refl _⟩;have W:=r.o;have:=T.qd M.o.1 G.o oM;rw[t.o,fM,if_neg oM,if_neg oM];rfl
theorem pE(v1 v2:Value)(a b:Nat)(w:World)(h1:IsD w v1 (T.ek a))(t:IsD w v2 (T.ek b))(F:(T.ek a).length<17592186044416)(G:(T.ek b).length<17592186044416):
  Calls prog 111 #[v1,v2] w fun e w'=>e= .returned (.int .i64 (fM a b)) /\ gy w w':=by
 obtain⟨A,h,rfl,_,_,C⟩:=h1;obtain⟨B,r,rfl,_,_,E⟩:=t;have:=Gm A B h r _ _ w C E (T.jY a) (T.jY b) F G;rw[T.fu,T.fu] at this;exact this
end
section
open Go.RowKit
def jM(a:Int):Bool:=decide (sgI a<0)
def tC(a:Int):Bool:=decide (0<sgI a)
theorem nZ{a:Int}:sgI a<0↔a<0:=by unfold sgI;split <;> (try split) <;> omega
theorem Gn{a:Int}:0<sgI a↔0<a:=by unfold sgI;split <;> (try split) <;> omega
theorem kD(a:Int):jM a=decide (a<0):=by unfold jM;simp only[nZ]
theorem Gp(a:Int):tC a=decide (0<a):=by unfold tC;simp only[Gn]
def Few(a:Int):Prop:=(T.ek a.natAbs).length<1000000000
theorem Few.lt{a:Int}(h:Few a):(T.ek a.natAbs).length<1099511627776:=Nat.lt_trans h dC
theorem Few.lt2{a:Int}(h:Few a):(T.ek a.natAbs).length<17592186044416:=Nat.lt_trans h dC
theorem Few.le{a:Int}(h:Few a):(T.ek a.natAbs).length <= 1099511627776:=Nat.le_of_lt h.lt
theorem tF(a:Int)(w:World)(E:Few a):
  Calls prog 60 #[.string (txt a)] w fun e w'=>e= .returned (.string (txt (-a))) /\ Below w.heap.size w w':=by
 have C:=lH E;clear E;obtain⟨S,r⟩:=eX (txt (-a));rw[<- r];have U:=lH r;clear r;go_enter func60,ntmps60;go_wp2_with fail
 refine(iy a _).mono ?_;rintro e W ⟨rfl,rfl⟩;go_wp2_with fail
 refine(jV a _ C.o.lt).mono ?_;rintro e X ⟨v,rfl,O,F⟩;have V:=lH O;have t:=lH F;clear O F;go_wp2_with fail
 refine(lX (tC a) v _ _ V.o (T.fF _) C.o.le).mono ?_;rintro e Y ⟨rfl,G⟩
 have M:txt (sgn (tC a) (T.val (T.ek a.natAbs)))=S:=by
  rw[U.o,T.fu,Gp];congr 1;unfold sgn;by_cases h:0<a
  ·rw[decide_eq_true h];simp;omega
  ·rw[decide_eq_false h];simp;omega
 rw[M];have R:=lH (t.o.trans (G.mono t.o.size));clear M G;go_wp2_with fail
 go_returns;exact⟨rfl,R.o⟩
theorem Gq(a b:Int)(w:World)(ha:Few a)(hb:Few b):
  Calls prog 74 #[.string (txt a), .string (txt b)] w fun e w'=>e= .returned (.int .i64 (gI a b)) /\ Below w.heap.size w w':=by
 have X:=lH ha;have Y:=lH hb;clear ha hb;obtain⟨r,hr⟩:=eX (gI a b);rw[<- hr];have Z:=lH hr;clear hr;by_cases h1:sgI a<sgI b
 ·have e:r= -1:=by
   rw[Z.o];unfold gI;rw[if_pos];unfold sgI at h1;split at h1 <;> split at h1 <;> (try split at h1) <;> (try split at h1) <;> omega
  subst e;go_enter func74,ntmps74;go_wp2_with fail
  refine(iy a _).mono ?_;rintro e E ⟨rfl,rfl⟩;go_wp2_with fail
  refine(iy b _).mono ?_;rintro e E ⟨rfl,rfl⟩;go_wp2_with fail
  go_returns;exact⟨rfl,by first | exact Below.refl _ _ | go_grown⟩
 ·by_cases t:sgI b<sgI a
  ·have e:r=1:=by
    rw[Z.o];unfold gI;rw[if_neg,if_neg]
    ·unfold sgI at t;split at t <;> split at t <;> (try split at t) <;> (try split at t) <;> omega
    ·unfold sgI at t;split at t <;> split at t <;> (try split at t) <;> (try split at t) <;> omega
   subst e;have a6:sgI b <= sgI a:=oM
   clear h1;go_enter func74,ntmps74;go_wp2_with fail
   refine(iy a _).mono ?_;rintro e E ⟨rfl,rfl⟩;go_wp2_with fail
   refine(iy b _).mono ?_;rintro e E ⟨rfl,rfl⟩;go_wp2_with fail
   go_returns;exact⟨rfl,by first | exact Below.refl _ _ | go_grown⟩
  ·have a5:sgI a=sgI b:=oM
   have a4:=lH a5;have a6:sgI b <= sgI a:=oM
   have a7:sgI a <= sgI b:=oM
   clear h1 t a5;by_cases h3:sgI a<0
   ·go_enter func74,ntmps74;go_wp2_with fail
    refine(iy a _).mono ?_;rintro e E ⟨rfl,rfl⟩;go_wp2_with fail
    refine(iy b _).mono ?_;rintro e E ⟨rfl,rfl⟩;go_wp2_with fail
    refine(jV b _ Y.o.lt).mono ?_;rintro e w2 ⟨v1,rfl,V,O⟩;have a1:=lH V;have F:=lH O;clear V O;go_wp2_with fail
    refine(jV a _ X.o.lt).mono ?_;rintro e w3 ⟨v2,rfl,W,R⟩;have a3:=lH W;have G:=lH R;have a2:=lH (a1.o.below G.o);clear W R;go_wp2_with fail
    refine(pE v1 v2 _ _ _ a2.o a3.o Y.o.lt2 X.o.lt2).mono ?_;rintro e w4 ⟨rfl,T⟩
    have U:fM b.natAbs a.natAbs=r:=by
     have h5:a<0:=nZ.1 h3;have h6:b<0:=nZ.1 (by have:=a4.o;omega);rw[Z.o];unfold fM gI;by_cases C:a<b
     ·rw[if_pos oM,if_pos C]
     ·by_cases M:a=b
      ·rw[if_neg oM,if_pos oM,if_neg C,if_pos M]
      ·rw[if_neg oM,if_neg oM,if_neg C,if_neg M]
    rw[U];have a0:=lH ((F.o.trans (G.o.mono F.o.size)).trans (T.below _));clear U T;go_wp2_with fail
    go_returns;exact⟨rfl,a0.o⟩
   ·have a8:0 <= sgI a:=oM
    clear h3;go_enter func74,ntmps74;go_wp2_with fail
    refine(iy a _).mono ?_;rintro e E ⟨rfl,rfl⟩;go_wp2_with fail
    refine(iy b _).mono ?_;rintro e E ⟨rfl,rfl⟩;go_wp2_with fail
    refine(jV a _ X.o.lt).mono ?_;rintro e w2 ⟨v1,rfl,V,O⟩;have a1:=lH V;have F:=lH O;clear V O;go_wp2_with fail
    refine(jV b _ Y.o.lt).mono ?_;rintro e w3 ⟨v2,rfl,W,R⟩;have a3:=lH W;have G:=lH R;have a2:=lH (a1.o.below G.o);clear W R;go_wp2_with fail
    refine(pE v1 v2 _ _ _ a2.o a3.o X.o.lt2 Y.o.lt2).mono ?_;rintro e w4 ⟨rfl,T⟩
    have U:fM a.natAbs b.natAbs=r:=by
     have h5:¬a<0:=fun h=>by have:=nZ.2 h;omega
     have h6:¬b<0:=fun h=>by have:=nZ.2 h;have:=a4.o;omega
     rw[Z.o];unfold fM gI;by_cases C:a<b
     ·rw[if_pos oM,if_pos C]
     ·by_cases M:a=b
      ·rw[if_neg oM,if_pos oM,if_neg C,if_pos M]
      ·rw[if_neg oM,if_neg oM,if_neg C,if_neg M]
    rw[U];have a0:=lH ((F.o.trans (G.o.mono F.o.size)).trans (T.below _));clear U T;go_wp2_with fail
    go_returns;exact⟨rfl,a0.o⟩
theorem tH{s:Bool}{n:Nat}{r:Int}{S:ByteArray}(t:S=txt r)(h:sgn s n=r):txt (sgn s n)=S:=by rw[t,h]
set_option maxHeartbeats 800000 in
theorem vJ(a b:Int)(w:World)(ha:Few a)(hb:Few b):
  Calls prog 126 #[.string (txt a), .string (txt b)] w fun e w'=>e= .returned (.string (txt (a+b))) /\ Below w.heap.size w w':=by
 have O:=lH ha;have R:=lH hb;clear ha hb;obtain⟨S,hS⟩:=eX (txt (a+b));rw[<- hS];have HS:=lH hS;clear hS;go_enter func126,ntmps126;go_wp2_with fail
 refine(jV a _ O.o.lt).mono ?_;rintro e w2 ⟨v1,rfl,ae,a8⟩;have a7:=lH ae;have a1:=lH a8;clear ae a8;go_wp2_with fail
 refine(jV b _ R.o.lt).mono ?_;rintro e w3 ⟨v2,rfl,af,a5⟩;have V:=lH af;have U:=lH (a7.o.below a5);have a0:=lH (a1.o.trans (a5.mono a1.o.size));clear af a5 a7 a1;go_wp2_with fail
 refine(iy a _).mono ?_;rintro e w1 ⟨rfl,rfl⟩;go_wp2_with fail
 refine(iy b _).mono ?_;rintro e w1 ⟨rfl,rfl⟩;by_cases F:jM a=jM b
 ·have al:(decide (sgI a<0)==decide (sgI b<0))=true:=by
   unfold jM at F;rw[F];simp
  have X:=lH F;clear F;go_wp2_with fail
  refine(iy a _).mono ?_;rintro e w1 ⟨rfl,rfl⟩;go_wp2_with fail
  obtain⟨A,ca,rfl,am,ao,ac⟩:=U.o;obtain⟨B,cb,rfl,an,ap,ad⟩:=V.o;refine(Gl A B ca cb _ _ _ ac ad (T.fF _) (T.fF _) O.o.lt R.o.lt).mono ?_;rintro e w4 ⟨v3,rfl,lr,G,aa,ag,ab,a9⟩;have Y:=lH G;have ah:=lH aa;have aj:=lH ag;have ai:=lH ab;have C:=lH (a0.o.trans (a9.mono a0.o.size));clear G aa ag ab a9 ac ad;go_wp2_with fail
  refine(lX (jM a) v3 lr _ Y.o ah.o (by have:=ai.o;have h1:=O.o;have r:=R.o;unfold Few at h1 r;omega)).mono ?_;rintro e w5 ⟨rfl,E⟩;have M:=lH (C.o.trans (E.mono C.o.size))
  rw[tH HS.o (by
   rw[aj.o,T.fu,T.fu];have h1:=X.o;rw[kD,kD] at h1;rw[kD];unfold sgn;by_cases r:a<0
   ·rw[decide_eq_true r] at h1 ⊢;have:b<0:=of_decide_eq_true h1.symm;simp;omega
   ·rw[decide_eq_false r] at h1 ⊢;have:¬b<0:=of_decide_eq_false h1.symm
    simp;omega)]
  clear E;go_wp2_with fail
  go_returns;exact⟨rfl,M.o⟩
 ·have al:(decide (sgI a<0)==decide (sgI b<0))=false:=by
   unfold jM at F;rw[beq_eq_false_iff_ne];exact F
  have X:=lH F;clear F;have aq:Hid (jM a=jM b -> False):=lH X.o;by_cases a6:b.natAbs <= a.natAbs
  ·have ak:(0:Int) <= fM a.natAbs b.natAbs:=by unfold fM;split <;> (try split) <;> omega
   have W:=lH a6;clear a6;go_wp2_with fail
   refine(pE v1 v2 _ _ _ U.o V.o O.o.lt2 R.o.lt2).mono ?_;rintro e w4 ⟨rfl,t⟩;have C:=lH (a0.o.trans (t.below _));have a3:=lH (U.o.below (t.below _));have a4:=lH (V.o.below (t.below _));clear t U V;go_wp2_with fail
   refine(iy a _).mono ?_;rintro e w1 ⟨rfl,rfl⟩;go_wp2_with fail
   refine(zN v1 v2 _ _ _ a3.o a4.o O.o.lt W.o).mono ?_;rintro e w5 ⟨v3,rfl,G,E⟩;have Y:=lH G;have M:=lH (C.o.trans (E.mono C.o.size));clear G E;go_wp2_with fail
   refine(lX (jM a) v3 _ _ Y.o (T.fF _) (Nat.le_trans (T.iO (Nat.sub_le _ _)) O.o.le)).mono ?_;rintro e w6 ⟨rfl,Z⟩;have a2:=lH (M.o.trans (Z.mono M.o.size))
   rw[tH HS.o (by
    rw[T.fu];have h1:=X.o;have h3:=W.o;rw[kD,kD] at h1;rw[kD];unfold sgn;by_cases r:a<0
    ·rw[decide_eq_true r] at h1 ⊢;have:¬b<0:=fun h=>h1 (decide_eq_true h).symm
     simp;omega
    ·rw[decide_eq_false r] at h1 ⊢
     have:b<0:=by
      rcases Int.lt_or_le b 0 with h | h
      ·exact h
      ·exact absurd (decide_eq_false oM).symm h1
     simp;omega)]
   clear Z;go_wp2_with fail
   go_returns;exact⟨rfl,a2.o⟩
  ·have ak:fM a.natAbs b.natAbs<(0:Int):=by unfold fM;split <;> (try split) <;> omega
   have W:Hid (a.natAbs <= b.natAbs):=lH oM;clear a6;go_wp2_with fail
   refine(pE v1 v2 _ _ _ U.o V.o O.o.lt2 R.o.lt2).mono ?_;rintro e w4 ⟨rfl,t⟩;have C:=lH (a0.o.trans (t.below _));have a3:=lH (U.o.below (t.below _));have a4:=lH (V.o.below (t.below _));clear t U V;go_wp2_with fail
   refine(iy b _).mono ?_;rintro e w1 ⟨rfl,rfl⟩;go_wp2_with fail
   refine(zN v2 v1 _ _ _ a4.o a3.o R.o.lt W.o).mono ?_;rintro e w5 ⟨v3,rfl,G,E⟩;have Y:=lH G;have M:=lH (C.o.trans (E.mono C.o.size));clear G E;go_wp2_with fail
   refine(lX (jM b) v3 _ _ Y.o (T.fF _) (Nat.le_trans (T.iO (Nat.sub_le _ _)) R.o.le)).mono ?_;rintro e w6 ⟨rfl,Z⟩;have a2:=lH (M.o.trans (Z.mono M.o.size))
   rw[tH HS.o (by
    rw[T.fu];have h1:=X.o;have h3:=W.o;rw[kD,kD] at h1;rw[kD];unfold sgn;by_cases r:b<0
    ·rw[decide_eq_true r] at h1 ⊢;have:¬a<0:=fun h=>h1 (decide_eq_true h)
     simp;omega
    ·rw[decide_eq_false r] at h1 ⊢
     have:a<0:=by
      rcases Int.lt_or_le a 0 with h | h
      ·exact h
      ·exact absurd (decide_eq_false oM) h1
     simp;omega)]
   clear Z;go_wp2_with fail
   go_returns;exact⟨rfl,a2.o⟩
theorem Gr{a:Int}(h:Few a):Few (-a):=by unfold Few at*;rw[Int.natAbs_neg];exact h
theorem Gs(a b:Int)(w:World)(C:Few a)(E:Few b):
  Calls prog 125 #[.string (txt a), .string (txt b)] w fun e w'=>e= .returned (.string (txt (a-b))) /\ Below w.heap.size w w':=by
 have O:=lH C;have t:=lH E;clear C E;obtain⟨S,h⟩:=eX (txt (a-b));rw[<- h];have R:=lH h;clear h;go_enter func125,ntmps125;go_wp2_with fail
 refine(tF b _ t.o).mono ?_;rintro e T ⟨rfl,F⟩;have r:=lH F;clear F;go_wp2_with fail
 refine(vJ a (-b) _ O.o (Gr t.o)).mono ?_;rintro e U ⟨rfl,G⟩;have M:=lH (r.o.trans (G.mono r.o.size));rw[show txt (a+ -b)=S by rw[R.o,Int.sub_eq_add_neg]];clear G;go_wp2_with fail
 go_returns;exact⟨rfl,M.o⟩
end
section
open Go.RowKit
def gM(w:World)(g:Nat)(l:List Nat):Prop:=Row w g 3 (l.map dV)
section
variable {w w':World} {g:Nat} {l:List Nat}
theorem gM.lt(h:gM w g l):g<w.heap.size:=Row.lt h
theorem gM.cell(h:gM w g l){j:Nat}(r:j<l.length): w.cell? ⟨g,j,none⟩=some (.int .i64 (dg l j:Nat)):=by
 rw[Row.cell h];exact sV r
theorem gM.free(h:gM w g l)(j:Nat): w.frozen? ⟨g,j,none⟩=false:=Row.free h j
theorem gM.set(h:gM w g l)(j x:Nat){v:Value}(r:v= .int .i64 (x:Nat)):gM (w.setCell ⟨g,j,none⟩ v) g (l.set j x):=by
 subst r;have:=Row.set h j (dV x);unfold gM;rw[List.map_set];exact this
theorem gM.drewN(h:gM w g l)(n:Nat):gM (w.drewN n) g l:=h
theorem gM.below(h:gM w g l){B:Nat}(r:Below B w w')(t:g<B):gM w' g l:=Row.below h r t
theorem gM.made{n:Nat}(h:Row w g 3 (List.replicate n (Value.int .i64 0))):gM w g (List.replicate n 0):=by
 unfold gM;rw[List.map_replicate];exact h
theorem gM.isD(h:gM w g l){n:Nat}(C:n=l.length)(t:n <= maxLen):IsD w (.slice (some ⟨g,0,none⟩) n n) l:=by
 subst C;refine⟨_,_,rfl,Nat.le_refl _,t,?_⟩;exact .inr ⟨g,0,rfl,fun j r=>by rw[Nat.zero_add];exact h.cell r,_,_,_,h,fun z E=>by simp at E⟩
end
theorem Gt{l:List Nat}{n j:Nat}(h:T.val l<T.BB^n)(t:n <= j):dg l j=0:=by
 rcases Nat.lt_or_ge j l.length with h1 | h1
 ·have C:=T.oK l j 0 h1;have E:T.BB^n <= T.BB^j:=Nat.pow_le_pow_right dC t
  rcases Nat.eq_zero_or_pos (dg l j) with r | r
  ·exact r
  ·have:=Nat.le_mul_of_pos_right (T.BB^j) r;omega
 ·exact jm h1
theorem zO{lo r lb:List Nat}{i k c x s V:Nat}(C:i+k<r.length)(h:T.val r+T.BB^ (i+k)*c=V+T.BB^i* (x*T.val (lb.take k)))(E:s=dg r (i+k)+c+x*dg lb k)
  (t:∀j,i+k <= j -> dg r j=dg lo j):
  T.val (r.set (i+k) (s%10))+T.BB^ (i+ (k+1))* (s / 10)=V+T.BB^i* (x*T.val (lb.take (k+1))) /\ (∀j,i+ (k+1) <= j -> dg (r.set (i+k) (s%10)) j=dg lo j):=by
 refine⟨T.uG C h (by rw[E];omega),fun j F=> ?_⟩;rw[iB,if_neg oM];exact t j oM
theorem zP(a b:Int): -1 <= sgI a*sgI b /\ sgI a*sgI b <= 1 /\ sgn (decide (sgI a*sgI b<0)) (a.natAbs*b.natAbs)=a*b:=by
 obtain⟨n,rfl | rfl⟩:=Int.eq_nat_or_neg a <;> obtain⟨m,rfl | rfl⟩:=Int.eq_nat_or_neg b <;>
  rcases Nat.eq_zero_or_pos n with h | h <;> rcases Nat.eq_zero_or_pos m with r | r <;> simp[sgn,sgI,h,r,Int.natAbs_neg,Int.mul_neg,Int.neg_mul] <;> (try split) <;> (try split) <;> (try split) <;> (try split) <;> (try simp) <;> omega
def gu(a:Int):Prop:=(T.ek a.natAbs).length<100000000
theorem gu.few{a:Int}(h:gu a):Few a:=Nat.lt_trans h dC
end
section
open Go.RowKit
theorem Gu(w:World)(e:TypeId)(x:Value):(w.alloc (.cells #[x] e)).ownsRow w.heap.size e 1 (.slice (some ⟨w.heap.size,0,none⟩) 1 1) 1 [x]:=
 ⟨rfl, .inr ⟨w.heap.size,1, #[x],rfl,Nat.le_refl _,heap_alloc_new w _,Nat.le_refl _,by unfold maxLen;omega,rfl,rfl⟩⟩
theorem Gv{P:Program}(w:World){ops:Array Oper}{rest:List Oper}{o:Oper}{a:Act}{Q:Exit -> Act -> World -> Prop}(O:o.guard=none)(s x:Operand)(t:TypeId)
  (V:o.op= .call {callee:= .builtin .append,args:= #[s,x],argTypes:= #[t,t]})
  (e:TypeId) (i:TypeInfo) (z:Value) (E:Nat) (X:P.underlying t=some (.slice e)) (R: P.info? e=some i) (hz:i.zero=some z)
  (a4:i.size=1) (a1:i.bytes=E) (a5:z.cells.size=1)
  (u:Value) (W:a.eval s= .slice (some ⟨w.heap.size,0,none⟩) 1 1)
  (B:Nat) (v:Value) (l:List Nat) (hf:iH B w v l) (Y:a.eval x=v) (U:1+l.length <= maxLen /\ (1+l.length)*E <= 140737488355328)
  (h:∀v' w',iC w' w.heap.size e v' (u::l.map dV) -> Below w.heap.size w w' -> wpList P ops Q rest (a.put o.dst v') w'):wpList P ops Q (o::rest) a (w.alloc (.cells #[u] e)):=by
 have r:=(iV w (.cells #[u] e)).2.2;have F:=Gu w e u
 rcases hf with ⟨rfl,rfl⟩ | ⟨b,a0,c,rfl,h0,h4,h1,h2,G⟩
 ·refine wpList_append_own_none O s x t V w.heap.size e i 1 X R _ 1 [u] W F Y ?_;exact h _ _ F r
 ·refine wpList_append_own _ O s x t V w.heap.size e i z 1 E X R hz a4 a1 a5 dC _ 1 [u] W F ⟨b,a0,none⟩ l.length c (l.map dV) Y (by simp) ?_ ?_ U.1 U.2 (by simp) ?_
  ·intro j y C;have T:j<l.length:=by have:=(List.getElem?_eq_some_iff.1 C).1;simpa using this
   rw[sV T] at C;simp only[Option.some.injEq] at C;subst C;rw[Addr.add_lit]
   rcases G with G | ⟨b',a6,M,hc,_⟩
   ·omega
   ·simp only[Option.some.injEq,Addr.mk.injEq,and_true] at M;obtain⟨rfl,rfl⟩:=M;exact(r.cell (p:=⟨b,a0+j,none⟩) h4).trans (hc j T)
  ·intro y Z;rw[List.mem_map] at Z;obtain⟨d,_,rfl⟩:=Z;rfl
  ·intro v' w' a3 a2 _;refine h v' w' ?_ (r.grown a2 r.size (fun k hk=> ?_))
   ·unfold iC;rw[List.length_cons,List.length_map,Nat.add_comm];exact a3
   ·simp[Value.ownBlock] at hk;omega
theorem Gw{lo t:List Nat}{j b C q r:Nat}(E:j<t.length)(F:lo.length=t.length)(h:T.val (t.drop (j+1))=b*T.val (lo.drop (j+1))+C)(G:b*q+r=dg t j+10*C):
  T.val (t.drop j)=b*T.val ((lo.set j q).drop j)+r:=by
 rw[T.kP _ _ E,T.oJ _ _ _ oM,h];simp only[T.ik];rw[Nat.mul_add,Nat.mul_add,Nat.mul_left_comm b 10];omega
theorem Gx(d:Nat)(n:Nat):T.val (d::T.ek n)=d+10*n:=by rw[T.val,T.fu];rfl
theorem Gy{a b:Int}(E:b≠0)(p:Int)(F:sgI a*sgI b=p):sgn (decide (p<0)) (a.natAbs / b.natAbs)=sgn (decide (a<0) !=decide (b<0)) (a.natAbs / b.natAbs):=by
 subst F;by_cases h:a=0
 ·subst h;simp[sgn]
 ·congr 1;have h1:sgI a=if a<0 then -1 else 1:=by unfold sgI;rw[if_neg h]
  have r:sgI b=if b<0 then -1 else 1:=by unfold sgI;rw[if_neg E]
  rw[h1,r];by_cases t:a<0 <;> by_cases C:b<0 <;> simp[t,C]
end
end Go.Proofs.YtdefghfjhgmpfaaGreatDoor
