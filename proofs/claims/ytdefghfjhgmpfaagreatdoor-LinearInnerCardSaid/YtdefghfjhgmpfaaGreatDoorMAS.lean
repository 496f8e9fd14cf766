/- Parts of this proof: RText RMinus RPlus ROrder RAdd RMul RDivA. -/
import Derived.Test.YtdefghfjhgmpfaaGreatDoorMAR
import Derived.Test.YtdefghfjhgmpfaaGreatDoorMAC
import Derived.Lib.ConvBytes
import Derived.Test.YtdefghfjhgmpfaaGreatDoorMAF
import Derived.Test.YtdefghfjhgmpfaaGreatDoorMAG
import Derived.Laws.AppendOwnNone
namespace Go.Proofs.YtdefghfjhgmpfaaGreatDoor
open Tryz
section
open Go.RowKit
def bV(c:UInt8):Value:= .int .u8 (c.toNat:Nat)
theorem Gf:(prog.info? 5).map (fun i=>(i.zero,i.size,i.bytes))=some (some (.int .u8 0),1,1):=by kernel_rfl
theorem zK{w:World}{base:Nat}{v:Value}{l:List UInt8}(h:w.ownsRow base 5 1 v l.length (l.map bV)):
  (convert 179 9 v).run prog w= .ok (.string ⟨l.toArray⟩) w:=by
 rcases h.2 with ⟨rfl,t⟩ | ⟨g,cap,G,rfl,_,O,h1,M,R,T⟩
 ·have F:l= []:=by simpa using t
  subst F;rw[run_convert_bytes_string w 179 9 5 none 0 0 underlying179 underlying5 underlying9];rfl
 ·refine run_convert_bytes_back (P:=prog) w 179 9 5 ⟨g,0,none⟩ cap l underlying179 underlying5 underlying9 (fun j E=> ?_);rw[Addr.add_lit,Nat.zero_add,World.ownsRow.cellAt h j oM];simp[E,bV]
theorem Gg(neg:Bool)(n:Nat)(h:0<n):txt (sgn neg n)=⟨((if neg then [45] else [])++ (T.ek n).reverse.map chr).toArray⟩:=by
 unfold txt sgn;rw[xG neg n h]
set_option maxHeartbeats 800000 in
theorem lX(neg:Bool)(v:Value)(l:List Nat)(w:World)(h:IsD w v l)(hd:T.Dig l)(hl:l.length <= 1099511627776):
  Calls prog 97 #[.bool neg,v] w fun e w'=>e= .returned (.string (txt (sgn neg (T.val l)))) /\ Below w.heap.size w w':=by
 obtain⟨i0,ak,am,an,ao⟩:=info_parts Gf;obtain⟨A,c,rfl,hc,az,hD⟩:=h;obtain⟨t,a6⟩:=eX (T.ek (T.val l));have aj:=hD.trimmed hd;have ai:=(T.qc hd).1;have ah:=T.fF (T.val l);rw[<- a6] at aj ai ah;have aD:t.length=0↔T.val l=0:=by rw[a6];exact T.oI
 have HD:=lH hD;have av:=lH aj;have ar:=lH ah;have a9:=lH a6;have HL:=lH hl;have aH:=lH hd;have HC:=lH hc;have aG:=lH az;have aw:=lH aD;have au:=lH ai;clear hD aj ah a6 hd aD hl ai hc az;obtain⟨S,hS⟩:=eX (txt (sgn neg (T.val l)));rw[<- hS];have ax:=lH hS;clear hS;go_enter func97,ntmps97;go_wp2_with fail
 refine(sW A l.length c l _ rfl HC.o aG.o HD.o aH.o).mono ?_;rintro e w2 ⟨rfl,aC,rfl⟩;rw[<- a9.o] at aC;rw[<- a9.o];clear aC;by_cases hz:t.length=0
 ·have aN:(((t.length:Nat):Int)==0)=true:=by rw[hz];rfl
  have ht:S=⟨#[48]⟩:=by
   rw[ax.o,aw.o.1 hz];unfold sgn;cases neg <;> (unfold txt;simp[rJ])
  subst ht;clear hz;go_wp2_with fail
  go_returns;exact⟨rfl,by first | exact Below.refl _ _ | go_grown⟩
 ·have aN:(((t.length:Nat):Int)==0)=false:=by rw[beq_eq_false_iff_ne];omega
  have hp:0<T.val l:=by have:=aw.o;omega
  have ht:=Gg neg (T.val l) hp;rw[<- a9.o, <- ax.o] at ht;have HT:=lH ht;have aO:t.length <= 9223372036854775807:=by have:=au.o;have:=HL.o;omega
  have aA:t.length <= 1099511627776:=by have:=au.o;have:=HL.o;omega
  have aq:=lH aA;clear hz ht hp aA;have aF:t.drop t.length= []:=List.drop_eq_nil_of_le (Nat.le_refl _);have ay:=lH aF;clear aF;cases neg
  ·go_wp2_with fail
   have start:∃pre:List UInt8,pre.length <= 1 /\ S=⟨(pre++t.reverse.map chr).toArray⟩ /\ w.ownsRow w.heap.size 5 1 (.slice none 0 0) pre.length (pre.map bV) /\ Below w.heap.size w w:=
    ⟨[],by simp,HT.o,World.ownsRow_nil _ _ _ _,Below.refl _ _⟩
   obtain⟨pre,a5,X,a3,Y⟩:=start;have ad:=lH a5;have ae:=lH X;have ab:=lH a3;have a7:=lH Y;clear a5 X a3 Y
   go_loopw [5,6] (fun ov O wr=>∃j:Nat,j <= t.length /\ O= .int .i64 ((j:Int)-1) /\ Hid (wr.ownsRow w.heap.size 5 1 ov (pre++ (t.drop j).reverse.map chr).length ((pre++ (t.drop j).reverse.map chr).map bV)) /\ Hid (Below w.heap.size w wr)) (fun _ O _=>(intOf O+1).toNat)
   case atStart=>exact⟨t.length,Nat.le_refl _,rfl,lH (by rw[ay.o];simpa using ab.o),a7⟩
   case round=>
    obtain⟨j,E,rfl,M,F⟩:=hrel
    rcases j with _ | j
    ·have ag:=zK M.o;rw[List.drop_zero, <- ae.o] at ag;go_wp2_with fail
     go_returns;exact⟨rfl,F.o⟩
    ·have aL:((j:Nat):Int)<(t.length:Nat):=oM
     obtain⟨b,ap,hA,af,Z⟩:=Cells.at_ av.o oM;have aJ:=((fw F.o).1 b (ap+j) af).trans (Z j oM);have aK:((dg t j:Nat):Int)<10:=by have:=ar.o j;omega
     have a2:(pre++ (t.drop (j+1)).reverse.map chr).length <= 1099511627777:=by
      have:=ad.o;have:=aq.o;rw[List.length_append,List.length_map,List.length_reverse,List.length_drop];omega
     have a0:(t.drop j).reverse.map chr=(t.drop (j+1)).reverse.map chr++ [chr (dg t j)]:=by
      rw[List.drop_eq_getElem_cons oM,List.reverse_cons,List.map_append,jG oM];rfl
     have a8:=lH a0;have R:=lH a2;subst hA;clear Z a0 a2
     go_wp2_with (at_builtin;refine wpList_append_own _ rfl (.tmp 23) (.tmp 30) 179 rfl w.heap.size 5 i0 (.int .u8 0) 1 1 underlying179 ak am an ao rfl dC _ _ _ rfl (M.o.alloc _) ⟨wr.heap.size,0,none⟩ 1 1 [.int .u8 (48+ ((dg t j:Nat):Int))] rfl rfl ?d1 ?d2 ?d3 ?d4 ?d5 ?_)
     case d1=>
      intro i u E
      rcases i with _ | i
      ·simp at E;subst E;simp[Addr.add]
      ·simp at E
     case d2=>intro u G;simp at G;subst G;rfl
     case d3=>have:=R.o;unfold maxLen;omega
     case d4=>have:=R.o;omega
     case d5=>
      have h1:=F.o.size;have h3:=size_alloc wr (.cells #[.int .u8 (48+ ((dg t j:Nat):Int))] 5);omega
     intro v2 w2 a4 a1 al;have ac:=lH a4;have aa:=lH a1;clear a4 a1 al;go_wp2_with fail
     go_roundw
     case rel=>
      refine⟨j,by omega,by first | rfl | (congr 1;omega),lH ?_,lH ?_⟩
      ·have h0:=ac.o;rw[a8.o, <- List.append_assoc]
       have e2:(Value.int .u8 (48+ ((dg t j:Nat):Int)))=bV (chr (dg t j)):=by
        unfold bV;rw[qh oM];simp
       rw[e2] at h0
       simpa [Nat.add_assoc] using h0
      ·have h1:=(iV wr (.cells #[.int .u8 (48+ ((dg t j:Nat):Int))] 5)).2.2;have U:=F.o.trans (h1.mono F.o.size);refine U.grown aa.o U.size ?_;intro k hk;have:=(M.o.lt k hk).1;omega
     case measure=>exact mZ
  ·go_wp2_with (at_builtin;refine wpList_append_own _ rfl (.tmp 13) (.tmp 14) 179 rfl w.heap.size 5 i0 (.int .u8 0) 1 1 underlying179 ak am an ao rfl dC _ _ _ rfl (World.ownsRow_nil _ _ _ _) ⟨w.heap.size,0,none⟩ 1 1 [.int .u8 45] rfl rfl ?c1 ?c2 ?c3 ?c4 ?c5 ?_)
   case c1=>
    intro j u E
    rcases j with _ | j
    ·simp at E;subst E;simp[Addr.add]
    ·simp at E
   case c2=>intro u G;simp at G;subst G;rfl
   case c3=>unfold maxLen;omega
   case c4=>omega
   case c5=>simp
   intro v' w1 aE aB aM
   have start:∃pre:List UInt8,pre.length <= 1 /\ S=⟨(pre++t.reverse.map chr).toArray⟩ /\ w1.ownsRow w.heap.size 5 1 v' pre.length (pre.map bV) /\ Below w.heap.size w w1:=
    ⟨[45],by simp,HT.o,aE,((iV w (.cells #[.int .u8 45] 5)).2.2).grown aB (by simp) (fun k hk=>by simp[Value.ownBlock] at hk)⟩
   clear aE aB aM;go_wp2_with fail
   obtain⟨pre,a5,X,a3,Y⟩:=start;have ad:=lH a5;have ae:=lH X;have ab:=lH a3;have a7:=lH Y;clear a5 X a3 Y
   go_loopw [5,6] (fun ov O wr=>∃j:Nat,j <= t.length /\ O= .int .i64 ((j:Int)-1) /\ Hid (wr.ownsRow w.heap.size 5 1 ov (pre++ (t.drop j).reverse.map chr).length ((pre++ (t.drop j).reverse.map chr).map bV)) /\ Hid (Below w.heap.size w wr)) (fun _ O _=>(intOf O+1).toNat)
   case atStart=>exact⟨t.length,Nat.le_refl _,rfl,lH (by rw[ay.o];simpa using ab.o),a7⟩
   case round=>
    obtain⟨j,E,rfl,M,F⟩:=hrel
    rcases j with _ | j
    ·have ag:=zK M.o;rw[List.drop_zero, <- ae.o] at ag;go_wp2_with fail
     go_returns;exact⟨rfl,F.o⟩
    ·have aL:((j:Nat):Int)<(t.length:Nat):=oM
     obtain⟨b,ap,hA,af,Z⟩:=Cells.at_ av.o oM;have aJ:=((fw F.o).1 b (ap+j) af).trans (Z j oM);have aK:((dg t j:Nat):Int)<10:=by have:=ar.o j;omega
     have a2:(pre++ (t.drop (j+1)).reverse.map chr).length <= 1099511627777:=by
      have:=ad.o;have:=aq.o;rw[List.length_append,List.length_map,List.length_reverse,List.length_drop];omega
     have a0:(t.drop j).reverse.map chr=(t.drop (j+1)).reverse.map chr++ [chr (dg t j)]:=by
      rw[List.drop_eq_getElem_cons oM,List.reverse_cons,List.map_append,jG oM];rfl
     have a8:=lH a0;have R:=lH a2;subst hA;clear Z a0 a2
     go_wp2_with (at_builtin;refine wpList_append_own _ rfl (.tmp 23) (.tmp 30) 179 rfl w.heap.size 5 i0 (.int .u8 0) 1 1 underlying179 ak am an ao rfl dC _ _ _ rfl (M.o.alloc _) ⟨wr.heap.size,0,none⟩ 1 1 [.int .u8 (48+ ((dg t j:Nat):Int))] rfl rfl ?d1 ?d2 ?d3 ?d4 ?d5 ?_)
     case d1=>
      intro i u E
      rcases i with _ | i
      ·simp at E;subst E;simp[Addr.add]
      ·simp at E
     case d2=>intro u G;simp at G;subst G;rfl
     case d3=>have:=R.o;unfold maxLen;omega
     case d4=>have:=R.o;omega
     case d5=>
      have h1:=F.o.size;have h3:=size_alloc wr (.cells #[.int .u8 (48+ ((dg t j:Nat):Int))] 5);omega
     intro v2 w2 a4 a1 al;have ac:=lH a4;have aa:=lH a1;clear a4 a1 al;go_wp2_with fail
     go_roundw
     case rel=>
      refine⟨j,by omega,by first | rfl | (congr 1;omega),lH ?_,lH ?_⟩
      ·have h0:=ac.o;rw[a8.o, <- List.append_assoc]
       have e2:(Value.int .u8 (48+ ((dg t j:Nat):Int)))=bV (chr (dg t j)):=by
        unfold bV;rw[qh oM];simp
       rw[e2] at h0
       simpa [Nat.add_assoc] using h0
      ·have h1:=(iV wr (.cells #[.int .u8 (48+ ((dg t j:Nat):Int))] 5)).2.2;have U:=F.o.trans (h1.mono F.o.size);refine U.grown aa.o U.size ?_;intro k hk;have:=(M.o.lt k hk).1;omega
     case measure=>exact mZ
end
section
open Go.RowKit
theorem zL{lo:List Nat}{x:Nat}(h:T.Dig lo)(t:x<10):T.Dig (lo++ [x]):=T.Dig.append h (T.Dig.cons t T.Dig.nil)
theorem Gh{lo t lb:List Nat}{k c c' x:Nat}(E:lo.length=k)(h:T.val (t.take k)+T.BB^k*c=T.val lo+T.val (lb.take k))(F:dg t k+10*c'=x+c+dg lb k):
  T.val (t.take (k+1))+T.BB^ (k+1)*c'=T.val (lo++ [x])+T.val (lb.take (k+1)):=by
 rw[T.val_append,E,T.ib,T.ib,Nat.pow_succ];have e:T.BB^k* (dg t k+10*c')=T.BB^k* (x+c+dg lb k):=by rw[F]
 rw[Nat.mul_add,Nat.mul_add,Nat.mul_add, <- Nat.mul_assoc] at e;simp only[T.val, <- T.ik,Nat.mul_zero,Nat.add_zero] at e ⊢;omega
set_option maxHeartbeats 800000 in
theorem Gi(A B:Option Addr)(ca cb:Nat)(E lb:List Nat)(w:World)(ha:D64 w A E)(hb:D64 w B lb)(ac:T.Dig E)(ad:T.Dig lb)(ag:E.length<1099511627776)(ah:lb.length <= E.length)(ai:T.val lb <= T.val E):
  Calls prog 124 #[.slice A E.length ca, .slice B lb.length cb] w fun e w'=>∃v,e= .returned v /\ iH w.heap.size w' v (T.ek (T.val E-T.val lb)) /\ Below w.heap.size w w':=by
 obtain⟨i0,a0,a1,a2,a3⟩:=info_parts qR;have ar:=lH ai;have aq:=lH ah;have aO:E.length <= 9223372036854775807:=oM
 have aP:lb.length <= 9223372036854775807:=oM
 have ap:=lH ag;have HA:=lH ha;have HB:=lH hb;have al:=lH ac;have am:=lH ad;clear ai ah ag ha hb ac ad;go_enter func124,ntmps124;go_wp2_with fail
 go_loopw [5,6,7] (fun ov cv iv wr=>∃ (k c:Nat) (lo:List Nat),k <= E.length /\ cv= .int .i64 c /\ iv= .int .i64 k /\ lo.length=k /\ Hid (iC wr w.heap.size 3 ov (lo.map dV)) /\ Hid (T.Dig lo) /\ ((c:Nat):Int) <= 1 /\ Hid (T.val (E.take k)+T.BB^k*c=T.val lo+T.val (lb.take k)) /\ Hid (Below w.heap.size w wr))
  (fun _ _ iv _=>E.length-(intOf iv).toNat)
 case atStart=>exact⟨0,0,[],Nat.zero_le _,rfl,rfl,rfl,lH (iC.nil _ _ _),lH T.Dig.nil,by omega,lH (by simp[T.val]),lH (by first | exact Below.refl _ _ | go_grown)⟩
 case round=>
  obtain⟨k,c,lo,hk,rfl,rfl,aj,X,a4,aJ,af,R⟩:=hrel;have U:=lH aj;clear aj;by_cases aM:((k:Nat):Int)<(E.length:Nat)
  ·obtain⟨b,aD,rfl,ax,aa⟩:=Cells.at_ HA.o oM;have aK:=((fw R.o).1 b (aD+k) ax).trans (aa k oM);have aH:((dg E k:Nat):Int)<10:=by have:=al.o k;omega
   have ay:((dg lb k:Nat):Int)<10:=by have:=am.o k;omega
   clear aa
   have c3:((lo.map dV).length+1 <= maxLen) /\ ((lo.map dV).length+1)*8 <= 140737488355328:=by
    have:=ap.o;have:=U.o;rw[List.length_map];unfold maxLen;omega
   have Y:=lH c3;clear c3
   have a9:∀ (h:Int) (v':Value) (F:World) (c' x:Nat),h=(x:Nat) -> iC F w.heap.size 3 v' (lo.map dV++ [.int .i64 h]) -> Below w.heap.size wr F -> x<10 -> dg E k+10*c'=x+c+dg lb k ->
     Hid (iC F w.heap.size 3 v' ((lo++ [x]).map dV)) /\ Hid (T.Dig (lo++ [x])) /\ Hid (T.val (E.take (k+1))+T.BB^ (k+1)*c'=T.val (lo++ [x])+T.val (lb.take (k+1))) /\ Hid (Below w.heap.size w F):=by
    intro h v' F c' x hn aC az hx hs;subst hn;refine⟨lH ?_,lH (zL a4.o hx),lH (Gh U.o af.o hs),lH (R.o.trans az)⟩;rw[List.map_append];exact aC
   have Z:=lH a9;clear a9;by_cases aN:((k:Nat):Int)<(lb.length:Nat)
   ·obtain⟨b2,aE,rfl,au,ab⟩:=Cells.at_ HB.o oM;have aL:=((fw R.o).1 b2 (aE+k) au).trans (ab k oM);clear ab;obtain⟨n1,aQ⟩:∃n:Int,((dg E k:Nat):Int)-(c:Nat)=n:=⟨_,rfl⟩
    obtain⟨h,aA⟩:∃n:Int,n1-((dg lb k:Nat):Int)=n:=⟨_,rfl⟩
    have aF: -11<h:=oM
    have aG:h<10:=oM
    have av: -2<n1:=oM
    have aw:n1<10:=oM
    by_cases aB:h<0
    ·go_wp2_with (at_builtin;refine mX _ rfl (.tmp 35) (.tmp 37) 76 rfl w.heap.size 3 i0 (.int .i64 0) 8 underlying76 a0 a1 a2 a3 rfl _ _ rfl X.o (.int .i64 (h+10)) rfl rfl Y.o R.o.size ?_)
     intro v' F O G;have M:=Z.o (h+10) v' F 1 (h+10).toNat oM O G oM oM;have t:=lH M;clear O G M;go_wp2_with fail
     go_roundw
     case rel=>exact⟨k+1,1,_,by omega,rfl,by go_num,by rw[List.length_append,U.o];rfl,t.o.1,t.o.2.1,by omega,t.o.2.2.1,t.o.2.2.2⟩
     case measure=>simp[intOf];omega
    ·go_wp2_with (at_builtin;refine mX _ rfl (.tmp 35) (.tmp 37) 76 rfl w.heap.size 3 i0 (.int .i64 0) 8 underlying76 a0 a1 a2 a3 rfl _ _ rfl X.o (.int .i64 h) rfl rfl Y.o R.o.size ?_)
     intro v' F O G;have M:=Z.o h v' F 0 h.toNat oM O G oM oM;have t:=lH M;clear O G M;go_wp2_with fail
     go_roundw
     case rel=>exact⟨k+1,0,_,by omega,rfl,by go_num,by rw[List.length_append,U.o];rfl,t.o.1,t.o.2.1,by omega,t.o.2.2.1,t.o.2.2.2⟩
     case measure=>simp[intOf];omega
   ·have ak:dg lb k=0:=jm oM;obtain⟨h,aA⟩:∃n:Int,((dg E k:Nat):Int)-(c:Nat)=n:=⟨_,rfl⟩
    have av: -2<h:=oM
    have aw:h<10:=oM
    have a8:=lH ak;clear ak ay;by_cases aB:h<0
    ·go_wp2_with (at_builtin;refine mX _ rfl (.tmp 35) (.tmp 37) 76 rfl w.heap.size 3 i0 (.int .i64 0) 8 underlying76 a0 a1 a2 a3 rfl _ _ rfl X.o (.int .i64 (h+10)) rfl rfl Y.o R.o.size ?_)
     intro v' F O G;have M:=Z.o (h+10) v' F 1 (h+10).toNat oM O G oM (by have:=a8.o;omega);have t:=lH M;clear O G M;go_wp2_with fail
     go_roundw
     case rel=>exact⟨k+1,1,_,by omega,rfl,by go_num,by rw[List.length_append,U.o];rfl,t.o.1,t.o.2.1,by omega,t.o.2.2.1,t.o.2.2.2⟩
     case measure=>simp[intOf];omega
    ·go_wp2_with (at_builtin;refine mX _ rfl (.tmp 35) (.tmp 37) 76 rfl w.heap.size 3 i0 (.int .i64 0) 8 underlying76 a0 a1 a2 a3 rfl _ _ rfl X.o (.int .i64 h) rfl rfl Y.o R.o.size ?_)
     intro v' F O G;have M:=Z.o h v' F 0 h.toNat oM O G oM (by have:=a8.o;omega);have t:=lH M;clear O G M;go_wp2_with fail
     go_roundw
     case rel=>exact⟨k+1,0,_,by omega,rfl,by go_num,by rw[List.length_append,U.o];rfl,t.o.1,t.o.2.1,by omega,t.o.2.2.1,t.o.2.2.2⟩
     case measure=>simp[intOf];omega
  ·have a7:k=E.length:=oM
   have a6:=af.o;rw[a7,T.iF (Nat.le_refl _),T.iF aq.o] at a6;have ae:=T.uE (lo:=lo) (c:=c) a4.o ar.o oM (by rw[U.o,a7];exact a6);have HO:=lH X.o.fresh;have an:=lH ae;clear a6 ae a7;go_wp2_with fail
   refine(zI _ _ lo _ HO.o a4.o).mono ?_;rintro e w2 ⟨v3,rfl,a5,rfl⟩;rw[an.o] at a5;have ao:=lH a5;clear a5;go_wp2_with fail
   go_returns;exact⟨_,rfl,ao.o,R.o⟩
theorem zM(v1 v2:Value)(a b:Nat)(w:World)(h1:IsD w v1 (T.ek a))(F:IsD w v2 (T.ek b))(O:(T.ek a).length<1099511627776)(h:b <= a):
  Calls prog 124 #[v1,v2] w fun e w'=>∃v,e= .returned v /\ iH w.heap.size w' v (T.ek (a-b)) /\ Below w.heap.size w w':=by
 obtain⟨A,t,rfl,_,_,G⟩:=h1;obtain⟨B,E,rfl,_,_,M⟩:=F;have:=Gi A B t E _ _ w G M (T.fF a) (T.fF b) O (T.iO h) (by rw[T.fu,T.fu];exact h);rw[T.fu,T.fu] at this;exact this
theorem zN(v1 v2:Value)(a b:Nat)(w:World)(h1:IsD w v1 (T.ek a))(h:IsD w v2 (T.ek b))(E:(T.ek a).length<1099511627776)(F:b <= a):
  Calls prog 124 #[v1,v2] w fun e w'=>∃v,e= .returned v /\ IsD w' v (T.ek (a-b)) /\ Below w.heap.size w w':=
 (zM v1 v2 a b w h1 h E F).mono fun _ _ ⟨v,h1,h,t⟩=>⟨v,h1,h.isD,t⟩
end
section
open Go.RowKit
theorem Gj{lo t lb:List Nat}{k c s:Nat}(E:lo.length=k)(h:T.val lo+T.BB^k*c=T.val (t.take k)+T.val (lb.take k))(F:s=c+dg t k+dg lb k):
  T.val (lo++ [s%10])+T.BB^ (k+1)* (s / 10)=T.val (t.take (k+1))+T.val (lb.take (k+1)):=by
 rw[T.val_append,E,T.ib,T.ib,Nat.pow_succ];have:=T.jZ (T.BB^k) s;have e:T.BB^k*s=T.BB^k*c+T.BB^k*dg t k+T.BB^k*dg lb k:=by rw[F,Nat.mul_add,Nat.mul_add]
 simp only[T.val,Nat.mul_zero,Nat.add_zero];omega
theorem sZ{n:Int}{s:Nat}(h:n=(s:Nat)):Value.int .i64 (n / 10)= .int .i64 ((s / 10:Nat):Int):=by rw[h];congr 1
set_option maxHeartbeats 1600000 in
theorem Gl(A B:Option Addr)(ca cb:Nat)(t lb:List Nat)(w:World)(ha:D64 w A t)(hb:D64 w B lb)(aj:T.Dig t)(ak:T.Dig lb)(aD:t.length<1099511627776)(aE:lb.length<1099511627776):
  Calls prog 151 #[.slice A t.length ca, .slice B lb.length cb] w fun e w'=>∃v,e= .returned v /\ ∃lr,IsD w' v lr /\ T.Dig lr /\ T.val lr=T.val t+T.val lb /\ lr.length <= max t.length lb.length+1 /\ Below w.heap.size w w':=by
 obtain⟨i0,a5,a6,a7,a8⟩:=info_parts qR;obtain⟨M,hM⟩:=eX (max t.length lb.length);rw[<- hM];have aT:((t.length:Nat):Int) <= (M:Nat):=oM
 have aU:((lb.length:Nat):Int) <= (M:Nat):=oM
 have aM:M <= 9223372036854775806:=oM
 have aw:Hid (M<1099511627776):=lH oM;have ah:((M:Nat):Int) <= ((t.length:Nat):Int) \/ ((M:Nat):Int) <= ((lb.length:Nat):Int):=oM
 have aL:=lH ah;have HM:=lH hM;have HA:=lH ha;have HB:=lH hb;have ar:=lH aj;have au:=lH ak;clear hM aD aE ha hb aj ak ah;go_enter func151,ntmps151;go_wp2_with fail
 go_loopw [5,6,7] (fun ov cv iv wr=>∃ (k c:Nat) (lo:List Nat),((k:Nat):Int) <= (M:Nat)+1 /\ cv= .int .i64 c /\ iv= .int .i64 k /\ lo.length=k /\ Hid (iC wr w.heap.size 3 ov (lo.map dV)) /\ Hid (T.Dig lo) /\ ((c:Nat):Int) <= 1 /\ Hid (M<k -> c=0) /\ Hid (T.val lo+T.BB^k*c=T.val (t.take k)+T.val (lb.take k)) /\ Hid (Below w.heap.size w wr))
  (fun _ _ iv _=>M+1-(intOf iv).toNat)
 case atStart=>exact⟨0,0,[],by omega,rfl,rfl,rfl,lH (iC.nil _ _ _),lH T.Dig.nil,by omega,lH (fun _=>rfl),lH (by simp[T.val]),lH (by first | exact Below.refl _ _ | go_grown)⟩
 case round=>
  obtain⟨k,c,lo,hk,rfl,rfl,an,a3,al,aQ,aA,am,Z⟩:=hrel;have a0:=lH an;clear an
  have c3:((lo.map dV).length+1 <= maxLen) /\ ((lo.map dV).length+1)*8 <= 140737488355328:=by
   have:=aw.o;have:=a0.o;rw[List.length_map];unfold maxLen;omega
  have C3:=lH c3;clear c3;have aN:((dg t k:Nat):Int)<10:=by have:=ar.o k;omega
  have aO:((dg lb k:Nat):Int)<10:=by have:=au.o k;omega
  have ag:∀ (F:Int) (v':Value) (G:World),F=((c+dg t k+dg lb k:Nat):Int) -> iC G w.heap.size 3 v' (lo.map dV++ [.int .i64 (F%10)]) -> Below w.heap.size wr G ->
    Hid (iC G w.heap.size 3 v' ((lo++ [(c+dg t k+dg lb k)%10]).map dV)) /\ Hid (T.Dig (lo++ [(c+dg t k+dg lb k)%10])) /\ Hid (M<k+1 -> (c+dg t k+dg lb k) / 10=0) /\ Hid (T.val (lo++ [(c+dg t k+dg lb k)%10])+T.BB^ (k+1)* ((c+dg t k+dg lb k) / 10)=T.val (t.take (k+1))+T.val (lb.take (k+1))) /\ Hid (Below w.heap.size w G):=by
   intro F v' G hn ap aB;refine⟨lH ?_,lH (zL al.o (Nat.mod_lt _ dC)),lH ?_,lH (Gj a0.o am.o rfl),lH (Z.o.trans aB)⟩
   ·rw[List.map_append];have e:Value.int .i64 (F%10)=dV ((c+dg t k+dg lb k)%10):=by unfold dV;rw[hn];congr 1
    rw[e] at ap;exact ap
   ·intro h;have h1:dg t k=0:=jm oM;have h2:dg lb k=0:=jm oM;omega
  have a4:=lH ag;clear ag;by_cases aS:((k:Nat):Int)<(t.length:Nat)
  ·by_cases aC:((k:Nat):Int)<(lb.length:Nat)
   ·obtain⟨b,ae,rfl,ab,a1⟩:=Cells.at_ HA.o oM;have ay:=((fw Z.o).1 b (ae+k) ab).trans (a1 k oM);clear a1;obtain⟨b2,af,rfl,ac,a2⟩:=Cells.at_ HB.o oM;have az:=((fw Z.o).1 b2 (af+k) ac).trans (a2 k oM);clear a2;obtain⟨n1,aF⟩:∃n:Int,((c:Nat):Int)+ ((dg t k:Nat):Int)=n:=⟨_,rfl⟩
    obtain⟨F,ao⟩:∃n:Int,n1+ ((dg lb k:Nat):Int)=n:=⟨_,rfl⟩
    have aG:0 <= n1:=oM
    have aH:n1 <= 10:=oM
    have aJ:0 <= F:=oM
    have aq:F <= 19:=oM
    have Y:F=((c+dg t k+dg lb k:Nat):Int):=oM
    have O:=lH Y;clear Y
    go_wp2_with (at_builtin;refine mX _ rfl (.tmp 46) (.tmp 49) 76 rfl w.heap.size 3 i0 (.int .i64 0) 8 underlying76 a5 a6 a7 a8 rfl _ _ rfl a3.o (.int .i64 (F%10)) rfl rfl C3.o Z.o.size ?_)
    intro v' G X R;have U:=a4.o F v' G O.o X R;have E:=lH U;clear X R U;go_wp2_with fail
    go_roundw
    case rel=>exact⟨k+1,(c+dg t k+dg lb k) / 10,_,by omega,sZ O.o,by go_num,by rw[List.length_append,a0.o];rfl,E.o.1,E.o.2.1,by omega,E.o.2.2.1,E.o.2.2.2.1,E.o.2.2.2.2⟩
    case measure=>simp[intOf];omega
   ·obtain⟨b,ae,rfl,ab,a1⟩:=Cells.at_ HA.o oM;have ay:=((fw Z.o).1 b (ae+k) ab).trans (a1 k oM);clear a1;have aa:Hid (dg lb k=0):=lH (jm oM);obtain⟨n1,aF⟩:∃n:Int,((c:Nat):Int)+ ((dg t k:Nat):Int)=n:=⟨_,rfl⟩
    have aG:0 <= n1:=oM
    have aH:n1 <= 10:=oM
    have Y:n1=((c+dg t k+dg lb k:Nat):Int):=by have:=aa.o;omega
    have O:=lH Y;clear Y
    go_wp2_with (at_builtin;refine mX _ rfl (.tmp 46) (.tmp 49) 76 rfl w.heap.size 3 i0 (.int .i64 0) 8 underlying76 a5 a6 a7 a8 rfl _ _ rfl a3.o (.int .i64 (n1%10)) rfl rfl C3.o Z.o.size ?_)
    intro v' G X R;have U:=a4.o n1 v' G O.o X R;have E:=lH U;clear X R U;go_wp2_with fail
    go_roundw
    case rel=>exact⟨k+1,(c+dg t k+dg lb k) / 10,_,by omega,sZ O.o,by go_num,by rw[List.length_append,a0.o];rfl,E.o.1,E.o.2.1,by omega,E.o.2.2.1,E.o.2.2.2.1,E.o.2.2.2.2⟩
    case measure=>simp[intOf];omega
  ·by_cases aC:((k:Nat):Int)<(lb.length:Nat)
   ·obtain⟨b2,af,rfl,ac,a2⟩:=Cells.at_ HB.o oM;have az:=((fw Z.o).1 b2 (af+k) ac).trans (a2 k oM);clear a2;have a9:Hid (dg t k=0):=lH (jm oM);obtain⟨F,ao⟩:∃n:Int,((c:Nat):Int)+ ((dg lb k:Nat):Int)=n:=⟨_,rfl⟩
    have aJ:0 <= F:=oM
    have aq:F <= 19:=oM
    have Y:F=((c+dg t k+dg lb k:Nat):Int):=by have:=a9.o;omega
    have O:=lH Y;clear Y
    go_wp2_with (at_builtin;refine mX _ rfl (.tmp 46) (.tmp 49) 76 rfl w.heap.size 3 i0 (.int .i64 0) 8 underlying76 a5 a6 a7 a8 rfl _ _ rfl a3.o (.int .i64 (F%10)) rfl rfl C3.o Z.o.size ?_)
    intro v' G X R;have U:=a4.o F v' G O.o X R;have E:=lH U;clear X R U;go_wp2_with fail
    go_roundw
    case rel=>exact⟨k+1,(c+dg t k+dg lb k) / 10,_,by omega,sZ O.o,by go_num,by rw[List.length_append,a0.o];rfl,E.o.1,E.o.2.1,by omega,E.o.2.2.1,E.o.2.2.2.1,E.o.2.2.2.2⟩
    case measure=>simp[intOf];omega
   ·by_cases ai:c=1
    ·have aR:((k:Nat):Int) <= (M:Nat):=by
      rcases Nat.lt_or_ge M k with h | h
      ·have:=aA.o h;omega
      ·omega
     have aK:=lH ai;have a9:Hid (dg t k=0):=lH (jm oM);have aa:Hid (dg lb k=0):=lH (jm oM);obtain⟨F,ao⟩:∃n:Int,((c:Nat):Int)=n:=⟨_,rfl⟩
     have aP:(0:Int)<F:=oM
     have aq:F <= 19:=oM
     clear ai;have Y:F=((c+dg t k+dg lb k:Nat):Int):=by have:=a9.o;have:=aa.o;omega
     have O:=lH Y;clear Y
     go_wp2_with (at_builtin;refine mX _ rfl (.tmp 46) (.tmp 49) 76 rfl w.heap.size 3 i0 (.int .i64 0) 8 underlying76 a5 a6 a7 a8 rfl _ _ rfl a3.o (.int .i64 (F%10)) rfl rfl C3.o Z.o.size ?_)
     intro v' G X R;have U:=a4.o F v' G O.o X R;have E:=lH U;clear X R U;go_wp2_with fail
     go_roundw
     case rel=>exact⟨k+1,(c+dg t k+dg lb k) / 10,_,by omega,sZ O.o,by go_num,by rw[List.length_append,a0.o];rfl,E.o.1,E.o.2.1,by omega,E.o.2.2.1,E.o.2.2.2.1,E.o.2.2.2.2⟩
     case measure=>simp[intOf];omega
    ·have ax:c=0:=oM
     subst ax;have ad:=am.o;rw[T.iF oM,T.iF oM,Nat.mul_zero,Nat.add_zero] at ad;have av:=lH ad;clear ad;have hd:=a3.o.isD;have HD:=lH hd;clear hd;go_wp2_with fail
     go_returns;exact⟨_,rfl,lo,HD.o,al.o,av.o,by have:=a0.o;omega,Z.o⟩
end
section
open Go.RowKit
theorem Gm(A B:Option Addr)(ca cb:Nat)(h lb:List Nat)(w:World)(ha:D64 w A h)(hb:D64 w B lb)(a0:T.Can h)(a1:T.Can lb)(ab:h.length<17592186044416)(_hlb:lb.length<17592186044416):
  Calls prog 111 #[.slice A h.length ca, .slice B lb.length cb] w fun e w'=>e= .returned (.int .i64 (fM (T.val h) (T.val lb))) /\ gy w w':=by
 have O:=lH a0;have R:=lH a1;clear a0 a1;obtain⟨a6,X⟩:=eX (fM (T.val h) (T.val lb));rw[<- X];have E:=lH X;clear X;by_cases F:h.length=lb.length
 ·have a4:(((h.length:Nat):Int) != (lb.length:Nat))=false:=by rw[F];simp
  have t:=lH F;clear F;go_enter func111,ntmps111;go_wp2_with fail
  go_loopw [5] (fun v wr=>∃k:Nat,k <= h.length /\ v= .int .i64 ((k:Int)-1) /\ Hid (∀j,k <= j -> j<h.length -> dg h j=dg lb j) /\ gy w wr) (fun v _=>(intOf v+1).toNat)
  case atStart=>exact⟨h.length,Nat.le_refl _,rfl,fun j h1 h2=>absurd h1 oM,gy.refl _⟩
  case round=>
   obtain⟨k,hk,rfl,M,hw⟩:=hrel;obtain⟨m,rfl⟩:=hw
   rcases k with _ | k
   ·go_wp2_with fail
    go_returns;refine⟨?_,gy.mk _ _⟩;have:T.val h=T.val lb:=T.uF t.o (fun j Y=>M.o j (Nat.zero_le _) Y);rw[E.o,fM,if_neg oM,if_pos this];rfl
   ·obtain⟨b1,ac,rfl,a7,a2⟩:=Cells.at_ ha oM;obtain⟨b2,ad,rfl,a8,a3⟩:=Cells.at_ hb (by have:=t.o;omega);have a9:=a2 k oM;have aa:=a3 k (by have:=t.o;omega);have h1:((k:Nat):Int)<(h.length:Nat):=oM
    have h2:((k:Nat):Int)<(lb.length:Nat):=by have:=t.o;omega
    clear a2 a3 a4;by_cases Z:dg h k<dg lb k
    ·have U:=lH Z;go_wp2_with fail
     go_quiet (fail)
     go_wp2_with fail
     go_returns;refine⟨?_,(gy.mk _ _).step _⟩;have:=T.qg O.o.1 t.o oM (fun j h3 G=>M.o j oM G) U.o;rw[E.o,fM,if_pos this];rfl
    ·by_cases a5:dg lb k<dg h k
     ·have U:=lH a5;go_wp2_with fail
      go_quiet (fail)
      go_wp2_with fail
      go_quiet (fail)
      go_wp2_with fail
      go_returns;refine⟨?_,((gy.mk _ _).step _).step _⟩;have h7:=t.o;have:=T.qg (k:=k) R.o.1 t.o.symm oM (fun j h3 G=>(M.o j oM oM).symm) U.o;rw[E.o,fM,if_neg oM,if_neg oM];rfl
     ·have HD:Hid (dg h k=dg lb k):=lH oM;go_wp2_with fail
      go_quiet (fail)
      go_wp2_with fail
      go_quiet (fail)
      go_wp2_with fail
      go_roundw
      case rel=>
       refine⟨k,by omega,rfl,fun j h3 G=> ?_,gy.mk _ _⟩;by_cases Y:j=k
       ·rw[Y];exact HD.o
       ·exact M.o j oM G
      case measure=>exact mZ
 ·have t:=lH F;have a4:(((h.length:Nat):Int) != (lb.length:Nat))=true:=by simp;omega
  clear F;by_cases Z:h.length<lb.length
  ·go_enter func111,ntmps111;go_wp2_with fail
   go_returns;refine⟨?_,gy.refl _⟩;have:=T.qd O.o.1 R.o Z;rw[E.o,fM,if_pos this];rfl
  ·go_enter func111,ntmps111;go_wp2_with fail
   go_returns;refine⟨?_,gy.refl _⟩;have h2:=t.o;have:=T.qd R.o.1 O.o oM;rw[E.o,fM,if_neg oM,if_neg oM];rfl
theorem pE(v1 v2:Value)(a b:Nat)(w:World)(h1:IsD w v1 (T.ek a))(E:IsD w v2 (T.ek b))(M:(T.ek a).length<17592186044416)(O:(T.ek b).length<17592186044416):
  Calls prog 111 #[v1,v2] w fun e w'=>e= .returned (.int .i64 (fM a b)) /\ gy w w':=by
 obtain⟨A,h,rfl,_,_,F⟩:=h1;obtain⟨B,t,rfl,_,_,G⟩:=E;have:=Gm A B h t _ _ w F G (T.jY a) (T.jY b) M O;rw[T.fu,T.fu] at this;exact this
end
section
open Go.RowKit
def jM(a:Int):Bool:=decide (sgI a<0)
def tC(a:Int):Bool:=decide (0<sgI a)
theorem nZ{a:Int}:sgI a<0↔a<0:=by unfold sgI;split <;> (try split) <;> omega
theorem Gn{a:Int}:0<sgI a↔0<a:=by unfold sgI;split <;> (try split) <;> omega
theorem kD(a:Int):jM a=decide (a<0):=by unfold jM;simp only[nZ]
theorem Gp(a:Int):tC a=decide (0<a):=by unfold tC;simp only[Gn]
def Few(a:Int):Prop:=(T.ek a.natAbs).length<1000000000
theorem Few.lt{a:Int}(h:Few a):(T.ek a.natAbs).length<1099511627776:=Nat.lt_trans h dC
theorem Few.lt2{a:Int}(h:Few a):(T.ek a.natAbs).length<17592186044416:=Nat.lt_trans h dC
theorem Few.le{a:Int}(h:Few a):(T.ek a.natAbs).length <= 1099511627776:=Nat.le_of_lt h.lt
theorem tF(a:Int)(w:World)(G:Few a):
  Calls prog 60 #[.string (txt a)] w fun e w'=>e= .returned (.string (txt (-a))) /\ Below w.heap.size w w':=by
 have F:=lH G;clear G;obtain⟨S,t⟩:=eX (txt (-a));rw[<- t];have Y:=lH t;clear t;go_enter func60,ntmps60;go_wp2_with fail
 refine(iy a _).mono ?_;rintro e w1 ⟨rfl,rfl⟩;go_wp2_with fail
 refine(jV a _ F.o.lt).mono ?_;rintro e w2 ⟨v,rfl,U,M⟩;have Z:=lH U;have E:=lH M;clear U M;go_wp2_with fail
 refine(lX (tC a) v _ _ Z.o (T.fF _) F.o.le).mono ?_;rintro e w3 ⟨rfl,O⟩
 have R:txt (sgn (tC a) (T.val (T.ek a.natAbs)))=S:=by
  rw[Y.o,T.fu,Gp];congr 1;unfold sgn;by_cases h:0<a
  ·rw[decide_eq_true h];simp;omega
  ·rw[decide_eq_false h];simp;omega
 rw[R];have X:=lH (E.o.trans (O.mono E.o.size));clear R O;go_wp2_with fail
 go_returns;exact⟨rfl,X.o⟩
theorem Gq(a b:Int)(w:World)(ha:Few a)(hb:Few b):
  Calls prog 74 #[.string (txt a), .string (txt b)] w fun e w'=>e= .returned (.int .i64 (gI a b)) /\ Below w.heap.size w w':=by
 have a0:=lH ha;have a1:=lH hb;clear ha hb;obtain⟨r,hr⟩:=eX (gI a b);rw[<- hr];have HR:=lH hr;clear hr;by_cases h1:sgI a<sgI b
 ·have e:r= -1:=by
   rw[HR.o];unfold gI;rw[if_pos];unfold sgI at h1;split at h1 <;> split at h1 <;> (try split at h1) <;> (try split at h1) <;> omega
  subst e;go_enter func74,ntmps74;go_wp2_with fail
  refine(iy a _).mono ?_;rintro e F ⟨rfl,rfl⟩;go_wp2_with fail
  refine(iy b _).mono ?_;rintro e F ⟨rfl,rfl⟩;go_wp2_with fail
  go_returns;exact⟨rfl,by first | exact Below.refl _ _ | go_grown⟩
 ·by_cases t:sgI b<sgI a
  ·have e:r=1:=by
    rw[HR.o];unfold gI;rw[if_neg,if_neg]
    ·unfold sgI at t;split at t <;> split at t <;> (try split at t) <;> (try split at t) <;> omega
    ·unfold sgI at t;split at t <;> split at t <;> (try split at t) <;> (try split at t) <;> omega
   subst e;have a8:sgI b <= sgI a:=oM
   clear h1;go_enter func74,ntmps74;go_wp2_with fail
   refine(iy a _).mono ?_;rintro e F ⟨rfl,rfl⟩;go_wp2_with fail
   refine(iy b _).mono ?_;rintro e F ⟨rfl,rfl⟩;go_wp2_with fail
   go_returns;exact⟨rfl,by first | exact Below.refl _ _ | go_grown⟩
  ·have a7:sgI a=sgI b:=oM
   have a6:=lH a7;have a8:sgI b <= sgI a:=oM
   have a9:sgI a <= sgI b:=oM
   clear h1 t a7;by_cases h3:sgI a<0
   ·go_enter func74,ntmps74;go_wp2_with fail
    refine(iy a _).mono ?_;rintro e F ⟨rfl,rfl⟩;go_wp2_with fail
    refine(iy b _).mono ?_;rintro e F ⟨rfl,rfl⟩;go_wp2_with fail
    refine(jV b _ a1.o.lt).mono ?_;rintro e w2 ⟨v1,rfl,Y,R⟩;have a3:=lH Y;have G:=lH R;clear Y R;go_wp2_with fail
    refine(jV a _ a0.o.lt).mono ?_;rintro e w3 ⟨v2,rfl,Z,T⟩;have a5:=lH Z;have M:=lH T;have a4:=lH (a3.o.below M.o);clear Z T;go_wp2_with fail
    refine(pE v1 v2 _ _ _ a4.o a5.o a1.o.lt2 a0.o.lt2).mono ?_;rintro e w4 ⟨rfl,U⟩
    have X:fM b.natAbs a.natAbs=r:=by
     have h5:a<0:=nZ.1 h3;have h6:b<0:=nZ.1 (by have:=a6.o;omega);rw[HR.o];unfold fM gI;by_cases E:a<b
     ·rw[if_pos oM,if_pos E]
     ·by_cases O:a=b
      ·rw[if_neg oM,if_pos oM,if_neg E,if_pos O]
      ·rw[if_neg oM,if_neg oM,if_neg E,if_neg O]
    rw[X];have a2:=lH ((G.o.trans (M.o.mono G.o.size)).trans (U.below _));clear X U;go_wp2_with fail
    go_returns;exact⟨rfl,a2.o⟩
   ·have aa:0 <= sgI a:=oM
    clear h3;go_enter func74,ntmps74;go_wp2_with fail
    refine(iy a _).mono ?_;rintro e F ⟨rfl,rfl⟩;go_wp2_with fail
    refine(iy b _).mono ?_;rintro e F ⟨rfl,rfl⟩;go_wp2_with fail
    refine(jV a _ a0.o.lt).mono ?_;rintro e w2 ⟨v1,rfl,Y,R⟩;have a3:=lH Y;have G:=lH R;clear Y R;go_wp2_with fail
    refine(jV b _ a1.o.lt).mono ?_;rintro e w3 ⟨v2,rfl,Z,T⟩;have a5:=lH Z;have M:=lH T;have a4:=lH (a3.o.below M.o);clear Z T;go_wp2_with fail
    refine(pE v1 v2 _ _ _ a4.o a5.o a0.o.lt2 a1.o.lt2).mono ?_;rintro e w4 ⟨rfl,U⟩
    have X:fM a.natAbs b.natAbs=r:=by
     have h5:¬a<0:=fun h=>by have:=nZ.2 h;omega
     have h6:¬b<0:=fun h=>by have:=nZ.2 h;have:=a6.o;omega
     rw[HR.o];unfold fM gI;by_cases E:a<b
     ·rw[if_pos oM,if_pos E]
     ·by_cases O:a=b
      ·rw[if_neg oM,if_pos oM,if_neg E,if_pos O]
      ·rw[if_neg oM,if_neg oM,if_neg E,if_neg O]
    rw[X];have a2:=lH ((G.o.trans (M.o.mono G.o.size)).trans (U.below _));clear X U;go_wp2_with fail
    go_returns;exact⟨rfl,a2.o⟩
theorem tH{s:Bool}{n:Nat}{r:Int}{S:ByteArray}(t:S=txt r)(h:sgn s n=r):txt (sgn s n)=S:=by rw[t,h]
set_option maxHeartbeats 800000 in
theorem vJ(a b:Int)(w:World)(ha:Few a)(hb:Few b):
  Calls prog 126 #[.string (txt a), .string (txt b)] w fun e w'=>e= .returned (.string (txt (a+b))) /\ Below w.heap.size w w':=by
 have U:=lH ha;have X:=lH hb;clear ha hb;obtain⟨S,hS⟩:=eX (txt (a+b));rw[<- hS];have HS:=lH hS;clear hS;go_enter func126,ntmps126;go_wp2_with fail
 refine(jV a _ U.o.lt).mono ?_;rintro e w2 ⟨v1,rfl,ai,ac⟩;have ab:=lH ai;have a5:=lH ac;clear ai ac;go_wp2_with fail
 refine(jV b _ X.o.lt).mono ?_;rintro e w3 ⟨v2,rfl,aj,a9⟩;have Z:=lH aj;have Y:=lH (ab.o.below a9);have a4:=lH (a5.o.trans (a9.mono a5.o.size));clear aj a9 ab a5;go_wp2_with fail
 refine(iy a _).mono ?_;rintro e w1 ⟨rfl,rfl⟩;go_wp2_with fail
 refine(iy b _).mono ?_;rintro e w1 ⟨rfl,rfl⟩;by_cases M:jM a=jM b
 ·have ap:(decide (sgI a<0)==decide (sgI b<0))=true:=by
   unfold jM at M;rw[M];simp
  have a1:=lH M;clear M;go_wp2_with fail
  refine(iy a _).mono ?_;rintro e w1 ⟨rfl,rfl⟩;go_wp2_with fail
  obtain⟨A,ca,rfl,aq,au,ag⟩:=Y.o;obtain⟨B,cb,rfl,ar,av,ah⟩:=Z.o;refine(Gl A B ca cb _ _ _ ag ah (T.fF _) (T.fF _) U.o.lt X.o.lt).mono ?_;rintro e w4 ⟨v3,rfl,lr,O,ae,ak,af,ad⟩;have a2:=lH O;have al:=lH ae;have an:=lH ak;have am:=lH af;have F:=lH (a4.o.trans (ad.mono a4.o.size));clear O ae ak af ad ag ah;go_wp2_with fail
  refine(lX (jM a) v3 lr _ a2.o al.o (by have:=am.o;have h1:=U.o;have t:=X.o;unfold Few at h1 t;omega)).mono ?_;rintro e w5 ⟨rfl,G⟩;have R:=lH (F.o.trans (G.mono F.o.size))
  rw[tH HS.o (by
   rw[an.o,T.fu,T.fu];have h1:=a1.o;rw[kD,kD] at h1;rw[kD];unfold sgn;by_cases t:a<0
   ·rw[decide_eq_true t] at h1 ⊢;have:b<0:=of_decide_eq_true h1.symm;simp;omega
   ·rw[decide_eq_false t] at h1 ⊢;have:¬b<0:=of_decide_eq_false h1.symm
    simp;omega)]
  clear G;go_wp2_with fail
  go_returns;exact⟨rfl,R.o⟩
 ·have ap:(decide (sgI a<0)==decide (sgI b<0))=false:=by
   unfold jM at M;rw[beq_eq_false_iff_ne];exact M
  have a1:=lH M;clear M;have aw:Hid (jM a=jM b -> False):=lH a1.o;by_cases aa:b.natAbs <= a.natAbs
  ·have ao:(0:Int) <= fM a.natAbs b.natAbs:=by unfold fM;split <;> (try split) <;> omega
   have a0:=lH aa;clear aa;go_wp2_with fail
   refine(pE v1 v2 _ _ _ Y.o Z.o U.o.lt2 X.o.lt2).mono ?_;rintro e w4 ⟨rfl,E⟩;have F:=lH (a4.o.trans (E.below _));have a7:=lH (Y.o.below (E.below _));have a8:=lH (Z.o.below (E.below _));clear E Y Z;go_wp2_with fail
   refine(iy a _).mono ?_;rintro e w1 ⟨rfl,rfl⟩;go_wp2_with fail
   refine(zN v1 v2 _ _ _ a7.o a8.o U.o.lt a0.o).mono ?_;rintro e w5 ⟨v3,rfl,O,G⟩;have a2:=lH O;have R:=lH (F.o.trans (G.mono F.o.size));clear O G;go_wp2_with fail
   refine(lX (jM a) v3 _ _ a2.o (T.fF _) (Nat.le_trans (T.iO (Nat.sub_le _ _)) U.o.le)).mono ?_;rintro e w6 ⟨rfl,a3⟩;have a6:=lH (R.o.trans (a3.mono R.o.size))
   rw[tH HS.o (by
    rw[T.fu];have h1:=a1.o;have h3:=a0.o;rw[kD,kD] at h1;rw[kD];unfold sgn;by_cases t:a<0
    ·rw[decide_eq_true t] at h1 ⊢;have:¬b<0:=fun h=>h1 (decide_eq_true h).symm
     simp;omega
    ·rw[decide_eq_false t] at h1 ⊢
     have:b<0:=by
      rcases Int.lt_or_le b 0 with h | h
      ·exact h
      ·exact absurd (decide_eq_false oM).symm h1
     simp;omega)]
   clear a3;go_wp2_with fail
   go_returns;exact⟨rfl,a6.o⟩
  ·have ao:fM a.natAbs b.natAbs<(0:Int):=by unfold fM;split <;> (try split) <;> omega
   have a0:Hid (a.natAbs <= b.natAbs):=lH oM;clear aa;go_wp2_with fail
   refine(pE v1 v2 _ _ _ Y.o Z.o U.o.lt2 X.o.lt2).mono ?_;rintro e w4 ⟨rfl,E⟩;have F:=lH (a4.o.trans (E.below _));have a7:=lH (Y.o.below (E.below _));have a8:=lH (Z.o.below (E.below _));clear E Y Z;go_wp2_with fail
   refine(iy b _).mono ?_;rintro e w1 ⟨rfl,rfl⟩;go_wp2_with fail
   refine(zN v2 v1 _ _ _ a8.o a7.o X.o.lt a0.o).mono ?_;rintro e w5 ⟨v3,rfl,O,G⟩;have a2:=lH O;have R:=lH (F.o.trans (G.mono F.o.size));clear O G;go_wp2_with fail
   refine(lX (jM b) v3 _ _ a2.o (T.fF _) (Nat.le_trans (T.iO (Nat.sub_le _ _)) X.o.le)).mono ?_;rintro e w6 ⟨rfl,a3⟩;have a6:=lH (R.o.trans (a3.mono R.o.size))
   rw[tH HS.o (by
    rw[T.fu];have h1:=a1.o;have h3:=a0.o;rw[kD,kD] at h1;rw[kD];unfold sgn;by_cases t:b<0
    ·rw[decide_eq_true t] at h1 ⊢;have:¬a<0:=fun h=>h1 (decide_eq_true h)
     simp;omega
    ·rw[decide_eq_false t] at h1 ⊢
     have:a<0:=by
      rcases Int.lt_or_le a 0 with h | h
      ·exact h
      ·exact absurd (decide_eq_false oM) h1
     simp;omega)]
   clear a3;go_wp2_with fail
   go_returns;exact⟨rfl,a6.o⟩
theorem Gr{a:Int}(h:Few a):Few (-a):=by unfold Few at*;rw[Int.natAbs_neg];exact h
theorem Gs(a b:Int)(w:World)(F:Few a)(G:Few b):
  Calls prog 125 #[.string (txt a), .string (txt b)] w fun e w'=>e= .returned (.string (txt (a-b))) /\ Below w.heap.size w w':=by
 have T:=lH F;have E:=lH G;clear F G;obtain⟨S,h⟩:=eX (txt (a-b));rw[<- h];have U:=lH h;clear h;go_enter func125,ntmps125;go_wp2_with fail
 refine(tF b _ E.o).mono ?_;rintro e X ⟨rfl,M⟩;have t:=lH M;clear M;go_wp2_with fail
 refine(vJ a (-b) _ T.o (Gr E.o)).mono ?_;rintro e Y ⟨rfl,O⟩;have R:=lH (t.o.trans (O.mono t.o.size));rw[show txt (a+ -b)=S by rw[U.o,Int.sub_eq_add_neg]];clear O;go_wp2_with fail
 go_returns;exact⟨rfl,R.o⟩
end
section
open Go.RowKit
def gM(w:World)(g:Nat)(l:List Nat):Prop:=Row w g 3 (l.map dV)
section
variable {w w':World} {g:Nat} {l:List Nat}
theorem gM.lt(h:gM w g l):g<w.heap.size:=Row.lt h
theorem gM.cell(h:gM w g l){j:Nat}(t:j<l.length): w.cell? ⟨g,j,none⟩=some (.int .i64 (dg l j:Nat)):=by
 rw[Row.cell h];exact sV t
theorem gM.free(h:gM w g l)(j:Nat): w.frozen? ⟨g,j,none⟩=false:=Row.free h j
theorem gM.set(h:gM w g l)(j x:Nat){v:Value}(t:v= .int .i64 (x:Nat)):gM (w.setCell ⟨g,j,none⟩ v) g (l.set j x):=by
 subst t;have:=Row.set h j (dV x);unfold gM;rw[List.map_set];exact this
theorem gM.drewN(h:gM w g l)(n:Nat):gM (w.drewN n) g l:=h
theorem gM.below(h:gM w g l){B:Nat}(t:Below B w w')(E:g<B):gM w' g l:=Row.below h t E
theorem gM.made{n:Nat}(h:Row w g 3 (List.replicate n (Value.int .i64 0))):gM w g (List.replicate n 0):=by
 unfold gM;rw[List.map_replicate];exact h
theorem gM.isD(h:gM w g l){n:Nat}(F:n=l.length)(E:n <= maxLen):IsD w (.slice (some ⟨g,0,none⟩) n n) l:=by
 subst F;refine⟨_,_,rfl,Nat.le_refl _,E,?_⟩;exact .inr ⟨g,0,rfl,fun j t=>by rw[Nat.zero_add];exact h.cell t,_,_,_,h,fun z G=>by simp at G⟩
end
theorem Gt{l:List Nat}{n j:Nat}(h:T.val l<T.BB^n)(E:n <= j):dg l j=0:=by
 rcases Nat.lt_or_ge j l.length with h1 | h1
 ·have F:=T.oK l j 0 h1;have G:T.BB^n <= T.BB^j:=Nat.pow_le_pow_right dC E
  rcases Nat.eq_zero_or_pos (dg l j) with t | t
  ·exact t
  ·have:=Nat.le_mul_of_pos_right (T.BB^j) t;omega
 ·exact jm h1
theorem zO{lo t lb:List Nat}{i k c x s V:Nat}(F:i+k<t.length)(h:T.val t+T.BB^ (i+k)*c=V+T.BB^i* (x*T.val (lb.take k)))(G:s=dg t (i+k)+c+x*dg lb k)
  (E:∀j,i+k <= j -> dg t j=dg lo j):
  T.val (t.set (i+k) (s%10))+T.BB^ (i+ (k+1))* (s / 10)=V+T.BB^i* (x*T.val (lb.take (k+1))) /\ (∀j,i+ (k+1) <= j -> dg (t.set (i+k) (s%10)) j=dg lo j):=by
 refine⟨T.uG F h (by rw[G];omega),fun j M=> ?_⟩;rw[iB,if_neg oM];exact E j oM
theorem zP(a b:Int): -1 <= sgI a*sgI b /\ sgI a*sgI b <= 1 /\ sgn (decide (sgI a*sgI b<0)) (a.natAbs*b.natAbs)=a*b:=by
 obtain⟨n,rfl | rfl⟩:=Int.eq_nat_or_neg a <;> obtain⟨m,rfl | rfl⟩:=Int.eq_nat_or_neg b <;>
  rcases Nat.eq_zero_or_pos n with h | h <;> rcases Nat.eq_zero_or_pos m with t | t <;> simp[sgn,sgI,h,t,Int.natAbs_neg,Int.mul_neg,Int.neg_mul] <;> (try split) <;> (try split) <;> (try split) <;> (try split) <;> (try simp) <;> omega
def gu(a:Int):Prop:=(T.ek a.natAbs).length<100000000
theorem gu.few{a:Int}(h:gu a):Few a:=Nat.lt_trans h dC
end
section
open Go.RowKit
theorem Gu(w:World)(e:TypeId)(x:Value):(w.alloc (.cells #[x] e)).ownsRow w.heap.size e 1 (.slice (some ⟨w.heap.size,0,none⟩) 1 1) 1 [x]:=
 ⟨rfl, .inr ⟨w.heap.size,1, #[x],rfl,Nat.le_refl _,heap_alloc_new w _,Nat.le_refl _,by unfold maxLen;omega,rfl,rfl⟩⟩
theorem Gv{P:Program}(w:World){ops:Array Oper}{rest:List Oper}{o:Oper}{a:Act}{Q:Exit -> Act -> World -> Prop}(T:o.guard=none)(s x:Operand)(t:TypeId)
  (Z:o.op= .call {callee:= .builtin .append,args:= #[s,x],argTypes:= #[t,t]})
  (e:TypeId) (i:TypeInfo) (z:Value) (G:Nat) (ht:P.underlying t=some (.slice e)) (U: P.info? e=some i) (hz:i.zero=some z)
  (a4:i.size=1) (a1:i.bytes=G) (a5:z.cells.size=1)
  (u:Value) (hs:a.eval s= .slice (some ⟨w.heap.size,0,none⟩) 1 1)
  (B:Nat) (v:Value) (l:List Nat) (hf:iH B w v l) (hx:a.eval x=v) (Y:1+l.length <= maxLen /\ (1+l.length)*G <= 140737488355328)
  (h:∀v' w',iC w' w.heap.size e v' (u::l.map dV) -> Below w.heap.size w w' -> wpList P ops Q rest (a.put o.dst v') w'):wpList P ops Q (o::rest) a (w.alloc (.cells #[u] e)):=by
 have E:=(iV w (.cells #[u] e)).2.2;have M:=Gu w e u
 rcases hf with ⟨rfl,rfl⟩ | ⟨b,a0,c,rfl,h0,h4,h1,h2,O⟩
 ·refine wpList_append_own_none T s x t Z w.heap.size e i 1 ht U _ 1 [u] hs M hx ?_;exact h _ _ M E
 ·refine wpList_append_own _ T s x t Z w.heap.size e i z 1 G ht U hz a4 a1 a5 dC _ 1 [u] hs M ⟨b,a0,none⟩ l.length c (l.map dV) hx (by simp) ?_ ?_ Y.1 Y.2 (by simp) ?_
  ·intro j y F;have X:j<l.length:=by have:=(List.getElem?_eq_some_iff.1 F).1;simpa using this
   rw[sV X] at F;simp only[Option.some.injEq] at F;subst F;rw[Addr.add_lit]
   rcases O with O | ⟨b',a6,R,hc,_⟩
   ·omega
   ·simp only[Option.some.injEq,Addr.mk.injEq,and_true] at R;obtain⟨rfl,rfl⟩:=R;exact(E.cell (p:=⟨b,a0+j,none⟩) h4).trans (hc j X)
  ·intro y hy;rw[List.mem_map] at hy;obtain⟨d,_,rfl⟩:=hy;rfl
  ·intro v' w' a3 a2 _;refine h v' w' ?_ (E.grown a2 E.size (fun k hk=> ?_))
   ·unfold iC;rw[List.length_cons,List.length_map,Nat.add_comm];exact a3
   ·simp[Value.ownBlock] at hk;omega
theorem Gw{lo t:List Nat}{j b r0 q r:Nat}(E:j<t.length)(F:lo.length=t.length)(h:T.val (t.drop (j+1))=b*T.val (lo.drop (j+1))+r0)(G:b*q+r=dg t j+10*r0):
  T.val (t.drop j)=b*T.val ((lo.set j q).drop j)+r:=by
 rw[T.kP _ _ E,T.oJ _ _ _ oM,h];simp only[T.ik];rw[Nat.mul_add,Nat.mul_add,Nat.mul_left_comm b 10];omega
theorem Gx(d:Nat)(n:Nat):T.val (d::T.ek n)=d+10*n:=by rw[T.val,T.fu];rfl
theorem Gy{a b:Int}(G:b≠0)(p:Int)(M:sgI a*sgI b=p):sgn (decide (p<0)) (a.natAbs / b.natAbs)=sgn (decide (a<0) !=decide (b<0)) (a.natAbs / b.natAbs):=by
 subst M;by_cases h:a=0
 ·subst h;simp[sgn]
 ·congr 1;have h1:sgI a=if a<0 then -1 else 1:=by unfold sgI;rw[if_neg h]
  have t:sgI b=if b<0 then -1 else 1:=by unfold sgI;rw[if_neg G]
  rw[h1,t];by_cases E:a<0 <;> by_cases F:b<0 <;> simp[E,F]
end
end Go.Proofs.YtdefghfjhgmpfaaGreatDoor
