/- Parts of this proof: Ints Foll Redun LFol. -/
import Derived.Test.YtdefghfjhgmpfaaGreatDoorMBA
import Derived.Test.YtdefghfjhgmpfaaGreatDoorMAZ
import Derived.Test.YtdefghfjhgmpfaaGreatDoorMCJ
import Derived.Test.YtdefghfjhgmpfaaGreatDoorMAP
import Derived.Test.YtdefghfjhgmpfaaGreatDoorMAE
import Derived.Test.YtdefghfjhgmpfaaGreatDoorMBB
import Derived.Test.YtdefghfjhgmpfaaGreatDoorMBG
import Derived.Test.YtdefghfjhgmpfaaGreatDoorMAV
import Derived.Test.YtdefghfjhgmpfaaGreatDoorMAY
import Derived.Test.YtdefghfjhgmpfaaGreatDoorMBC
import Derived.Test.YtdefghfjhgmpfaaGreatDoorMBV
import Derived.Test.YtdefghfjhgmpfaaGreatDoorMBY
namespace Go.Proofs.YtdefghfjhgmpfaaGreatDoor
open Go.Proofs.Tryz
section
open Go.RowKit
open Lp (RL upd eu)
def wo(l:List Nat)(i:Nat):List Nat:=l.filter (fun k=>k !=i)
theorem Lt{l:List Nat}{i q x:Nat}(h:l[q]? =some x):wo (l.take (q+1)) i=wo (l.take q) i++ (if x=i then [] else [x]):=by
 unfold wo;rw[List.take_add_one,h,List.filter_append];by_cases e:x=i
 ·simp[e]
 ·simp[e]
theorem LF{l:List Nat}{i q x:Nat}(h:l[q]? =some x)(r:x≠i):(wo l i).getD (wo (l.take q) i).length 0=x:=by
 have t:=(List.getElem?_eq_some_iff.1 h).1;have e:wo l i=wo (l.take (q+1)) i++wo (l.drop (q+1)) i:=by unfold wo;rw[<- List.filter_append,List.take_append_drop]
 rw[e,Lt h,if_neg r,List.append_assoc,List.getD_eq_getElem?_getD,List.getElem?_append_right (Nat.le_refl _),Nat.sub_self];rfl
theorem Lu(l:List Nat)(i:Nat):(wo l i).length <= l.length:=List.length_filter_le _ _
theorem LG{l:List Nat}{i k:Nat}(h:k ∈ wo l i):k ∈ l /\ k≠i:=by
 unfold wo at h;rw[List.mem_filter] at h;exact⟨h.1,by simpa using h.2⟩
theorem LH{m i:Nat}(F:i<m):(wo (List.range m) i).length=m-1 /\ ∀j,j<m-1 -> (wo (List.range m) i).getD j 0=del i j:=by
 have M:∀n,(n <= i -> wo (List.range n) i=List.range n) /\ (i<n -> wo (List.range n) i=(List.range (n-1)).map (del i)):=by
  intro n
  induction n with
  | zero=>exact⟨fun _=>rfl,fun h=>absurd h oM⟩
  | succ n C=>
   have E:wo (List.range (n+1)) i=wo (List.range n) i++ (if n=i then [] else [n]):=by
    unfold wo;rw[List.range_succ,List.filter_append];by_cases e:n=i
    ·simp[e]
    ·simp[e]
   refine⟨fun h=> ?_,fun h=> ?_⟩
   ·rw[E,C.1 oM,if_neg oM,List.range_succ]
   ·rw[E,Nat.add_sub_cancel];by_cases e:n=i
    ·rw[if_pos e,C.1 oM,List.append_nil]
     have G:List.map (del i) (List.range n)=List.map (fun j=>j) (List.range n):=List.map_congr_left fun j t=>by
      have:=List.mem_range.1 t;unfold del;rw[if_pos oM]
     rw[G];exact(List.map_id' _).symm
    ·rw[if_neg e,C.2 oM];obtain⟨r,rfl⟩:∃r,n=r+1:=⟨n-1,by omega⟩
     rw[Nat.add_sub_cancel,List.range_succ,List.map_append];show _++ [r+1]=_++ [del i r];unfold del;rw[if_neg oM]
 have h:=(M m).2 F;refine⟨by rw[h];simp,fun j t=> ?_⟩;rw[h,List.getD_eq_getElem?_getD,List.getElem?_map,List.getElem?_range t];rfl
def Li(w:World)(v:Value)(l:List Nat):Prop:=∃A c,v= .slice A l.length c /\ l.length <= c /\ c <= maxLen /\ (l.length=0 \/ ∃g,A=some ⟨g,0,none⟩ /\ IB w g l.length (fun j=>l.getD j 0))
theorem Li.below{w w':World}{v:Value}{l:List Nat}(h:Li w v l)(C:Below w.heap.size w w'):Li w' v l:=by
 obtain⟨A,c,E,h1,r,t⟩:=h;exact⟨A,c,E,h1,r,t.imp id fun⟨g,e,F⟩=>⟨g,e,F.below C⟩⟩
theorem Li.shape{w:World}{v:Value}{l:List Nat}(h:Li w v l):∃A c,v= .slice A l.length c /\ l.length <= c /\ c <= maxLen:=by
 obtain⟨A,c,t,h1,r,_⟩:=h;exact⟨A,c,t,h1,r⟩
theorem Li.at_{w:World}{A:Option Addr}{n c:Nat}{l:List Nat}(h:Li w (.slice A n c) l)(h0:0<l.length):∃g,A=some ⟨g,0,none⟩ /\ IB w g l.length (fun j=>l.getD j 0):=by
 obtain⟨A',c',t,_,_,r⟩:=h;simp only[Value.slice.injEq] at t
 rcases r with r | ⟨g,e,C⟩
 ·omega
 ·exact⟨g,t.1.trans e,C⟩
theorem eY.ints{w:World}{v:Value}{l:List Nat}(h:eY w v 3 l.length (pQ fun j=>l.getD j 0)):Li w v l:=by
 obtain⟨A,c,rfl,h1,G⟩:=h.shape;refine⟨A,c,rfl,h1,G,?_⟩
 rcases Nat.eq_zero_or_pos l.length with h0 | h0
 ·exact .inl h0
 ·obtain⟨xs,C,E⟩:=h;obtain⟨g,cap,cs,F,R,t⟩:=C9 C h0;simp only[Value.slice.injEq,true_and] at F;have T:xs.length=l.length*1:=C.1;refine .inr ⟨g,F.1,cs,R,?_,fun j M=> ?_⟩
  ·obtain⟨u,r,_⟩:=E (l.length-1) oM;have:=(List.getElem?_eq_some_iff.1 (t _ _ r)).1;omega
  ·obtain⟨u,r,O⟩:=E j M;rw[t _ _ r];exact congrArg some O
theorem IB.made{w:World}{base g n:Nat}(h:w.ownsRow base 3 1 (.slice (some ⟨g,0,none⟩) n n) n (madeCells (Value.int .i64 0).cells (n*1)).toList):IB w g n (fun _=>0):=by
 have t:=Row.made (z:= .int .i64 0) (by rw[Nat.mul_one] at h;exact h);refine⟨_,t,by simp,fun j r=> ?_⟩;rw[List.getElem?_replicate,if_pos r];rfl
theorem LJ(w:World){ops:Array Oper}{rest:List Oper}{o:Oper}{a:Act}{Q:Exit -> Act -> World -> Prop}
  (G:o.guard=none) (l c:Operand) (T:o.op=Op.makeSlice 76 l c) (L C:Int) (n:Nat) (R:a.eval l= .int .i64 L) (F:a.eval c= .int .i64 C) (E:L=(n:Int)) (r:C=(n:Int)) (b2:n <= 4398046511104)
  (t:∀w',IB w' w.heap.size n (fun _=>0) -> Below w.heap.size w w' -> w.heap.size<w'.heap.size -> wpList prog ops Q rest (a.put o.dst (.slice (some ⟨w.heap.size,0,none⟩) n n)) w'):
  wpList prog ops Q (o::rest) a w:=by
 obtain⟨i,O,V,W,X⟩:=info_parts zn;refine wpList_make_full w G l c _ T w.heap.size _ i _ 1 underlying76 O V W .i64 .i64 L C n R F E r (by rw[X];omega) (by unfold maxLen;omega) (Nat.le_refl _) ?_;intro w' U M;have h:=IB.made U;exact t w' h ((Below.refl _ _).grown M (Nat.le_refl _) (by simp)) h.lt
set_option maxRecDepth 100000 in
set_option maxHeartbeats 3200000 in
theorem LM(n:Nat)(w:World)(Y:n <= 1000000000):
  Calls prog 87 #[.int .i64 n] w fun e w'=>∃v,e= .returned v /\ Li w' v (List.range n) /\ Below w.heap.size w w':=by
 go_enter func87,ntmps87
 go_wp2_with (at_make;refine LJ _ rfl (.tmp 5) (.tmp 5) rfl _ _ n rfl rfl rfl rfl oM ?_)
 intro w1 M F V;have h:=lH M;have r:=lH F;clear M F V;go_wp2_with fail
 go_loopw [9] (fun C wr=>∃q:Nat,q <= n /\ C= .int .i64 q /\ Hid (IB wr w.heap.size n (fun j=>if j<q then j else 0)) /\ Hid (Below w.heap.size w wr)) (fun C _=>n-(intOf C).toNat)
 case atStart=>exact⟨0,Nat.zero_le _,rfl,lH (h.o.congr (fun j _=>by rw[if_neg oM])),r⟩
 case round=>
  clear h r;obtain⟨q,Z,rfl,h,r⟩:=hrel;by_cases a0:((q:Nat):Int)<((n:Nat):Int)
  ·have R:q<n:=oM
   have kc:=h.o.at_ R;have W:=h.o.free q;have X:=h.o.lt;go_wp2_with fail
   clear kc W X;have G:World.grownBy _ (World.setCell _ ⟨w.heap.size,q,none⟩ (.int .i64 (q:Nat))) (some w.heap.size):=grownBy_set wr w.heap.size q (.int .i64 (q:Nat))
   have T:=lH ((h.o.set (j:=q) (x:=q) R).congr (f':=fun j=>if j<q+1 then j else 0) (fun j _=>by
    by_cases e:j=q
    ·subst e;rw[Lp.upd_same,if_pos oM]
    ·rw[Lp.eT _ _ e];by_cases E:j<q
     ·rw[if_pos E,if_pos oM]
     ·rw[if_neg E,if_neg oM]))
   have U:=lH (r.o.grown G r.o.size (by first | (simp;done) | (simp;omega)));clear G;go_roundw
   case rel=>exact⟨q+1,by omega,by go_num,T,U⟩
   case measure=>exact mZ
  ·obtain rfl:q=n:=oM
   go_wp2_with fail
   go_returns;have t:(List.range q).length=q:=List.length_range;refine⟨.slice (some ⟨w.heap.size,0,none⟩) q q,rfl,⟨some ⟨w.heap.size,0,none⟩,q,by rw[t],by rw[t];exact Nat.le_refl _,by unfold maxLen;omega, .inr ⟨w.heap.size,rfl,?_⟩⟩,r.o⟩;rw[t];exact h.o.congr fun j O=>by rw[if_pos O,List.getD_eq_getElem?_getD,List.getElem?_range O];rfl
set_option maxRecDepth 100000 in
set_option maxHeartbeats 3200000 in
theorem LU(v:Value)(l:List Nat)(i:Nat)(w:World)(h:Li w v l)(hn:l.length <= 1000000000):
  Calls prog 86 #[v, .int .i64 i] w fun e w'=>∃v',e= .returned v' /\ Li w' v' (wo l i) /\ Below w.heap.size w w':=by
 obtain⟨A,c,rfl,_,_⟩:=h.shape;obtain⟨iI,a7,aa,ab,ac⟩:=info_parts zn;have HA:=lH h;clear h;go_enter func86,ntmps86;go_wp2_with fail
 go_loopw [5,10] (fun ov X wr=>∃ (q r:Nat) (B:Option Addr) (d:Nat),q <= l.length /\ ov= .slice B r d /\ X= .int .i64 q /\ Hid (r=(wo (l.take q) i).length) /\ Hid (eY wr (.slice B r d) 3 r (pQ fun j=>(wo l i).getD j 0)) /\ Hid (∀g,(Value.slice B r d).ownBlock=some g -> w.heap.size <= g) /\ Hid (Below w.heap.size w wr)) (fun _ X _=>l.length-(intOf X).toNat)
 case atStart=>exact⟨0,0,none,0,Nat.zero_le _,rfl,rfl,lH rfl,lH (eY.nil _ _ _),lH (fun g hg=>by simp[Value.ownBlock] at hg),lH (Below.refl _ _)⟩
 case round=>
  obtain⟨q,r,B,d,hq,rfl,rfl,E,G,F,t⟩:=hrel;by_cases ad:((q:Nat):Int)<((l.length:Nat):Int)
  ·have a2:q<l.length:=oM
   obtain⟨x,W⟩:∃x,l[q]? =some x:=⟨_,List.getElem?_eq_getElem a2⟩
   have M:=lH W;obtain⟨gA,rfl,T⟩:=HA.o.at_ oM;have kc:=(T.below t.o).at_ a2;rw[List.getD_eq_getElem?_getD,W] at kc;have a3: wr.cell? ⟨gA,q,none⟩=some (.int .i64 (x:Nat)):=kc;have a4:=(T.below t.o).lt;have ae:r <= 1000000000:=by have:=E.o;have:=Lu (l.take q) i;have:=List.length_take_le q l;omega
   clear T kc W;by_cases C:x=i
   ·have O:(x !=i)=false:=by simpa using C
    have R:((x:Int) != (i:Int))=false:=by simp[C]
    go_wp2_with fail
    clear a3 a4 O R;go_roundw
    case rel=>exact⟨q+1,r,B,d,by omega,rfl,by go_num,lH (by rw[E.o,Lt M.o,if_pos C,List.append_nil]),G,F,t⟩
    case measure=>exact mZ
   ·have Y:=lH C;have O:(x !=i)=true:=by simpa using C
    have R:((x:Int) != (i:Int))=true:=by simp;omega
    clear C
    go_wp2_with (at_builtin;(refine wpList_plain rfl fun K hK=>qO _ (.tmp 17) (.tmp 19) 76 rfl 3 iI (.int .i64 0) 8 underlying76 a7 aa ab ac rfl (.slice B r d) r _ rfl G.o (.int .i64 (x:Nat)) rfl (by show _=Value.int .i64 (((wo l i).getD r 0:Nat):Int);rw[E.o,LF M.o Y.o]) rfl ⟨by unfold maxLen;omega,by omega⟩ ?_))
    intro va w3 U V;obtain⟨B2,d2,a9,_,_⟩:=eY.shape U;subst a9;have Z:=V.below (B:=w.heap.size) t.o.size F.o;have a0:=V.base t.o.size F.o;have a6:=lH U;replace t:=lH (t.o.trans Z);have a5:=lH a0;clear Z a0 U V G F a3 a4 O R;refine hK _ _ ?_;go_wp2_with fail
    go_roundw
    case rel=>exact⟨q+1,r+1,B2,d2,by omega,rfl,by go_num,lH (by rw[Lt M.o,if_neg Y.o,List.length_append, <- E.o];rfl),a6,a5,t⟩
    case measure=>exact mZ
  ·have a1:q=l.length:=oM
   have a8:Hid (r=(wo l i).length):=lH (by rw[E.o,a1,List.take_length]);clear a1;go_wp2_with fail
   go_returns;have e:=a8.o;subst e;exact⟨_,rfl,G.o.ints,t.o⟩
end
section
open Go.RowKit
open Lp (RL upd eu)
theorem nz.kind{w:World}{m n K:Nat}{A:Nat -> Nat -> Rat}{b c:Nat -> Rat}{v:Value}(h:nz w m n K A b c v):
  ∃ (kk:Int) (s:Bool) (A':Option Addr) (l c':Nat) (t:Bool) (B:Option Addr) (d f:Nat) (P:Option Addr) (U r:Nat) (Y:Option Addr) (W C:Nat) (R:Option Addr) (V cr:Nat) (q:Rat) (x y z:Nat -> Rat),
   v= .agg #[.int .i64 kk, .bool s, .slice A' l c', .bool t, .slice B d f, .slice P U r, .slice Y W C, .slice R V cr] /\ (1 <= kk /\ kk <= 3) /\ (kk=1 -> eO w (.agg #[.bool s, .slice A' l c', .bool t, .slice B d f]) q /\ RL K q) /\ kI m n kk A b c q x y z:=by
 cases h with
 | opt s A' l c' t B d f P r Y C q x y h1 E G F M O X T=>exact⟨1,s,A',l,c',t,B,d,f,P,n,r,Y,m,C,none,0,0,q,x,y,x,h1,⟨by decide,by decide⟩,fun _=>⟨E,M⟩,⟨fun _=>T,fun e=>absurd e dC,fun e=>absurd e dC⟩⟩
 | inf Y C y h1 E G F=>exact⟨2,false,none,0,0,false,none,0,0,none,0,0,Y,m,C,none,0,0,0,y,y,y,h1,⟨by decide,by decide⟩,fun e=>absurd e dC,⟨fun e=>absurd e dC,fun _=>F,fun e=>absurd e dC⟩⟩
 | unb P r R cr x d h1 E G F M O=>exact⟨3,false,none,0,0,false,none,0,0,P,n,r,none,0,0,R,n,cr,0,x,x,d,h1,⟨by decide,by decide⟩,fun e=>absurd e dC,⟨fun e=>absurd e dC,fun e=>absurd e dC,fun _=>O⟩⟩
def Ll(r n:Nat)(A:Nat -> Nat -> Rat)(bq:Nat -> Rat)(a:Nat -> Rat)(β:Rat)(z:Bool):Prop:=
 ∃ (kk:Int) (q:Rat) (x y d:Nat -> Rat),(1 <= kk /\ kk <= 3) /\ kI r n kk A bq a q x y d /\ z=decide (kk=2 \/ kk=1 /\ q <= β)
def pick{α:Type}(l:List Nat)(f:Nat -> α)(j:Nat):α:=f (l.getD j 0)
def Lv(w:World)(n:Nat)(l:List Nat)(A:Nat -> Nat -> Rat)(j:Nat)(u:Value):Prop:=∃X x,u= .slice X n x /\ (X=none -> x=0) /\ eZ w (.slice X n x) n (pick l A j)
theorem eY.LV{w w':World}{v:Value}{r n:Nat}{l:List Nat}{A:Nat -> Nat -> Rat}(h:eY w' v 95 r (Lv w n l A))(G:Below w.heap.size w w'):iD w' v r n (pick l A):=by
 obtain⟨A',c,rfl,h1,C⟩:=h.shape;refine⟨A',c,rfl,h1,C,?_⟩
 rcases Nat.eq_zero_or_pos r with h0 | h0
 ·exact .inl h0
 ·obtain⟨g,c',cs,t,R,_,O⟩:=h.done h0;simp only[Value.slice.injEq,true_and] at t;refine .inr ⟨g,t.1,fun i M=> ?_⟩;obtain⟨u,T,X,x,rfl,E,F⟩:=O i M;exact⟨X,x,R.at_ _ T,E,F.below G⟩
theorem Lx{a b:Rat}:jq a b <= 0↔a <= b:=by
 unfold jq;by_cases h:a<b
 ·rw[if_pos h];exact⟨fun _=>Rat.le_of_lt h,fun _=>by decide⟩
 ·rw[if_neg h];by_cases e:a=b
  ·rw[if_pos e];exact⟨fun _=>by rw[e];exact Rat.le_refl,fun _=>by decide⟩
  ·rw[if_neg e];refine⟨fun r=>absurd r dC,fun r=> ?_⟩;exact absurd (Rat.lt_of_le_of_ne r e) h
set_option maxRecDepth 100000 in
set_option maxHeartbeats 12800000 in
theorem LW(AC AR AD:Option Addr)(nC n m cC cR cD:Nat)(A:Nat -> Nat -> Rat)(bq:Nat -> Rat)(i:Nat)(vl:Value)(l:List Nat)(K:Nat)(w:World)(hA:iD w (.slice AR m cR) m n A)(E:eZ w (.slice AD m cD) m bq)(hl:Li w vl l)(hi:i<m)(bs:∀k,k ∈ l -> k<m)(hn:n <= 1000000000)(hm:m <= 1000000000)(br:l.length <= 1000000000)
  (bo:∀i,i<m -> ∀j,j<n -> RL K (A i j)) (bp:∀i,i<m -> RL K (bq i)) (bi:0<K) (bj:K <= 65536) (F:Lp.wide l.length n K+1 <= 1000000):
  Calls prog 85 #[.agg #[.slice AC nC cC, .slice AR m cR, .slice AD m cD], .int .i64 i,vl] w fun e w'=>∃z,e= .returned (.bool z) /\ Ll l.length n (pick l A) (pick l bq) (A i) (bq i) z /\ Below w.heap.size w w':=by
 obtain⟨AL,cL,rfl,_,_⟩:=hl.shape;have aU:=lH hA;have aW:=lH E;have aY:=lH hl;have ag:=lH hi;have aZ:=lH bs;have HN:=lH (And.intro hn (And.intro hm br));have ax:=lH (And.intro bo bp);have HK:=lH (And.intro bi F);have bE:=lH bj;clear hA E hl bs hn hm br bo bp bi F bj hi;obtain⟨iS,aJ,aO,aP,aQ⟩:=info_parts zo;obtain⟨W,hW,QB,C⟩:=eN1 w [.slice AC nC cC, .slice AR m cR, .slice AD m cD] 98;go_enter func85,ntmps85;have ae:=C;have HA:=lH (aU.o.below ae.o);have HD:=lH (aW.o.below ae.o);have HI:=lH (aY.o.below ae.o);clear aU aW aY;obtain⟨gR,rfl,T⟩:=HA.o.at_ (by have:=ag.o;omega);obtain⟨gD,rfl,bx⟩:=HD.o.at_ (by have:=ag.o;omega);have b5:=lH T;have b3:=lH bx;clear T bx;obtain⟨X,x,ak,am,ao⟩:=b5.o i ag.o;have HX:=lH (And.intro am ao);have bZ:=lH ak;have c4:Hid (w.heap.size<W.heap.size):=lH QB.o.lt;clear am ao;have bA:=aI 1 QB;have bB:=QB.o.lt;have aC:=eG ak;have bl:((i:Nat):Int)<((m:Nat):Int):=by have:=ag.o;omega
 have bL:i<m:=ag.o;rw[hW] at ak aC bA bB;obtain⟨w1,aA⟩:=eX (W.alloc (.cells #[.slice X n x, .slice none 0 0, .slice none 0 0] 98));obtain⟨gP,az⟩:=eX (W.heap.size);have r:Hid (Row w1 gP 98 [.slice X n x, .slice none 0 0, .slice none 0 0]):=lH (by rw[aA,az];exact eP _ _);have bk:Below W.heap.size W w1:=by rw[aA];exact eD _ _
 have aV:=lH bk;have aD:Hid (W.heap.size <= gP):=lH (by rw[az];exact Nat.le_refl _);clear bk C;have C:=aV;clear aV;go_wp2_with fail
 have bz:w.heap.size+1=gP:=by rw[az,hW];simp
 rw[<- hW, <- aA,bz];clear hW aA az bz ak aC bl bL bA bB
 go_loopw [19] (fun iv wr=>∃ (q:Nat) (Ar:Option Addr) (cr:Nat) (Ad:Option Addr) (cd:Nat),q <= l.length /\ iv= .int .i64 q /\ Hid (eY wr (.slice Ar q cr) 95 q (Lv W n l A)) /\ Hid (gH wr (.slice Ad q cd) q (pick l bq)) /\ Hid (∀g,(Value.slice Ar q cr).ownBlock=some g -> W.heap.size <= g) /\ Hid (∀g,(Value.slice Ad q cd).ownBlock=some g -> W.heap.size <= g) /\ Hid (Row wr gP 98 [.slice X n x, .slice Ar q cr, .slice Ad q cd]) /\ Hid (Below W.heap.size W wr))
  (fun iv _=>l.length-(intOf iv).toNat)
 case atStart=>exact⟨0,none,0,none,0,Nat.zero_le _,rfl,lH (eY.nil _ _ _),lH (gH.nil _ _),lH (fun g hg=>by simp[Value.ownBlock] at hg),lH (fun g hg=>by simp[Value.ownBlock] at hg),r,C⟩
 case round=>
  clear r C;obtain⟨q,Ar,cr,Ad,cd,hq,rfl,G,M,LR,LQ,r,C⟩:=hrel;by_cases c6:((q:Nat):Int)<((l.length:Nat):Int)
  ·have bw:q<l.length:=oM
   have c5:((q:Nat):Int) <= 1000000000:=by have:=HN.o.2.2;omega
   obtain⟨k,hk⟩:∃k,l[q]? =some k:=⟨_,List.getElem?_eq_getElem bw⟩
   have b7:=lH hk;have aM:k<m:=aZ.o k (List.mem_of_getElem? hk);have c0:=lH aM;obtain⟨gL,rfl,aK⟩:=HI.o.at_ oM;have kc:=(aK.below C.o).at_ bw;rw[List.getD_eq_getElem?_getD,hk] at kc;have bQ: wr.cell? ⟨gL,q,none⟩=some (.int .i64 (k:Nat)):=kc;have aC:=(aK.below C.o).lt;clear aK kc hk
   go_upto_region 5 with (fail)
   clear bQ aC;have aE:Hid (pick l bq q=bq k):=lH (by unfold pick;rw[List.getD_eq_getElem?_getD,b7.o];rfl);have bF:Hid (pick l A q=A k):=lH (by unfold pick;rw[List.getD_eq_getElem?_getD,b7.o];rfl);obtain⟨Xk,xk,ak,am,ao⟩:=b5.o k aM;have aG:Hid (Lv W n l A q (.slice Xk n xk)):=lH ⟨Xk,xk,rfl,am,by rw[bF.o];exact ao⟩;clear am ao;obtain⟨sy,Ay,ly,cy,ty,By,my,dy,hQ,hv⟩:=b3.o.fO aM;have VY:=lH hv;clear hv
   have V:Hid (∀w',Below W.heap.size W w' -> (w'.cell? ⟨w.heap.size,1,none⟩=some (.slice (some ⟨gR,0,none⟩) m cR) /\ w'.cell? ⟨w.heap.size,2,none⟩=some (.slice (some ⟨gD,0,none⟩) m cD) /\ w'.cell? ⟨gR,k,none⟩=some (.slice Xk n xk) /\ w'.cell? ⟨gD,k*4,none⟩=some (.bool sy) /\ w'.cell? ⟨gD,k*4+1,none⟩=some (.slice Ay ly cy) /\ w'.cell? ⟨gD,k*4+2,none⟩=some (.bool ty) /\ w'.cell? ⟨gD,k*4+3,none⟩=some (.slice By my dy))):=lH (fun w' E=>by
    obtain⟨q0,q1,q2,q3⟩:=hQ
    exact⟨cell_below E (QB.o.at_ 1 rfl),cell_below E (QB.o.at_ 2 rfl),cell_below E ak,cell_below E q0,cell_below E q1,cell_below E q2,cell_below E q3⟩)
   clear ak hQ;have aL:((k:Nat):Int)<((m:Nat):Int):=oM
   have c3:Hid (∀g,(Value.slice Ar q cr).ownBlock=some g -> g<wr.heap.size):=lH (fun g e=>G.o.lt e);have c2:Hid (∀g,(Value.slice Ad q cd).ownBlock=some g -> g<wr.heap.size):=lH (fun g e=>M.o.lt e)
   skip
   refine kT (fun w'=> w'.cell? ⟨gP,1,none⟩=some (.slice Ar q cr) /\ w'.cell? ⟨gP,2,none⟩=some (.slice Ad q cd) /\ w'.cell? ⟨w.heap.size,1,none⟩=some (.slice (some ⟨gR,0,none⟩) m cR) /\ w'.cell? ⟨w.heap.size,2,none⟩=some (.slice (some ⟨gD,0,none⟩) m cD) /\ w'.cell? ⟨gR,k,none⟩=some (.slice Xk n xk) /\ w'.cell? ⟨gD,k*4,none⟩=some (.bool sy) /\ w'.cell? ⟨gD,k*4+1,none⟩=some (.slice Ay ly cy) /\ w'.cell? ⟨gD,k*4+2,none⟩=some (.bool ty) /\ w'.cell? ⟨gD,k*4+3,none⟩=some (.slice By my dy)) (fun i=>decide (19 <= i)) kR ?_;obtain⟨wD,aN⟩:=eX (wr.drew);rw[<- aN];have E:Below wr.heap.size wr wD:=by rw[aN];exact(Below.refl _ _).drew
   clear aN;have a5:Hid (wr.heap.size <= wD.heap.size):=lH E.size;replace r:=rW r E;replace G:=lH (G.o.below E);replace M:=lH (M.o.below E);replace C:=bT C E;clear E;have h:=And.intro (r.o.at_ 1 rfl) (And.intro (r.o.at_ 2 rfl) (V.o _ C.o));refine tKs 0 23 h ?_;refine tKs 1 24 h ?_;refine tKs 2 25 h ?_;refine tKs 3 26 h ?_;refine tKs 4 27 h ?_;refine tKs 5 28 h ?_;refine tKs 6 29 h ?_;refine tKs 9 32 h ?_;refine tKs 10 33 h ?_;refine tB 11 [11,12,14,15,16,17] (some 34) h ?_;refine tB 12 [12,14,15,16,17] (some 35) h ?_;refine tB 13 [13,14,15,16,17] (some 36) h ?_;refine tB 14 [14,15,16,17] (some 37) h ?_;refine tB 15 [15,16,17] (some 38) h ?_;refine lw (rs:=[7,16]) kR (by simp) (gG.cons rfl (fun K F=> ?_) (gG.cons rfl (fun K F=> ?_) gG.nil))
   ·go_simp;obtain⟨ga,a0⟩:=eX (wD.heap.size);have T:Row (wD.alloc (.cells #[.slice Xk n xk] 95)) wD.heap.size 95 [.slice Xk n xk]:=eP _ _;have E:=eD wD (.cells #[.slice Xk n xk] 95);obtain⟨ya,ac⟩:=eX (wD.alloc (.cells #[.slice Xk n xk] 95));rw[<- ac] at T E ⊢;rw[<- a0] at T ⊢;have bC:Hid (wr.heap.size <= ga):=lH (by rw[a0];exact a5.o);replace a5:Hid (wr.heap.size <= ya.heap.size):=lH (Nat.le_trans a5.o E.size);clear ac a0;replace r:=rW r E;replace G:=lH (G.o.below E);replace M:=lH (M.o.below E);replace C:=bT C E;clear E;have Ra:=lH T;clear T;clear h;have h:=And.intro (r.o.at_ 1 rfl) (And.intro (r.o.at_ 2 rfl) (V.o _ C.o));refine kH F h ?_;clear F K;refine lw (rs:=[8,16]) kR (by simp) (gG.cons rfl (fun K F=> ?_) (gG.cons rfl (fun K F=> ?_) gG.nil))
    ·rw[if_pos (by rfl)];refine vZ _ (.tmp 24) (.tmp 30) 96 rfl 95 iS (.slice none 0 0) 24 underlying96 aJ aO aP aQ rfl (.slice Ar q cr) q _ rfl G.o (.slice Xk n xk) rfl aG.o ga Ra.o rfl ⟨by unfold maxLen;omega,by omega⟩ ?_;intro va au Z O;obtain⟨a9,ab,rfl,_,_⟩:=Z.shape;have a6:=O.below (B:=W.heap.size) C.o.size LR.o;have a7:=O.base C.o.size LR.o;have ad:=O.grown.size;replace M:=lH (by obtain⟨xs,ap,_⟩:=G.o;exact M.o.turned O ap dC (zl (fun g e=>M.o.row e) (fun g e=>G.o.row e) dC));replace r:=lH (r.o.turned O (fun e=>by obtain⟨_,U⟩:=G.o.row e;exact absurd (r.o.ty U) dC));replace C:=lH (C.o.trans a6);clear G LR;have G:=lH Z;have LR:=lH a7;replace a5:=lH (Nat.le_trans a5.o ad);clear a6 Z O a7 ad;clear h;have h:=And.intro (r.o.at_ 1 rfl) (And.intro (r.o.at_ 2 rfl) (V.o _ C.o));refine kH F h ?_;clear F K;refine tKs 18 41 h ?_;refine rD 16 (fun K F=> ?_);go_simp;obtain⟨gc,a0⟩:=eX (au.heap.size);have T:Row (au.alloc (.cells #[.bool sy, .slice Ay ly cy, .bool ty, .slice By my dy] 105)) au.heap.size 105 [.bool sy, .slice Ay ly cy, .bool ty, .slice By my dy]:=eP _ _;have E:=eD au (.cells #[.bool sy, .slice Ay ly cy, .bool ty, .slice By my dy] 105);obtain⟨bU,ac⟩:=eX (au.alloc (.cells #[.bool sy, .slice Ay ly cy, .bool ty, .slice By my dy] 105));rw[<- ac] at T E ⊢;rw[<- a0] at T ⊢;have aX:Hid (wr.heap.size <= gc):=lH (by rw[a0];exact a5.o);replace a5:Hid (wr.heap.size <= bU.heap.size):=lH (Nat.le_trans a5.o E.size);clear ac a0;replace r:=rW r E;replace G:=lH (G.o.below E);replace M:=lH (M.o.below E);replace C:=bT C E;clear E;have Rc:=lH T;clear T;clear h;have h:=And.intro (r.o.at_ 1 rfl) (And.intro (r.o.at_ 2 rfl) (V.o _ C.o));refine kH F h ?_;clear F K;refine rD 17 (fun K F=> ?_);rw[if_pos (by rfl)];refine wh _ (.tmp 33) (.tmp 39) rfl (.slice Ad q cd) q _ rfl M.o sy Ay ly cy ty By my dy (by rw[aE.o];exact VY.o.below C.o) gc Rc.o rfl oM ?_;intro va aR Z O;obtain⟨a8,aa,rfl,_,_⟩:=Z.shape;have a6:=O.below (B:=W.heap.size) C.o.size LQ.o;have a7:=O.base C.o.size LQ.o;have ad:=O.grown.size;replace G:=lH (G.o.turned O (zl (fun g e=>G.o.row e) (fun g e=>M.o.row e) dC));replace r:=lH (r.o.turned O (fun e=>by obtain⟨_,U⟩:=M.o.row e;exact absurd (r.o.ty U) dC));replace C:=lH (C.o.trans a6);clear M LQ;have M:=lH Z;have LQ:=lH a7;clear a6 Z O a7 ad;clear h;have h:=And.intro (r.o.at_ 1 rfl) (And.intro (r.o.at_ 2 rfl) (V.o _ C.o));refine kH F h ?_;clear F K;have q1:=aI 1 r;have q2:=aI 2 r;have aq:=r.o.free 1;have ar:=r.o.free 2;have ql:=r.o.lt;refine rD 19 (fun K F=> ?_);go_simp;refine kL F ?_;clear F K;refine tWs 20 42 ?_;refine rD 21 (fun K F=> ?_);go_simp;refine kL F ?_;clear F K;refine dN ?_ _;clear h q1 q2 aq ar ql aL;have hg:World.grownBy aR ((aR.setCell ⟨gP,1,none⟩ (.slice a9 (q+1) ab)).setCell ⟨gP,2,none⟩ (.slice a8 (q+1) aa)) (some gP):=grownBy_trans (grownBy_set _ _ _ _) (grownBy_set _ _ _ _);have PN:=(r.o.set 1 (.slice a9 (q+1) ab)).set 2 (.slice a8 (q+1) aa);have RN:=G.o.other hg (fun e=>by obtain⟨_,U⟩:=G.o.row e;exact absurd (r.o.ty U) dC);have QN:=M.o.other hg r.o dC (fun e=>by obtain⟨_,U⟩:=M.o.row e;exact absurd (r.o.ty U) dC);have ah:=C.o.grown hg C.o.size (by have:=aD.o;first | (simp;done) | (simp;omega));obtain⟨wE,aj⟩:=eX (((aR.setCell ⟨gP,1,none⟩ (.slice a9 (q+1) ab)).setCell ⟨gP,2,none⟩ (.slice a8 (q+1) aa)));rw[<- aj] at PN RN QN ah ⊢;clear aj hg;go_wp2_with fail
     go_roundw
     case rel=>exact⟨q+1,a9,ab,a8,aa,by omega,by go_num,lH RN,lH QN,LR,LQ,lH PN,lH ah⟩
     case measure=>exact mZ
    ·go_simp;obtain⟨gc,a0⟩:=eX (ya.heap.size);have T:Row (ya.alloc (.cells #[.bool sy, .slice Ay ly cy, .bool ty, .slice By my dy] 105)) ya.heap.size 105 [.bool sy, .slice Ay ly cy, .bool ty, .slice By my dy]:=eP _ _;have E:=eD ya (.cells #[.bool sy, .slice Ay ly cy, .bool ty, .slice By my dy] 105);obtain⟨bW,ac⟩:=eX (ya.alloc (.cells #[.bool sy, .slice Ay ly cy, .bool ty, .slice By my dy] 105));rw[<- ac] at T E ⊢;rw[<- a0] at T ⊢;have aX:Hid (wr.heap.size <= gc):=lH (by rw[a0];exact a5.o);replace a5:Hid (wr.heap.size <= bW.heap.size):=lH (Nat.le_trans a5.o E.size);clear ac a0;replace r:=rW r E;replace Ra:=rW Ra E;replace G:=lH (G.o.below E);replace M:=lH (M.o.below E);replace C:=bT C E;clear E;have Rc:=lH T;clear T;clear h;have h:=And.intro (r.o.at_ 1 rfl) (And.intro (r.o.at_ 2 rfl) (V.o _ C.o));refine kH F h ?_;clear F K;refine rD 8 (fun K F=> ?_);rw[if_pos (by rfl)];refine vZ _ (.tmp 24) (.tmp 30) 96 rfl 95 iS (.slice none 0 0) 24 underlying96 aJ aO aP aQ rfl (.slice Ar q cr) q _ rfl G.o (.slice Xk n xk) rfl aG.o ga Ra.o rfl ⟨by unfold maxLen;omega,by omega⟩ ?_;intro va c7 Z O;obtain⟨a9,ab,rfl,_,_⟩:=Z.shape;have a6:=O.below (B:=W.heap.size) C.o.size LR.o;have a7:=O.base C.o.size LR.o;have ad:=O.grown.size;replace M:=lH (by obtain⟨xs,ap,_⟩:=G.o;exact M.o.turned O ap dC (zl (fun g e=>M.o.row e) (fun g e=>G.o.row e) dC));replace r:=lH (r.o.turned O (fun e=>by obtain⟨_,U⟩:=G.o.row e;exact absurd (r.o.ty U) dC));replace Rc:=lH (Rc.o.turned O (fun e=>by obtain⟨_,U⟩:=G.o.row e;exact absurd (Rc.o.ty U) dC));replace C:=lH (C.o.trans a6);clear G LR;have G:=lH Z;have LR:=lH a7;clear a6 Z O a7 ad;clear h;have h:=And.intro (r.o.at_ 1 rfl) (And.intro (r.o.at_ 2 rfl) (V.o _ C.o));refine kH F h ?_;clear F K;refine tKs 18 41 h ?_;refine rD 17 (fun K F=> ?_);rw[if_pos (by rfl)];refine wh _ (.tmp 33) (.tmp 39) rfl (.slice Ad q cd) q _ rfl M.o sy Ay ly cy ty By my dy (by rw[aE.o];exact VY.o.below C.o) gc Rc.o rfl oM ?_;intro va aS Z O;obtain⟨a8,aa,rfl,_,_⟩:=Z.shape;have a6:=O.below (B:=W.heap.size) C.o.size LQ.o;have a7:=O.base C.o.size LQ.o;have ad:=O.grown.size;replace G:=lH (G.o.turned O (zl (fun g e=>G.o.row e) (fun g e=>M.o.row e) dC));replace r:=lH (r.o.turned O (fun e=>by obtain⟨_,U⟩:=M.o.row e;exact absurd (r.o.ty U) dC));replace C:=lH (C.o.trans a6);clear M LQ;have M:=lH Z;have LQ:=lH a7;clear a6 Z O a7 ad;clear h;have h:=And.intro (r.o.at_ 1 rfl) (And.intro (r.o.at_ 2 rfl) (V.o _ C.o));refine kH F h ?_;clear F K;have q1:=aI 1 r;have q2:=aI 2 r;have aq:=r.o.free 1;have ar:=r.o.free 2;have ql:=r.o.lt;refine rD 19 (fun K F=> ?_);go_simp;refine kL F ?_;clear F K;refine tWs 20 42 ?_;refine rD 21 (fun K F=> ?_);go_simp;refine kL F ?_;clear F K;refine dN ?_ _;clear h q1 q2 aq ar ql aL;have hg:World.grownBy aS ((aS.setCell ⟨gP,1,none⟩ (.slice a9 (q+1) ab)).setCell ⟨gP,2,none⟩ (.slice a8 (q+1) aa)) (some gP):=grownBy_trans (grownBy_set _ _ _ _) (grownBy_set _ _ _ _);have PN:=(r.o.set 1 (.slice a9 (q+1) ab)).set 2 (.slice a8 (q+1) aa);have RN:=G.o.other hg (fun e=>by obtain⟨_,U⟩:=G.o.row e;exact absurd (r.o.ty U) dC);have QN:=M.o.other hg r.o dC (fun e=>by obtain⟨_,U⟩:=M.o.row e;exact absurd (r.o.ty U) dC);have ah:=C.o.grown hg C.o.size (by have:=aD.o;first | (simp;done) | (simp;omega));obtain⟨wE,aj⟩:=eX (((aS.setCell ⟨gP,1,none⟩ (.slice a9 (q+1) ab)).setCell ⟨gP,2,none⟩ (.slice a8 (q+1) aa)));rw[<- aj] at PN RN QN ah ⊢;clear aj hg;go_wp2_with fail
     go_roundw
     case rel=>exact⟨q+1,a9,ab,a8,aa,by omega,by go_num,lH RN,lH QN,LR,LQ,lH PN,lH ah⟩
     case measure=>exact mZ
   ·go_simp;obtain⟨gc,a0⟩:=eX (wD.heap.size);have T:Row (wD.alloc (.cells #[.bool sy, .slice Ay ly cy, .bool ty, .slice By my dy] 105)) wD.heap.size 105 [.bool sy, .slice Ay ly cy, .bool ty, .slice By my dy]:=eP _ _;have E:=eD wD (.cells #[.bool sy, .slice Ay ly cy, .bool ty, .slice By my dy] 105);obtain⟨yc,ac⟩:=eX (wD.alloc (.cells #[.bool sy, .slice Ay ly cy, .bool ty, .slice By my dy] 105));rw[<- ac] at T E ⊢;rw[<- a0] at T ⊢;have aX:Hid (wr.heap.size <= gc):=lH (by rw[a0];exact a5.o);replace a5:Hid (wr.heap.size <= yc.heap.size):=lH (Nat.le_trans a5.o E.size);clear ac a0;replace r:=rW r E;replace G:=lH (G.o.below E);replace M:=lH (M.o.below E);replace C:=bT C E;clear E;have Rc:=lH T;clear T;clear h;have h:=And.intro (r.o.at_ 1 rfl) (And.intro (r.o.at_ 2 rfl) (V.o _ C.o));refine kH F h ?_;clear F K;refine rD 7 (fun K F=> ?_);go_simp;obtain⟨ga,a0⟩:=eX (yc.heap.size);have T:Row (yc.alloc (.cells #[.slice Xk n xk] 95)) yc.heap.size 95 [.slice Xk n xk]:=eP _ _;have E:=eD yc (.cells #[.slice Xk n xk] 95);obtain⟨bX,ac⟩:=eX (yc.alloc (.cells #[.slice Xk n xk] 95));rw[<- ac] at T E ⊢;rw[<- a0] at T ⊢;have bC:Hid (wr.heap.size <= ga):=lH (by rw[a0];exact a5.o);replace a5:Hid (wr.heap.size <= bX.heap.size):=lH (Nat.le_trans a5.o E.size);clear ac a0;replace r:=rW r E;replace Rc:=rW Rc E;replace G:=lH (G.o.below E);replace M:=lH (M.o.below E);replace C:=bT C E;clear E;have Ra:=lH T;clear T;clear h;have h:=And.intro (r.o.at_ 1 rfl) (And.intro (r.o.at_ 2 rfl) (V.o _ C.o));refine kH F h ?_;clear F K;refine rD 8 (fun K F=> ?_);rw[if_pos (by rfl)];refine vZ _ (.tmp 24) (.tmp 30) 96 rfl 95 iS (.slice none 0 0) 24 underlying96 aJ aO aP aQ rfl (.slice Ar q cr) q _ rfl G.o (.slice Xk n xk) rfl aG.o ga Ra.o rfl ⟨by unfold maxLen;omega,by omega⟩ ?_;intro va c8 Z O;obtain⟨a9,ab,rfl,_,_⟩:=Z.shape;have a6:=O.below (B:=W.heap.size) C.o.size LR.o;have a7:=O.base C.o.size LR.o;have ad:=O.grown.size;replace M:=lH (by obtain⟨xs,ap,_⟩:=G.o;exact M.o.turned O ap dC (zl (fun g e=>M.o.row e) (fun g e=>G.o.row e) dC));replace r:=lH (r.o.turned O (fun e=>by obtain⟨_,U⟩:=G.o.row e;exact absurd (r.o.ty U) dC));replace Rc:=lH (Rc.o.turned O (fun e=>by obtain⟨_,U⟩:=G.o.row e;exact absurd (Rc.o.ty U) dC));replace C:=lH (C.o.trans a6);clear G LR;have G:=lH Z;have LR:=lH a7;clear a6 Z O a7 ad;clear h;have h:=And.intro (r.o.at_ 1 rfl) (And.intro (r.o.at_ 2 rfl) (V.o _ C.o));refine kH F h ?_;clear F K;refine tKs 18 41 h ?_;refine rD 17 (fun K F=> ?_);rw[if_pos (by rfl)];refine wh _ (.tmp 33) (.tmp 39) rfl (.slice Ad q cd) q _ rfl M.o sy Ay ly cy ty By my dy (by rw[aE.o];exact VY.o.below C.o) gc Rc.o rfl oM ?_;intro va aT Z O;obtain⟨a8,aa,rfl,_,_⟩:=Z.shape;have a6:=O.below (B:=W.heap.size) C.o.size LQ.o;have a7:=O.base C.o.size LQ.o;have ad:=O.grown.size;replace G:=lH (G.o.turned O (zl (fun g e=>G.o.row e) (fun g e=>M.o.row e) dC));replace r:=lH (r.o.turned O (fun e=>by obtain⟨_,U⟩:=M.o.row e;exact absurd (r.o.ty U) dC));replace C:=lH (C.o.trans a6);clear M LQ;have M:=lH Z;have LQ:=lH a7;clear a6 Z O a7 ad;clear h;have h:=And.intro (r.o.at_ 1 rfl) (And.intro (r.o.at_ 2 rfl) (V.o _ C.o));refine kH F h ?_;clear F K;have q1:=aI 1 r;have q2:=aI 2 r;have aq:=r.o.free 1;have ar:=r.o.free 2;have ql:=r.o.lt;refine rD 19 (fun K F=> ?_);go_simp;refine kL F ?_;clear F K;refine tWs 20 42 ?_;refine rD 21 (fun K F=> ?_);go_simp;refine kL F ?_;clear F K;refine dN ?_ _;clear h q1 q2 aq ar ql aL;have hg:World.grownBy aT ((aT.setCell ⟨gP,1,none⟩ (.slice a9 (q+1) ab)).setCell ⟨gP,2,none⟩ (.slice a8 (q+1) aa)) (some gP):=grownBy_trans (grownBy_set _ _ _ _) (grownBy_set _ _ _ _);have PN:=(r.o.set 1 (.slice a9 (q+1) ab)).set 2 (.slice a8 (q+1) aa);have RN:=G.o.other hg (fun e=>by obtain⟨_,U⟩:=G.o.row e;exact absurd (r.o.ty U) dC);have QN:=M.o.other hg r.o dC (fun e=>by obtain⟨_,U⟩:=M.o.row e;exact absurd (r.o.ty U) dC);have ah:=C.o.grown hg C.o.size (by have:=aD.o;first | (simp;done) | (simp;omega));obtain⟨wE,aj⟩:=eX (((aT.setCell ⟨gP,1,none⟩ (.slice a9 (q+1) ab)).setCell ⟨gP,2,none⟩ (.slice a8 (q+1) aa)));rw[<- aj] at PN RN QN ah ⊢;clear aj hg;go_wp2_with fail
    go_roundw
    case rel=>exact⟨q+1,a9,ab,a8,aa,by omega,by go_num,lH RN,lH QN,LR,LQ,lH PN,lH ah⟩
    case measure=>exact mZ
  ·have bv:q=l.length:=oM
   skip
   have b4:Hid (iD wr (.slice Ar q cr) q n (pick l A)):=lH (G.o.LV C.o);have b2:Hid (eZ wr (.slice Ad q cd) q (pick l bq)):=lH M.o.ky;have ay:=lH bv;have b0:Hid (∀j,j<q -> l.getD j 0<m):=lH (fun j hj=>aZ.o _ (by rw[List.getD_eq_getElem?_getD,List.getElem?_eq_getElem oM];exact List.getElem_mem _));clear G M LR LQ bv;obtain⟨bM,bO,bP⟩:=aT3 r.o;have bR:=r.o.lt;go_wp2_with fail
   clear bM bO bP bR;have a1:Hid (∀i,i<q -> ∀j,j<n -> RL K (pick l A i j)):=lH (fun j hj c hc=>ax.o.1 (l.getD j 0) (b0.o j hj) c hc);have a2:Hid (∀i,i<q -> RL K (pick l bq i)):=lH (fun j hj=>ax.o.2 (l.getD j 0) (b0.o j hj));have a3:Hid (Lp.wide q n K <= 100000000000):=lH (by rw[ay.o];have:=HK.o.2;omega);have a4:Hid (q <= 1000000000):=lH (by rw[ay.o];exact HN.o.2.2);refine(Cr X Ar Ad n q x cr cd K (pick l A) (pick l bq) (A i) _ (HX.o.2.below C.o) (ax.o.1 i ag.o) b4.o b2.o HN.o.1 a4.o a1.o a2.o HK.o.1 a3.o).mono ?_;rintro e w2 ⟨v,rfl,hv,E⟩;replace C:=bT C E;clear E b4 b2 r;obtain⟨kk,s,A1,l1,c1,t,B1,d1,f1,P,np,cp,Y,ny,cy,R,nr,b8,qq,xx,yy,zz,rfl,bm,bn,bu⟩:=hv.kind;have av:=lH bm;have aw:=lH bn;have b1:=lH bu;clear hv bm bn bu;obtain⟨w3,aB⟩:=eX (w2.alloc (.cells #[.int .i64 kk, .bool s, .slice A1 l1 c1, .bool t, .slice B1 d1 f1, .slice P np cp, .slice Y ny cy, .slice R nr b8] 107));obtain⟨gO,aH⟩:=eX (w2.heap.size);have OB:Hid (Row w3 gO 107 [.int .i64 kk, .bool s, .slice A1 l1 c1, .bool t, .slice B1 d1 f1, .slice P np cp, .slice Y ny cy, .slice R nr b8]):=lH (by rw[aB,aH];exact eP _ _);have E:Below w2.heap.size w2 w3:=by rw[aB];exact eD _ _
   replace aw:Hid (kk=1 -> eO w3 (.agg #[.bool s, .slice A1 l1 c1, .bool t, .slice B1 d1 f1]) qq /\ RL (Lp.wide q n K+1) qq):=lH (fun e=>⟨(aw.o e).1.below E,(aw.o e).2⟩);replace C:=bT C E;clear E
   go_upto_region 8 with (fail)
   rw[<- aB, <- aH];clear aB aH;have aF:Hid (kI l.length n kk (pick l A) (pick l bq) (A i) qq xx yy zz):=lH (by rw[<- ay.o];exact b1.o);clear b1;obtain⟨sy,Ay,ly,cy,ty,By,my,dy,hQ,hv⟩:=b3.o.fO ag.o;have VY:=lH hv;obtain⟨q0,q1,q2,q3⟩:=hQ;have Y0:=lH (cell_below C.o q0);have Y1:=lH (cell_below C.o q1);have Y2:=lH (cell_below C.o q2);have Y3:=lH (cell_below C.o q3);have QD:=lH (cell_below C.o (QB.o.at_ 2 rfl));clear q0 q1 q2 q3 hv;have bY:Hid (Below w.heap.size w w3):=lH (ae.o.trans (C.o.mono ae.o.size));obtain rfl | rfl | rfl:kk=1 \/ kk=2 \/ kk=3:=by have:=av.o;omega
   ·have bl:((i:Nat):Int)<((m:Nat):Int):=by have:=ag.o;omega
    have b6:=lH (aw.o rfl);have VQ:=lH b6.o.1;go_wp2_with fail
    have af:=rG w3;have al:=OB.o.lt;obtain⟨ai,be,bf,bg,bh⟩:=aT5 OB.o;have bG:=eG QD.o;have b9:=QD.o;have bH:=eG Y0.o;have ba:=Y0.o;have bI:=eG Y1.o;have bb:=Y1.o;have bJ:=eG Y2.o;have bc:=Y2.o;have bK:=eG Y3.o;have bd:=Y3.o;have V:=lH (kC ai (kC be (kC bf (kC bg (kC bh (kC b9 (kC ba (kC bb (kC bc (kN bd))))))))));clear al ai be bf bg bh bG b9 bH ba bI bb bJ bc bK bd;refine rL V.o (fun i=>false) ?_;have h:=V.o _ af.o;refine tKs 0 46 h ?_;refine tKs 1 47 h ?_;refine tKs 2 48 h ?_;refine tKs 3 49 h ?_;refine tKs 4 50 h ?_;refine tKs 5 51 h ?_;refine tKs 6 52 h ?_;refine tKs 7 53 h ?_;refine tKs 8 54 h ?_;refine tKs 9 55 h ?_;refine tKs 10 56 h ?_;refine tKs 11 57 h ?_;refine tKs 12 58 h ?_;refine tKs 13 59 h ?_;refine tKs 14 60 h ?_;refine rD 15 (fun K F=> ?_);go_simp;refine(sM _ _ qq (bq i) _ (by exact VQ.o) (by exact VY.o.below C.o.drew) (b6.o.2.mono (by have:=HK.o.2;have:=ay.o;rw[this];omega)) ((ax.o.2 i ag.o).mono (by have:=bE.o;omega))).mono ?_;rintro e bS ⟨rfl,an⟩;have an:Below w3.heap.size w3 bS:=bD an;replace C:=bT C an;replace af:=bT af an;clear h an;have h:=V.o _ af.o;refine kH F h ?_;clear F K;refine tKs 16 62 h ?_;refine tKs 17 63 h ?_;refine tKs 18 64 h ?_;refine tKs 19 6 h ?_;refine dN ?_ _;clear h V af;go_wp2_with fail
    go_returns;refine⟨_,rfl,⟨_,qq,xx,yy,zz,av.o,aF.o,by simp[Lx]⟩,ae.o.trans ((show Below W.heap.size W _ by first | exact C.o | exact C.o.drew).mono ae.o.size)⟩
   ·go_wp2_with fail
    have af:=rG w3;have al:=OB.o.lt;have ai:=aI 0 OB;have V:Hid (∀w',Below w3.heap.size w3 w' -> (w'.cell? ⟨gO,0,none⟩=some (.int .i64 2))):=lH (fun w' E=>kN ai _ E);clear al ai;refine rL V.o (fun i=>false) ?_;have h:=V.o _ af.o;refine tKs 0 46 h ?_;refine tKs 1 47 h ?_;refine tKs 2 48 h ?_;refine tKs 3 49 h ?_;refine tUs 4 50 h ?_;refine tUs 5 51 h ?_;refine tUs 6 52 h ?_;refine tUs 7 53 h ?_;refine tUs 8 54 h ?_;refine tUs 9 55 h ?_;refine tUs 10 56 h ?_;refine tUs 11 57 h ?_;refine tUs 12 58 h ?_;refine tUs 13 59 h ?_;refine tUs 14 60 h ?_;refine tUs 15 61 h ?_;refine tUs 16 62 h ?_;refine tUs 17 63 h ?_;refine tKs 18 64 h ?_;refine tKs 19 6 h ?_;refine dN ?_ _;clear h V af;go_wp2_with fail
    go_returns;refine⟨_,rfl,⟨_,qq,xx,yy,zz,av.o,aF.o,by simp⟩,ae.o.trans ((show Below W.heap.size W _ by first | exact C.o | exact C.o.drew).mono ae.o.size)⟩
   ·go_wp2_with fail
    have af:=rG w3;have al:=OB.o.lt;have ai:=aI 0 OB;have V:Hid (∀w',Below w3.heap.size w3 w' -> (w'.cell? ⟨gO,0,none⟩=some (.int .i64 3))):=lH (fun w' E=>kN ai _ E);clear al ai;refine rL V.o (fun i=>false) ?_;have h:=V.o _ af.o;refine tKs 0 46 h ?_;refine tKs 1 47 h ?_;refine tKs 2 48 h ?_;refine tKs 3 49 h ?_;refine tKs 4 50 h ?_;refine tKs 5 51 h ?_;refine tKs 6 52 h ?_;refine tKs 7 53 h ?_;refine tUs 8 54 h ?_;refine tUs 9 55 h ?_;refine tUs 10 56 h ?_;refine tUs 11 57 h ?_;refine tUs 12 58 h ?_;refine tUs 13 59 h ?_;refine tUs 14 60 h ?_;refine tUs 15 61 h ?_;refine tUs 16 62 h ?_;refine tKs 17 63 h ?_;refine tKs 18 64 h ?_;refine tKs 19 6 h ?_;refine dN ?_ _;clear h V af;go_wp2_with fail
    go_returns;refine⟨_,rfl,⟨_,qq,xx,yy,zz,av.o,aF.o,by simp⟩,ae.o.trans ((show Below W.heap.size W _ by first | exact C.o | exact C.o.drew).mono ae.o.size)⟩
end
section
open Go.RowKit
open Lp (RL upd eu)
def LZ(v:Int)(m:Nat)(k:Nat -> Nat)(t:Nat -> Nat -> ByteArray)(b:Nat -> ByteArray)(i:Int)(e:Ending):Prop:=
 ∃ (z:Bool) (y:Int),e= .returned (.tuple #[.bool z, .int .i64 y]) /\
  ((jF v m k t b≠0 /\ z=false /\ y=(jF v m k t b:Nat)) \/
  (jF v m k t b=0 /\ (((i<0 \/ (m:Int) <= i) /\ z=false /\ y=2) \/
   ∃j:Nat,i=(j:Nat) /\ j<m /\ y=0 /\ ∃A bq c,jk v.toNat m (fun _=>⟨#[48]⟩) t b A bq c /\ Ll (wo (List.range m) j).length v.toNat (pick (wo (List.range m) j) A) (pick (wo (List.range m) j) bq) (A j) (bq j) z)))
set_option maxRecDepth 100000 in
set_option maxHeartbeats 12800000 in
theorem Lm(v:Int)(AR:Option Addr)(m cR:Nat)(k:Nat -> Nat)(t:Nat -> Nat -> ByteArray)(b:Nat -> ByteArray)(i:Int)(T:Nat)(w:World)(hr:fZ w (.slice AR m cR) m k t b)(hf:RowsFit m k t b)
  (ag:0<T) (ah:T <= 65536) (F:jF v m k t b=0 -> ∀r,r <= m -> Lp.wide r v.toNat T+1 <= 1000000) (ak:∀i,i<m -> ∀j,j<k i -> (t i j).size <= T) (aj:∀i,i<m -> (b i).size <= T) (hg:iG w):
  Calls prog 48 #[.int .i64 v, .slice AR m cR, .int .i64 i] w fun e w'=>LZ v m k t b i e /\ Below w.heap.size w w':=by
 have HR:=lH hr;have HF:=lH hf;have HL:=lH (And.intro ak aj);have HK:=lH (And.intro ag (And.intro ah F));have ao:=lH hg;clear hr hf ak aj ag ah F hg;go_enter func48,ntmps48;go_wp2_with fail
 refine(Jl v AR m cR k t b _ HR.o HF.o ao.o).mono ?_;rintro e w1 ⟨hr,hb⟩;have C:=lH hb;clear hb
 rcases JV hr with ⟨h0,rfl⟩ | ⟨h0,a7,aw,AC,AS,AD,cC,cS,cD,A,bq,c,rfl,hc,hA,hD,hP,_⟩
 ·obtain⟨cc,a4⟩:=eX (jF v m k t b);rw[<- a4] at h0 ⊢;have av:((cc:Nat):Int)≠0:=oM
  have ay:(((cc:Nat):Int) !=0)=true:=by simpa using av
  have az:(cc !=0)=true:=by simpa using h0
  have am:=lH h0;have aa:=lH a4;clear h0 a4;have al:=lH (C.o.trans ((eD w1 (.cells #[.slice none 0 0, .slice none 0 0, .slice none 0 0] 98)).mono C.o.size));go_wp2_with fail
  go_returns;exact⟨⟨_,_,rfl, .inl ⟨by rw[<- aa.o];exact am.o,rfl,by rw[<- aa.o]⟩⟩,al.o⟩
 ·have aq:=lH (HK.o.2.2 h0);have a3:=lH h0;have ar:=lH a7;have ac:=lH hP;have O:=lH hA;have R:=lH hD;have X:=lH (mo a7);clear h0 a7 hP hc hA hD aw;have ab:=lH (pO ar.o ac.o (fun j _=>by show 1 <= T;exact HK.o.1) HL.o.1 HL.o.2);obtain⟨w2,M⟩:=eX (w1.alloc (.cells #[.slice AC v.toNat cC, .slice AS m cS, .slice AD m cD] 98));obtain⟨gQ,a0⟩:=eX (w1.heap.size);have a1:Below w1.heap.size w1 w2:=by rw[M];exact eD _ _
  have QB:Hid (Row w2 gQ 98 [.slice AC v.toNat cC, .slice AS m cS, .slice AD m cD]):=lH (by rw[M,a0];exact eP _ _);replace O:=lH (O.o.below a1);replace R:=lH (R.o.below a1);replace C:=bT C a1;clear a1;by_cases a2:i<0
  ·have Z:decide (i<0)=true:=decide_eq_true a2;go_wp2_with fail
   rw[<- M];clear M a0 Z;go_returns;exact⟨⟨_,_,rfl, .inr ⟨a3.o, .inl ⟨by omega,rfl,rfl⟩⟩⟩,C.o⟩
  ·by_cases a6:(m:Int) <= i
   ·have Z:decide (i<0)=false:=decide_eq_false a2;have a5:decide ((m:Int) <= i)=true:=decide_eq_true a6;go_wp2_with fail
    rw[<- M];clear M a0 Z a5;go_returns;exact⟨⟨_,_,rfl, .inr ⟨a3.o, .inl ⟨by omega,rfl,rfl⟩⟩⟩,C.o⟩
   ·obtain⟨j,rfl⟩:∃j:Nat,i=(j:Nat):=⟨i.toNat,by omega⟩
    have HJ:Hid (j<m):=lH oM;have Z:decide (((j:Nat):Int)<0)=false:=decide_eq_false a2;have a5:decide ((m:Int) <= ((j:Nat):Int))=false:=decide_eq_false a6
    go_upto_region 6 with (fail)
    rw[<- M, <- a0];clear M a0 Z a5 a2 a6;go_wp2_with fail
    have E:=rG w2;have au:=QB.o.lt;obtain⟨ad,ae,af⟩:=aT3 QB.o;have W:=lH (kC ad (kC ae (kN af)));clear au ad ae af;refine rL W.o (fun i=>false) ?_;have h:=W.o _ E.o;refine tKs 0 27 h ?_;refine tKs 1 28 h ?_;refine tKs 2 29 h ?_;refine tKs 3 30 h ?_;refine tKs 5 32 h ?_;refine rD 4 (fun K F=> ?_);go_simp;refine(LM m _ (by have:=X.o.2.1;omega)).mono ?_;rintro e a8 ⟨va,rfl,G,U⟩;have U:Below w2.heap.size w2 a8:=bD U;replace O:=lH (O.o.below U);replace R:=lH (R.o.below U);replace C:=bT C U;replace E:=bT E U;obtain⟨Aa,ca,rfl,_,_⟩:=G.shape;rw[show(List.range m).length=m from List.length_range] at G ⊢;have HI:=lH G;clear G;clear h U;have h:=W.o _ E.o;refine kH F h ?_;clear F K;refine rD 6 (fun K F=> ?_);go_simp;refine(LU _ (List.range m) j _ (by exact HI.o) (by rw[List.length_range];have:=X.o.2.1;omega)).mono ?_;rintro e a9 ⟨vb,rfl,G,V⟩;have V:Below a8.heap.size a8 a9:=bD V;replace O:=lH (O.o.below V);replace R:=lH (R.o.below V);replace C:=bT C V;replace E:=bT E V;obtain⟨Ab,cb,rfl,_,_⟩:=G.shape;have ap:=lH G;clear G;clear h V;have h:=W.o _ E.o;refine kH F h ?_;clear F K;refine rD 7 (fun K F=> ?_);go_simp;refine(LW AC AS AD v.toNat v.toNat m cC cS cD A bq j _ (wo (List.range m) j) T _ (by exact O.o) (by exact R.o) (by exact ap.o) HJ.o (fun q hq=>List.mem_range.1 (LG hq).1) (by have:=X.o.1;omega) (by have:=X.o.2.1;omega) (by have:=Lu (List.range m) j;rw[List.length_range] at this;have:=X.o.2.1;omega) ab.o.2.1 ab.o.2.2 HK.o.1 HK.o.2.1 (aq.o _ (by have:=Lu (List.range m) j;rw[List.length_range] at this;exact this))).mono ?_;rintro e ax ⟨z,rfl,ai,Y⟩;have Y:Below a9.heap.size a9 ax:=bD Y;replace C:=bT C Y;replace E:=bT E Y;have an:=lH ai;clear ai;clear h Y;have h:=W.o _ E.o;refine kH F h ?_;clear F K;refine tKs 8 6 h ?_;refine tKs 9 7 h ?_;refine dN ?_ _;clear h W E;go_wp2_with fail
    go_returns;exact⟨⟨_,_,rfl, .inr ⟨a3.o, .inr ⟨j,rfl,HJ.o,rfl,A,bq,c,ac.o,an.o⟩⟩⟩,C.o⟩
end
section
open Go.RowKit
open Lp (RL upd eu)
set_option maxRecDepth 100000 in
set_option maxHeartbeats 12800000 in
theorem M0(AX AO:Option Addr)(n cX r cO:Nat)(s:Nat -> ByteArray)(s0:ByteArray)(k:Nat -> Nat)(t:Nat -> Nat -> ByteArray)(b:Nat -> ByteArray)(β:Rat)(w:World)(hx:TS w (.slice AX n cX) n s)(ho:fZ w (.slice AO r cO) r k t b)(h0:fD n r k s t b=0)(hβ:s0=eF β)(ag:s0.size <= 12)(hn:n <= 6)(hm:r <= 8)
  (ac:∀j,j<n -> (s j).size <= 12) (ad:∀i,i<r -> ∀j,j<k i -> (t i j).size <= 12) (ab:∀i,i<r -> (b i).size <= 12) (hg:iG w) (ht:Tab w):
  Calls prog 49 #[.agg #[.slice AX n cX, .string s0], .slice AO r cO] w fun e w'=>∃z,e= .returned (.tuple #[.bool z, .bool true]) /\ (∃A U c,jk n r s t b A U c /\ Ll r n A U c β z) /\ Below w.heap.size w w':=by
 have HX:=lH hx;have HO:=lH ho;have H0:=lH h0;have a8:=lH hβ;have ak:=lH ag;have a2:=lH (And.intro hn hm);have HL:=lH (And.intro ac (And.intro ad ab));have ai:=lH hg;have al:=lH ht;clear hx ho h0 ag hn hm ac ad ab hg ht;clear hβ;obtain⟨W,hW,R,C⟩:=eN1 w [.slice AX n cX, .string s0] 53;go_enter func49,ntmps49;have Z:=aI 0 R;have a0:=R.o.lt;rw[hW] at Z a0;go_wp2_with fail
 rw[<- hW];clear hW Z a0;refine(K6 AX AO n r cX cO k s t b 12 12589 250000 _ (HX.o.below C.o) (HO.o.below C.o) H0.o dC dC HL.o.1 HL.o.2.1 HL.o.2.2 (CO a2.o.2 a2.o.1) dC ⟨by have:=a2.o.1;have:=a2.o.2;omega,by decide,by decide⟩ dC (ai.o.below C.o) (al.o.below C.o)).mono ?_;rintro e w1 ⟨⟨O,v,rfl,hO,a9,aa,an,A,U,c,q,x,y,d,ae,a6,af⟩,V⟩;replace R:=rW R V;replace C:=bT C V;clear V;obtain⟨AP,cP,AY,cY,AD,cD,rfl,_,_,_⟩:=hO.shape;have a3:=lH ae;have a4:=lH af;have Y:Hid (O.kk=1 -> O.s=eF q /\ RL 12589 q):=lH (fun e=>⟨jE (a6.val e),iU (a6.val e) a9.1⟩);have a1:=lH aa;clear hO ae af a6 aa an a9;obtain⟨w2,h⟩:=eX (w1.alloc (.cells #[.int .i64 O.kk, .string O.s, .slice AP O.np cP, .slice AY O.ny cY, .slice AD O.nd cD] 32));obtain⟨gO,T⟩:=eX (w1.heap.size);have a5:Below w1.heap.size w1 w2:=by rw[h];exact eD _ _
 have M:Hid (Row w2 gO 32 [.int .i64 O.kk, .string O.s, .slice AP O.np cP, .slice AY O.ny cY, .slice AD O.nd cD]):=lH (by rw[h,T];exact eP _ _);replace R:=rW R a5;replace C:=bT C a5;clear a5;have am:O.kk=1 \/ O.kk=2 \/ O.kk=3:=by have:=a1.o;omega
 rcases am with E | E | E
 ·rw[E] at M h ⊢;have X:=lH E;have aj:=lH (Y.o E).2;rw[(Y.o E).1] at M h ⊢;rw[a8.o] at R;clear E Y;obtain⟨F,a7⟩:=aT2 M.o;have G:=M.o.lt;obtain⟨Z,ah⟩:=aT2 R.o;have a0:=R.o.lt;rw[h] at F a7 G Z ah a0;rw[T] at F a7 G;go_wp2_with fail
  clear F a7 G Z ah a0;rw[<- h];clear h T;refine(H8 q β 12589 _ aj.o ((iU (K:=12) (by rw[a8.o];exact jI β) ak.o).mono dC) dC).mono ?_;rintro e w3 ⟨rfl,V⟩;replace C:=bT C V;clear V;go_wp2_with fail
  go_returns;exact⟨_,rfl,⟨A,U,c,a3.o,O.kk,q,x,y,d,a1.o,a4.o,by rw[X.o];simp[Lx]⟩,C.o⟩
 ·rw[E] at M h ⊢;have X:=lH E;clear E Y;have F:=aI 0 M;have G:=M.o.lt;rw[h] at F G;rw[T] at F G;go_wp2_with fail
  clear F G;rw[<- h];clear h T;go_returns;exact⟨_,rfl,⟨A,U,c,a3.o,O.kk,q,x,y,d,a1.o,a4.o,by rw[X.o];simp⟩,C.o⟩
 ·rw[E] at M h ⊢;have X:=lH E;clear E Y;have F:=aI 0 M;have G:=M.o.lt;rw[h] at F G;rw[T] at F G;go_wp2_with fail
  clear F G;rw[<- h];clear h T;go_returns;exact⟨_,rfl,⟨A,U,c,a3.o,O.kk,q,x,y,d,a1.o,a4.o,by rw[X.o];simp⟩,C.o⟩
end
end Go.Proofs.YtdefghfjhgmpfaaGreatDoor
