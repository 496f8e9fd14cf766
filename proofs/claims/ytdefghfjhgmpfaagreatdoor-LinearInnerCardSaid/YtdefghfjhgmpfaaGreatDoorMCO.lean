/- Parts of this proof: Ints Foll Redun LFol. -/
import Derived.Test.YtdefghfjhgmpfaaGreatDoorMBA
import Derived.Test.YtdefghfjhgmpfaaGreatDoorMAZ
import Derived.Test.YtdefghfjhgmpfaaGreatDoorMCJ
import Derived.Test.YtdefghfjhgmpfaaGreatDoorMAP
import Derived.Test.YtdefghfjhgmpfaaGreatDoorMAE
import Derived.Test.YtdefghfjhgmpfaaGreatDoorMBB
import Derived.Test.YtdefghfjhgmpfaaGreatDoorMBG
import Derived.Test.YtdefghfjhgmpfaaGreatDoorMAV
import Derived.Test.YtdefghfjhgmpfaaGreatDoorMAY
import Derived.Test.YtdefghfjhgmpfaaGreatDoorMBC
import Derived.Test.YtdefghfjhgmpfaaGreatDoorMBV
import Derived.Test.YtdefghfjhgmpfaaGreatDoorMBY
namespace Go.Proofs.YtdefghfjhgmpfaaGreatDoor
open Go.Proofs.Tryz
section
open Go.RowKit
open Lp (RL upd eu)
def wo(l:List Nat)(i:Nat):List Nat:=l.filter (fun k=>k !=i)
theorem Lt{l:List Nat}{i q x:Nat}(h:l[q]? =some x):wo (l.take (q+1)) i=wo (l.take q) i++ (if x=i then [] else [x]):=by
 unfold wo;rw[List.take_add_one,h,List.filter_append];by_cases e:x=i
 ·simp[e]
 ·simp[e]
theorem LF{l:List Nat}{i q x:Nat}(h:l[q]? =some x)(t:x≠i):(wo l i).getD (wo (l.take q) i).length 0=x:=by
 have E:=(List.getElem?_eq_some_iff.1 h).1;have e:wo l i=wo (l.take (q+1)) i++wo (l.drop (q+1)) i:=by unfold wo;rw[<- List.filter_append,List.take_append_drop]
 rw[e,Lt h,if_neg t,List.append_assoc,List.getD_eq_getElem?_getD,List.getElem?_append_right (Nat.le_refl _),Nat.sub_self];rfl
theorem Lu(l:List Nat)(i:Nat):(wo l i).length <= l.length:=List.length_filter_le _ _
theorem LG{l:List Nat}{i k:Nat}(h:k ∈ wo l i):k ∈ l /\ k≠i:=by
 unfold wo at h;rw[List.mem_filter] at h;exact⟨h.1,by simpa using h.2⟩
theorem LH{m i:Nat}(M:i<m):(wo (List.range m) i).length=m-1 /\ ∀j,j<m-1 -> (wo (List.range m) i).getD j 0=del i j:=by
 have R:∀n,(n <= i -> wo (List.range n) i=List.range n) /\ (i<n -> wo (List.range n) i=(List.range (n-1)).map (del i)):=by
  intro n
  induction n with
  | zero=>exact⟨fun _=>rfl,fun h=>absurd h oM⟩
  | succ n F=>
   have G:wo (List.range (n+1)) i=wo (List.range n) i++ (if n=i then [] else [n]):=by
    unfold wo;rw[List.range_succ,List.filter_append];by_cases e:n=i
    ·simp[e]
    ·simp[e]
   refine⟨fun h=> ?_,fun h=> ?_⟩
   ·rw[G,F.1 oM,if_neg oM,List.range_succ]
   ·rw[G,Nat.add_sub_cancel];by_cases e:n=i
    ·rw[if_pos e,F.1 oM,List.append_nil]
     have O:List.map (del i) (List.range n)=List.map (fun j=>j) (List.range n):=List.map_congr_left fun j E=>by
      have:=List.mem_range.1 E;unfold del;rw[if_pos oM]
     rw[O];exact(List.map_id' _).symm
    ·rw[if_neg e,F.2 oM];obtain⟨t,rfl⟩:∃t,n=t+1:=⟨n-1,by omega⟩
     rw[Nat.add_sub_cancel,List.range_succ,List.map_append];show _++ [t+1]=_++ [del i t];unfold del;rw[if_neg oM]
 have h:=(R m).2 M;refine⟨by rw[h];simp,fun j E=> ?_⟩;rw[h,List.getD_eq_getElem?_getD,List.getElem?_map,List.getElem?_range E];rfl
def Li(w:World)(v:Value)(l:List Nat):Prop:=∃A c,v= .slice A l.length c /\ l.length <= c /\ c <= maxLen /\ (l.length=0 \/ ∃g,A=some ⟨g,0,none⟩ /\ IB w g l.length (fun j=>l.getD j 0))
theorem Li.below{w w':World}{v:Value}{l:List Nat}(h:Li w v l)(F:Below w.heap.size w w'):Li w' v l:=by
 obtain⟨A,c,G,h1,t,E⟩:=h;exact⟨A,c,G,h1,t,E.imp id fun⟨g,e,M⟩=>⟨g,e,M.below F⟩⟩
theorem Li.shape{w:World}{v:Value}{l:List Nat}(h:Li w v l):∃A c,v= .slice A l.length c /\ l.length <= c /\ c <= maxLen:=by
 obtain⟨A,c,E,h1,t,_⟩:=h;exact⟨A,c,E,h1,t⟩
theorem Li.at_{w:World}{A:Option Addr}{n c:Nat}{l:List Nat}(h:Li w (.slice A n c) l)(h0:0<l.length):∃g,A=some ⟨g,0,none⟩ /\ IB w g l.length (fun j=>l.getD j 0):=by
 obtain⟨A',c',E,_,_,t⟩:=h;simp only[Value.slice.injEq] at E
 rcases t with t | ⟨g,e,F⟩
 ·omega
 ·exact⟨g,E.1.trans e,F⟩
theorem eY.ints{w:World}{v:Value}{l:List Nat}(h:eY w v 3 l.length (pQ fun j=>l.getD j 0)):Li w v l:=by
 obtain⟨A,c,rfl,h1,O⟩:=h.shape;refine⟨A,c,rfl,h1,O,?_⟩
 rcases Nat.eq_zero_or_pos l.length with h0 | h0
 ·exact .inl h0
 ·obtain⟨xs,F,G⟩:=h;obtain⟨g,cap,cs,M,U,E⟩:=C9 F h0;simp only[Value.slice.injEq,true_and] at M;have X:xs.length=l.length*1:=F.1;refine .inr ⟨g,M.1,cs,U,?_,fun j R=> ?_⟩
  ·obtain⟨u,t,_⟩:=G (l.length-1) oM;have:=(List.getElem?_eq_some_iff.1 (E _ _ t)).1;omega
  ·obtain⟨u,t,T⟩:=G j R;rw[E _ _ t];exact congrArg some T
theorem IB.made{w:World}{base g n:Nat}(h:w.ownsRow base 3 1 (.slice (some ⟨g,0,none⟩) n n) n (madeCells (Value.int .i64 0).cells (n*1)).toList):IB w g n (fun _=>0):=by
 have E:=Row.made (z:= .int .i64 0) (by rw[Nat.mul_one] at h;exact h);refine⟨_,E,by simp,fun j t=> ?_⟩;rw[List.getElem?_replicate,if_pos t];rfl
theorem LJ(w:World){ops:Array Oper}{rest:List Oper}{o:Oper}{a:Act}{Q:Exit -> Act -> World -> Prop}
  (M:o.guard=none) (l c:Operand) (U:o.op=Op.makeSlice 76 l c) (L C:Int) (n:Nat) (T:a.eval l= .int .i64 L) (G:a.eval c= .int .i64 C) (F:L=(n:Int)) (t:C=(n:Int)) (b2:n <= 4398046511104)
  (E:∀w',IB w' w.heap.size n (fun _=>0) -> Below w.heap.size w w' -> w.heap.size<w'.heap.size -> wpList prog ops Q rest (a.put o.dst (.slice (some ⟨w.heap.size,0,none⟩) n n)) w'):
  wpList prog ops Q (o::rest) a w:=by
 obtain⟨i,R,Y,Z,a0⟩:=info_parts zn;refine wpList_make_full w M l c _ U w.heap.size _ i _ 1 underlying76 R Y Z .i64 .i64 L C n T G F t (by rw[a0];omega) (by unfold maxLen;omega) (Nat.le_refl _) ?_;intro w' X O;have h:=IB.made X;exact E w' h ((Below.refl _ _).grown O (Nat.le_refl _) (by simp)) h.lt
set_option maxRecDepth 100000 in
set_option maxHeartbeats 3200000 in
theorem LM(n:Nat)(w:World)(hn:n <= 1000000000):
  Calls prog 87 #[.int .i64 n] w fun e w'=>∃v,e= .returned v /\ Li w' v (List.range n) /\ Below w.heap.size w w':=by
 go_enter func87,ntmps87
 go_wp2_with (at_make;refine LJ _ rfl (.tmp 5) (.tmp 5) rfl _ _ n rfl rfl rfl rfl oM ?_)
 intro w1 R M Z;have h:=lH R;have t:=lH M;clear R M Z;go_wp2_with fail
 go_loopw [9] (fun F wr=>∃q:Nat,q <= n /\ F= .int .i64 q /\ Hid (IB wr w.heap.size n (fun j=>if j<q then j else 0)) /\ Hid (Below w.heap.size w wr)) (fun F _=>n-(intOf F).toNat)
 case atStart=>exact⟨0,Nat.zero_le _,rfl,lH (h.o.congr (fun j _=>by rw[if_neg oM])),t⟩
 case round=>
  clear h t;obtain⟨q,hq,rfl,h,t⟩:=hrel;by_cases a0:((q:Nat):Int)<((n:Nat):Int)
  ·have U:q<n:=oM
   have kc:=h.o.at_ U;have kf:=h.o.free q;have kl:=h.o.lt;go_wp2_with fail
   clear kc kf kl;have O:World.grownBy _ (World.setCell _ ⟨w.heap.size,q,none⟩ (.int .i64 (q:Nat))) (some w.heap.size):=grownBy_set wr w.heap.size q (.int .i64 (q:Nat))
   have X:=lH ((h.o.set (j:=q) (x:=q) U).congr (f':=fun j=>if j<q+1 then j else 0) (fun j _=>by
    by_cases e:j=q
    ·subst e;rw[Lp.upd_same,if_pos oM]
    ·rw[Lp.eT _ _ e];by_cases G:j<q
     ·rw[if_pos G,if_pos oM]
     ·rw[if_neg G,if_neg oM]))
   have Y:=lH (t.o.grown O t.o.size (by first | (simp;done) | (simp;omega)));clear O;go_roundw
   case rel=>exact⟨q+1,by omega,by go_num,X,Y⟩
   case measure=>exact mZ
  ·obtain rfl:q=n:=oM
   go_wp2_with fail
   go_returns;have E:(List.range q).length=q:=List.length_range;refine⟨.slice (some ⟨w.heap.size,0,none⟩) q q,rfl,⟨some ⟨w.heap.size,0,none⟩,q,by rw[E],by rw[E];exact Nat.le_refl _,by unfold maxLen;omega, .inr ⟨w.heap.size,rfl,?_⟩⟩,t.o⟩;rw[E];exact h.o.congr fun j T=>by rw[if_pos T,List.getD_eq_getElem?_getD,List.getElem?_range T];rfl
set_option maxRecDepth 100000 in
set_option maxHeartbeats 3200000 in
theorem LU(v:Value)(l:List Nat)(i:Nat)(w:World)(h:Li w v l)(hn:l.length <= 1000000000):
  Calls prog 86 #[v, .int .i64 i] w fun e w'=>∃v',e= .returned v' /\ Li w' v' (wo l i) /\ Below w.heap.size w w':=by
 obtain⟨A,c,rfl,_,_⟩:=h.shape;obtain⟨iI,a9,ac,ad,ae⟩:=info_parts zn;have HA:=lH h;clear h;go_enter func86,ntmps86;go_wp2_with fail
 go_loopw [5,10] (fun ov iv wr=>∃ (q r:Nat) (B:Option Addr) (d:Nat),q <= l.length /\ ov= .slice B r d /\ iv= .int .i64 q /\ Hid (r=(wo (l.take q) i).length) /\ Hid (eY wr (.slice B r d) 3 r (pQ fun j=>(wo l i).getD j 0)) /\ Hid (∀g,(Value.slice B r d).ownBlock=some g -> w.heap.size <= g) /\ Hid (Below w.heap.size w wr)) (fun _ iv _=>l.length-(intOf iv).toNat)
 case atStart=>exact⟨0,0,none,0,Nat.zero_le _,rfl,rfl,lH rfl,lH (eY.nil _ _ _),lH (fun g hg=>by simp[Value.ownBlock] at hg),lH (Below.refl _ _)⟩
 case round=>
  obtain⟨q,r,B,d,hq,rfl,rfl,F,M,G,t⟩:=hrel;by_cases af:((q:Nat):Int)<((l.length:Nat):Int)
  ·have a4:q<l.length:=oM
   obtain⟨x,Z⟩:∃x,l[q]? =some x:=⟨_,List.getElem?_eq_getElem a4⟩
   have O:=lH Z;obtain⟨gA,rfl,U⟩:=HA.o.at_ oM;have kc:=(U.below t.o).at_ a4;rw[List.getD_eq_getElem?_getD,Z] at kc;have a5: wr.cell? ⟨gA,q,none⟩=some (.int .i64 (x:Nat)):=kc;have a6:=(U.below t.o).lt;have ag:r <= 1000000000:=by have:=F.o;have:=Lu (l.take q) i;have:=List.length_take_le q l;omega
   clear U kc Z;by_cases E:x=i
   ·have R:(x !=i)=false:=by simpa using E
    have T:((x:Int) != (i:Int))=false:=by simp[E]
    go_wp2_with fail
    clear a5 a6 R T;go_roundw
    case rel=>exact⟨q+1,r,B,d,by omega,rfl,by go_num,lH (by rw[F.o,Lt O.o,if_pos E,List.append_nil]),M,G,t⟩
    case measure=>exact mZ
   ·have a0:=lH E;have R:(x !=i)=true:=by simpa using E
    have T:((x:Int) != (i:Int))=true:=by simp;omega
    clear E
    go_wp2_with (at_builtin;(refine wpList_plain rfl fun K hK=>qO _ (.tmp 17) (.tmp 19) 76 rfl 3 iI (.int .i64 0) 8 underlying76 a9 ac ad ae rfl (.slice B r d) r _ rfl M.o (.int .i64 (x:Nat)) rfl (by show _=Value.int .i64 (((wo l i).getD r 0:Nat):Int);rw[F.o,LF O.o a0.o]) rfl ⟨by unfold maxLen;omega,by omega⟩ ?_))
    intro va w3 X Y;obtain⟨B2,d2,ab,_,_⟩:=eY.shape X;subst ab;have a1:=Y.below (B:=w.heap.size) t.o.size G.o;have a2:=Y.base t.o.size G.o;have a8:=lH X;replace t:=lH (t.o.trans a1);have a7:=lH a2;clear a1 a2 X Y M G a5 a6 R T;refine hK _ _ ?_;go_wp2_with fail
    go_roundw
    case rel=>exact⟨q+1,r+1,B2,d2,by omega,rfl,by go_num,lH (by rw[Lt O.o,if_neg a0.o,List.length_append, <- F.o];rfl),a8,a7,t⟩
    case measure=>exact mZ
  ·have a3:q=l.length:=oM
   have aa:Hid (r=(wo l i).length):=lH (by rw[F.o,a3,List.take_length]);clear a3;go_wp2_with fail
   go_returns;have e:=aa.o;subst e;exact⟨_,rfl,M.o.ints,t.o⟩
end
section
open Go.RowKit
open Lp (RL upd eu)
theorem nz.kind{w:World}{m n K:Nat}{A:Nat -> Nat -> Rat}{b c:Nat -> Rat}{v:Value}(h:nz w m n K A b c v):
  ∃ (kk:Int) (s:Bool) (A':Option Addr) (l c':Nat) (t:Bool) (B:Option Addr) (d f:Nat) (P:Option Addr) (Z E:Nat) (Y:Option Addr) (ny F:Nat) (R:Option Addr) (nr cr:Nat) (q:Rat) (x y z:Nat -> Rat),
   v= .agg #[.int .i64 kk, .bool s, .slice A' l c', .bool t, .slice B d f, .slice P Z E, .slice Y ny F, .slice R nr cr] /\ (1 <= kk /\ kk <= 3) /\ (kk=1 -> eO w (.agg #[.bool s, .slice A' l c', .bool t, .slice B d f]) q /\ RL K q) /\ kI m n kk A b c q x y z:=by
 cases h with
 | opt s A' l c' t B d f P E Y F q x y h1 G O M T U h7 X=>exact⟨1,s,A',l,c',t,B,d,f,P,n,E,Y,m,F,none,0,0,q,x,y,x,h1,⟨by decide,by decide⟩,fun _=>⟨G,T⟩,⟨fun _=>X,fun e=>absurd e dC,fun e=>absurd e dC⟩⟩
 | inf Y F y h1 G O M=>exact⟨2,false,none,0,0,false,none,0,0,none,0,0,Y,m,F,none,0,0,0,y,y,y,h1,⟨by decide,by decide⟩,fun e=>absurd e dC,⟨fun e=>absurd e dC,fun _=>M,fun e=>absurd e dC⟩⟩
 | unb P E R cr x d h1 G O M T U=>exact⟨3,false,none,0,0,false,none,0,0,P,n,E,none,0,0,R,n,cr,0,x,x,d,h1,⟨by decide,by decide⟩,fun e=>absurd e dC,⟨fun e=>absurd e dC,fun e=>absurd e dC,fun _=>U⟩⟩
def Ll(r n:Nat)(A:Nat -> Nat -> Rat)(bq:Nat -> Rat)(a:Nat -> Rat)(β:Rat)(z:Bool):Prop:=
 ∃ (kk:Int) (q:Rat) (x y d:Nat -> Rat),(1 <= kk /\ kk <= 3) /\ kI r n kk A bq a q x y d /\ z=decide (kk=2 \/ kk=1 /\ q <= β)
def pick{α:Type}(l:List Nat)(f:Nat -> α)(j:Nat):α:=f (l.getD j 0)
def Lv(w:World)(n:Nat)(l:List Nat)(A:Nat -> Nat -> Rat)(j:Nat)(u:Value):Prop:=∃X x,u= .slice X n x /\ (X=none -> x=0) /\ eZ w (.slice X n x) n (pick l A j)
theorem eY.LV{w w':World}{v:Value}{r n:Nat}{l:List Nat}{A:Nat -> Nat -> Rat}(h:eY w' v 95 r (Lv w n l A))(M:Below w.heap.size w w'):iD w' v r n (pick l A):=by
 obtain⟨A',c,rfl,h1,E⟩:=h.shape;refine⟨A',c,rfl,h1,E,?_⟩
 rcases Nat.eq_zero_or_pos r with h0 | h0
 ·exact .inl h0
 ·obtain⟨g,c',cs,t,T,_,R⟩:=h.done h0;simp only[Value.slice.injEq,true_and] at t;refine .inr ⟨g,t.1,fun i O=> ?_⟩;obtain⟨u,U,X,x,rfl,F,G⟩:=R i O;exact⟨X,x,T.at_ _ U,F,G.below M⟩
theorem Lx{a b:Rat}:jq a b <= 0↔a <= b:=by
 unfold jq;by_cases h:a<b
 ·rw[if_pos h];exact⟨fun _=>Rat.le_of_lt h,fun _=>by decide⟩
 ·rw[if_neg h];by_cases e:a=b
  ·rw[if_pos e];exact⟨fun _=>by rw[e];exact Rat.le_refl,fun _=>by decide⟩
  ·rw[if_neg e];refine⟨fun t=>absurd t dC,fun t=> ?_⟩;exact absurd (Rat.lt_of_le_of_ne t e) h
set_option maxRecDepth 100000 in
set_option maxHeartbeats 12800000 in
theorem LW(AC AR AD:Option Addr)(nC n m cC cR cD:Nat)(A:Nat -> Nat -> Rat)(bq:Nat -> Rat)(i:Nat)(vl:Value)(l:List Nat)(K:Nat)(w:World)(hA:iD w (.slice AR m cR) m n A)(G:eZ w (.slice AD m cD) m bq)(hl:Li w vl l)(hi:i<m)(bs:∀k,k ∈ l -> k<m)(hn:n <= 1000000000)(hm:m <= 1000000000)(br:l.length <= 1000000000)
  (bo:∀i,i<m -> ∀j,j<n -> RL K (A i j)) (bp:∀i,i<m -> RL K (bq i)) (bi:0<K) (bj:K <= 65536) (M:Lp.wide l.length n K+1 <= 1000000):
  Calls prog 85 #[.agg #[.slice AC nC cC, .slice AR m cR, .slice AD m cD], .int .i64 i,vl] w fun e w'=>∃z,e= .returned (.bool z) /\ Ll l.length n (pick l A) (pick l bq) (A i) (bq i) z /\ Below w.heap.size w w':=by
 obtain⟨AL,cL,rfl,_,_⟩:=hl.shape;have aU:=lH hA;have aW:=lH G;have aY:=lH hl;have ag:=lH hi;have aZ:=lH bs;have HN:=lH (And.intro hn (And.intro hm br));have ax:=lH (And.intro bo bp);have HK:=lH (And.intro bi M);have bE:=lH bj;clear hA G hl bs hn hm br bo bp bi M bj hi;obtain⟨iS,aJ,aO,aP,aQ⟩:=info_parts zo;obtain⟨W,hW,QB,F⟩:=eN1 w [.slice AC nC cC, .slice AR m cR, .slice AD m cD] 98;go_enter func85,ntmps85;have ae:=F;have HA:=lH (aU.o.below ae.o);have HD:=lH (aW.o.below ae.o);have HI:=lH (aY.o.below ae.o);clear aU aW aY;obtain⟨gR,rfl,Z⟩:=HA.o.at_ (by have:=ag.o;omega);obtain⟨gD,rfl,bx⟩:=HD.o.at_ (by have:=ag.o;omega);have b5:=lH Z;have b3:=lH bx;clear Z bx;obtain⟨X,x,ak,am,ao⟩:=b5.o i ag.o;have HX:=lH (And.intro am ao);have bZ:=lH ak;have c4:Hid (w.heap.size<W.heap.size):=lH QB.o.lt;clear am ao;have bA:=aI 1 QB;have bB:=QB.o.lt;have aC:=eG ak;have bl:((i:Nat):Int)<((m:Nat):Int):=by have:=ag.o;omega
 have bL:i<m:=ag.o;rw[hW] at ak aC bA bB;obtain⟨w1,aA⟩:=eX (W.alloc (.cells #[.slice X n x, .slice none 0 0, .slice none 0 0] 98));obtain⟨gP,az⟩:=eX (W.heap.size);have E:Hid (Row w1 gP 98 [.slice X n x, .slice none 0 0, .slice none 0 0]):=lH (by rw[aA,az];exact eP _ _);have bk:Below W.heap.size W w1:=by rw[aA];exact eD _ _
 have aV:=lH bk;have aD:Hid (W.heap.size <= gP):=lH (by rw[az];exact Nat.le_refl _);clear bk F;have F:=aV;clear aV;go_wp2_with fail
 have bz:w.heap.size+1=gP:=by rw[az,hW];simp
 rw[<- hW, <- aA,bz];clear hW aA az bz ak aC bl bL bA bB
 go_loopw [19] (fun iv wr=>∃ (q:Nat) (Ar:Option Addr) (cr:Nat) (Ad:Option Addr) (cd:Nat),q <= l.length /\ iv= .int .i64 q /\ Hid (eY wr (.slice Ar q cr) 95 q (Lv W n l A)) /\ Hid (gH wr (.slice Ad q cd) q (pick l bq)) /\ Hid (∀g,(Value.slice Ar q cr).ownBlock=some g -> W.heap.size <= g) /\ Hid (∀g,(Value.slice Ad q cd).ownBlock=some g -> W.heap.size <= g) /\ Hid (Row wr gP 98 [.slice X n x, .slice Ar q cr, .slice Ad q cd]) /\ Hid (Below W.heap.size W wr))
  (fun iv _=>l.length-(intOf iv).toNat)
 case atStart=>exact⟨0,none,0,none,0,Nat.zero_le _,rfl,lH (eY.nil _ _ _),lH (gH.nil _ _),lH (fun g hg=>by simp[Value.ownBlock] at hg),lH (fun g hg=>by simp[Value.ownBlock] at hg),E,F⟩
 case round=>
  clear E F;obtain⟨q,Ar,cr,Ad,cd,hq,rfl,O,T,LR,LQ,E,F⟩:=hrel;by_cases c6:((q:Nat):Int)<((l.length:Nat):Int)
  ·have bw:q<l.length:=oM
   have c5:((q:Nat):Int) <= 1000000000:=by have:=HN.o.2.2;omega
   obtain⟨k,hk⟩:∃k,l[q]? =some k:=⟨_,List.getElem?_eq_getElem bw⟩
   have b7:=lH hk;have aM:k<m:=aZ.o k (List.mem_of_getElem? hk);have c0:=lH aM;obtain⟨gL,rfl,aK⟩:=HI.o.at_ oM;have kc:=(aK.below F.o).at_ bw;rw[List.getD_eq_getElem?_getD,hk] at kc;have bQ: wr.cell? ⟨gL,q,none⟩=some (.int .i64 (k:Nat)):=kc;have aC:=(aK.below F.o).lt;clear aK kc hk
   go_upto_region 5 with (fail)
   clear bQ aC;have aE:Hid (pick l bq q=bq k):=lH (by unfold pick;rw[List.getD_eq_getElem?_getD,b7.o];rfl);have bF:Hid (pick l A q=A k):=lH (by unfold pick;rw[List.getD_eq_getElem?_getD,b7.o];rfl);obtain⟨Xk,xk,ak,am,ao⟩:=b5.o k aM;have aG:Hid (Lv W n l A q (.slice Xk n xk)):=lH ⟨Xk,xk,rfl,am,by rw[bF.o];exact ao⟩;clear am ao;obtain⟨sy,Ay,ly,cy,ty,By,my,dy,hQ,hv⟩:=b3.o.fO aM;have VY:=lH hv;clear hv
   have KS:Hid (∀w',Below W.heap.size W w' -> (w'.cell? ⟨w.heap.size,1,none⟩=some (.slice (some ⟨gR,0,none⟩) m cR) /\ w'.cell? ⟨w.heap.size,2,none⟩=some (.slice (some ⟨gD,0,none⟩) m cD) /\ w'.cell? ⟨gR,k,none⟩=some (.slice Xk n xk) /\ w'.cell? ⟨gD,k*4,none⟩=some (.bool sy) /\ w'.cell? ⟨gD,k*4+1,none⟩=some (.slice Ay ly cy) /\ w'.cell? ⟨gD,k*4+2,none⟩=some (.bool ty) /\ w'.cell? ⟨gD,k*4+3,none⟩=some (.slice By my dy))):=lH (fun w' G=>by
    obtain⟨q0,q1,q2,q3⟩:=hQ
    exact⟨cell_below G (QB.o.at_ 1 rfl),cell_below G (QB.o.at_ 2 rfl),cell_below G ak,cell_below G q0,cell_below G q1,cell_below G q2,cell_below G q3⟩)
   clear ak hQ;have aL:((k:Nat):Int)<((m:Nat):Int):=oM
   have c3:Hid (∀g,(Value.slice Ar q cr).ownBlock=some g -> g<wr.heap.size):=lH (fun g e=>O.o.lt e);have c2:Hid (∀g,(Value.slice Ad q cd).ownBlock=some g -> g<wr.heap.size):=lH (fun g e=>T.o.lt e)
   skip
   refine kT (fun w'=> w'.cell? ⟨gP,1,none⟩=some (.slice Ar q cr) /\ w'.cell? ⟨gP,2,none⟩=some (.slice Ad q cd) /\ w'.cell? ⟨w.heap.size,1,none⟩=some (.slice (some ⟨gR,0,none⟩) m cR) /\ w'.cell? ⟨w.heap.size,2,none⟩=some (.slice (some ⟨gD,0,none⟩) m cD) /\ w'.cell? ⟨gR,k,none⟩=some (.slice Xk n xk) /\ w'.cell? ⟨gD,k*4,none⟩=some (.bool sy) /\ w'.cell? ⟨gD,k*4+1,none⟩=some (.slice Ay ly cy) /\ w'.cell? ⟨gD,k*4+2,none⟩=some (.bool ty) /\ w'.cell? ⟨gD,k*4+3,none⟩=some (.slice By my dy)) (fun i=>decide (19 <= i)) kR ?_;obtain⟨wD,aN⟩:=eX (wr.drew);rw[<- aN];have G:Below wr.heap.size wr wD:=by rw[aN];exact(Below.refl _ _).drew
   clear aN;have a5:Hid (wr.heap.size <= wD.heap.size):=lH G.size;replace E:=rW E G;replace O:=lH (O.o.below G);replace T:=lH (T.o.below G);replace F:=bT F G;clear G;have h:=And.intro (E.o.at_ 1 rfl) (And.intro (E.o.at_ 2 rfl) (KS.o _ F.o));refine tKs 0 23 h ?_;refine tKs 1 24 h ?_;refine tKs 2 25 h ?_;refine tKs 3 26 h ?_;refine tKs 4 27 h ?_;refine tKs 5 28 h ?_;refine tKs 6 29 h ?_;refine tKs 9 32 h ?_;refine tKs 10 33 h ?_;refine tB 11 [11,12,14,15,16,17] (some 34) h ?_;refine tB 12 [12,14,15,16,17] (some 35) h ?_;refine tB 13 [13,14,15,16,17] (some 36) h ?_;refine tB 14 [14,15,16,17] (some 37) h ?_;refine tB 15 [15,16,17] (some 38) h ?_;refine lw (rs:=[7,16]) kR (by simp) (gG.cons rfl (fun K M=> ?_) (gG.cons rfl (fun K M=> ?_) gG.nil))
   ·go_simp;obtain⟨ga,a0⟩:=eX (wD.heap.size);have Z:Row (wD.alloc (.cells #[.slice Xk n xk] 95)) wD.heap.size 95 [.slice Xk n xk]:=eP _ _;have G:=eD wD (.cells #[.slice Xk n xk] 95);obtain⟨ya,ac⟩:=eX (wD.alloc (.cells #[.slice Xk n xk] 95));rw[<- ac] at Z G ⊢;rw[<- a0] at Z ⊢;have bC:Hid (wr.heap.size <= ga):=lH (by rw[a0];exact a5.o);replace a5:Hid (wr.heap.size <= ya.heap.size):=lH (Nat.le_trans a5.o G.size);clear ac a0;replace E:=rW E G;replace O:=lH (O.o.below G);replace T:=lH (T.o.below G);replace F:=bT F G;clear G;have Ra:=lH Z;clear Z;clear h;have h:=And.intro (E.o.at_ 1 rfl) (And.intro (E.o.at_ 2 rfl) (KS.o _ F.o));refine kH M h ?_;clear M K;refine lw (rs:=[8,16]) kR (by simp) (gG.cons rfl (fun K M=> ?_) (gG.cons rfl (fun K M=> ?_) gG.nil))
    ·rw[if_pos (by rfl)];refine vZ _ (.tmp 24) (.tmp 30) 96 rfl 95 iS (.slice none 0 0) 24 underlying96 aJ aO aP aQ rfl (.slice Ar q cr) q _ rfl O.o (.slice Xk n xk) rfl aG.o ga Ra.o rfl ⟨by unfold maxLen;omega,by omega⟩ ?_;intro va au ho U;obtain⟨a9,ab,rfl,_,_⟩:=ho.shape;have a6:=U.below (B:=W.heap.size) F.o.size LR.o;have a7:=U.base F.o.size LR.o;have ad:=U.grown.size;replace T:=lH (by obtain⟨xs,ap,_⟩:=O.o;exact T.o.turned U ap dC (zl (fun g e=>T.o.row e) (fun g e=>O.o.row e) dC));replace E:=lH (E.o.turned U (fun e=>by obtain⟨_,hx⟩:=O.o.row e;exact absurd (E.o.ty hx) dC));replace F:=lH (F.o.trans a6);clear O LR;have O:=lH ho;have LR:=lH a7;replace a5:=lH (Nat.le_trans a5.o ad);clear a6 ho U a7 ad;clear h;have h:=And.intro (E.o.at_ 1 rfl) (And.intro (E.o.at_ 2 rfl) (KS.o _ F.o));refine kH M h ?_;clear M K;refine tKs 18 41 h ?_;refine rD 16 (fun K M=> ?_);go_simp;obtain⟨gc,a0⟩:=eX (au.heap.size);have Z:Row (au.alloc (.cells #[.bool sy, .slice Ay ly cy, .bool ty, .slice By my dy] 105)) au.heap.size 105 [.bool sy, .slice Ay ly cy, .bool ty, .slice By my dy]:=eP _ _;have G:=eD au (.cells #[.bool sy, .slice Ay ly cy, .bool ty, .slice By my dy] 105);obtain⟨bU,ac⟩:=eX (au.alloc (.cells #[.bool sy, .slice Ay ly cy, .bool ty, .slice By my dy] 105));rw[<- ac] at Z G ⊢;rw[<- a0] at Z ⊢;have aX:Hid (wr.heap.size <= gc):=lH (by rw[a0];exact a5.o);replace a5:Hid (wr.heap.size <= bU.heap.size):=lH (Nat.le_trans a5.o G.size);clear ac a0;replace E:=rW E G;replace O:=lH (O.o.below G);replace T:=lH (T.o.below G);replace F:=bT F G;clear G;have Rc:=lH Z;clear Z;clear h;have h:=And.intro (E.o.at_ 1 rfl) (And.intro (E.o.at_ 2 rfl) (KS.o _ F.o));refine kH M h ?_;clear M K;refine rD 17 (fun K M=> ?_);rw[if_pos (by rfl)];refine wh _ (.tmp 33) (.tmp 39) rfl (.slice Ad q cd) q _ rfl T.o sy Ay ly cy ty By my dy (by rw[aE.o];exact VY.o.below F.o) gc Rc.o rfl oM ?_;intro va aR ho U;obtain⟨a8,aa,rfl,_,_⟩:=ho.shape;have a6:=U.below (B:=W.heap.size) F.o.size LQ.o;have a7:=U.base F.o.size LQ.o;have ad:=U.grown.size;replace O:=lH (O.o.turned U (zl (fun g e=>O.o.row e) (fun g e=>T.o.row e) dC));replace E:=lH (E.o.turned U (fun e=>by obtain⟨_,hx⟩:=T.o.row e;exact absurd (E.o.ty hx) dC));replace F:=lH (F.o.trans a6);clear T LQ;have T:=lH ho;have LQ:=lH a7;clear a6 ho U a7 ad;clear h;have h:=And.intro (E.o.at_ 1 rfl) (And.intro (E.o.at_ 2 rfl) (KS.o _ F.o));refine kH M h ?_;clear M K;have q1:=aI 1 E;have q2:=aI 2 E;have aq:=E.o.free 1;have ar:=E.o.free 2;have ql:=E.o.lt;refine rD 19 (fun K M=> ?_);go_simp;refine kL M ?_;clear M K;refine tWs 20 42 ?_;refine rD 21 (fun K M=> ?_);go_simp;refine kL M ?_;clear M K;refine dN ?_ _;clear h q1 q2 aq ar ql aL;have hg:World.grownBy aR ((aR.setCell ⟨gP,1,none⟩ (.slice a9 (q+1) ab)).setCell ⟨gP,2,none⟩ (.slice a8 (q+1) aa)) (some gP):=grownBy_trans (grownBy_set _ _ _ _) (grownBy_set _ _ _ _);have PN:=(E.o.set 1 (.slice a9 (q+1) ab)).set 2 (.slice a8 (q+1) aa);have RN:=O.o.other hg (fun e=>by obtain⟨_,hx⟩:=O.o.row e;exact absurd (E.o.ty hx) dC);have QN:=T.o.other hg E.o dC (fun e=>by obtain⟨_,hx⟩:=T.o.row e;exact absurd (E.o.ty hx) dC);have ah:=F.o.grown hg F.o.size (by have:=aD.o;first | (simp;done) | (simp;omega));obtain⟨wE,aj⟩:=eX (((aR.setCell ⟨gP,1,none⟩ (.slice a9 (q+1) ab)).setCell ⟨gP,2,none⟩ (.slice a8 (q+1) aa)));rw[<- aj] at PN RN QN ah ⊢;clear aj hg;go_wp2_with fail
     go_roundw
     case rel=>exact⟨q+1,a9,ab,a8,aa,by omega,by go_num,lH RN,lH QN,LR,LQ,lH PN,lH ah⟩
     case measure=>exact mZ
    ·go_simp;obtain⟨gc,a0⟩:=eX (ya.heap.size);have Z:Row (ya.alloc (.cells #[.bool sy, .slice Ay ly cy, .bool ty, .slice By my dy] 105)) ya.heap.size 105 [.bool sy, .slice Ay ly cy, .bool ty, .slice By my dy]:=eP _ _;have G:=eD ya (.cells #[.bool sy, .slice Ay ly cy, .bool ty, .slice By my dy] 105);obtain⟨bW,ac⟩:=eX (ya.alloc (.cells #[.bool sy, .slice Ay ly cy, .bool ty, .slice By my dy] 105));rw[<- ac] at Z G ⊢;rw[<- a0] at Z ⊢;have aX:Hid (wr.heap.size <= gc):=lH (by rw[a0];exact a5.o);replace a5:Hid (wr.heap.size <= bW.heap.size):=lH (Nat.le_trans a5.o G.size);clear ac a0;replace E:=rW E G;replace Ra:=rW Ra G;replace O:=lH (O.o.below G);replace T:=lH (T.o.below G);replace F:=bT F G;clear G;have Rc:=lH Z;clear Z;clear h;have h:=And.intro (E.o.at_ 1 rfl) (And.intro (E.o.at_ 2 rfl) (KS.o _ F.o));refine kH M h ?_;clear M K;refine rD 8 (fun K M=> ?_);rw[if_pos (by rfl)];refine vZ _ (.tmp 24) (.tmp 30) 96 rfl 95 iS (.slice none 0 0) 24 underlying96 aJ aO aP aQ rfl (.slice Ar q cr) q _ rfl O.o (.slice Xk n xk) rfl aG.o ga Ra.o rfl ⟨by unfold maxLen;omega,by omega⟩ ?_;intro va c7 ho U;obtain⟨a9,ab,rfl,_,_⟩:=ho.shape;have a6:=U.below (B:=W.heap.size) F.o.size LR.o;have a7:=U.base F.o.size LR.o;have ad:=U.grown.size;replace T:=lH (by obtain⟨xs,ap,_⟩:=O.o;exact T.o.turned U ap dC (zl (fun g e=>T.o.row e) (fun g e=>O.o.row e) dC));replace E:=lH (E.o.turned U (fun e=>by obtain⟨_,hx⟩:=O.o.row e;exact absurd (E.o.ty hx) dC));replace Rc:=lH (Rc.o.turned U (fun e=>by obtain⟨_,hx⟩:=O.o.row e;exact absurd (Rc.o.ty hx) dC));replace F:=lH (F.o.trans a6);clear O LR;have O:=lH ho;have LR:=lH a7;clear a6 ho U a7 ad;clear h;have h:=And.intro (E.o.at_ 1 rfl) (And.intro (E.o.at_ 2 rfl) (KS.o _ F.o));refine kH M h ?_;clear M K;refine tKs 18 41 h ?_;refine rD 17 (fun K M=> ?_);rw[if_pos (by rfl)];refine wh _ (.tmp 33) (.tmp 39) rfl (.slice Ad q cd) q _ rfl T.o sy Ay ly cy ty By my dy (by rw[aE.o];exact VY.o.below F.o) gc Rc.o rfl oM ?_;intro va aS ho U;obtain⟨a8,aa,rfl,_,_⟩:=ho.shape;have a6:=U.below (B:=W.heap.size) F.o.size LQ.o;have a7:=U.base F.o.size LQ.o;have ad:=U.grown.size;replace O:=lH (O.o.turned U (zl (fun g e=>O.o.row e) (fun g e=>T.o.row e) dC));replace E:=lH (E.o.turned U (fun e=>by obtain⟨_,hx⟩:=T.o.row e;exact absurd (E.o.ty hx) dC));replace F:=lH (F.o.trans a6);clear T LQ;have T:=lH ho;have LQ:=lH a7;clear a6 ho U a7 ad;clear h;have h:=And.intro (E.o.at_ 1 rfl) (And.intro (E.o.at_ 2 rfl) (KS.o _ F.o));refine kH M h ?_;clear M K;have q1:=aI 1 E;have q2:=aI 2 E;have aq:=E.o.free 1;have ar:=E.o.free 2;have ql:=E.o.lt;refine rD 19 (fun K M=> ?_);go_simp;refine kL M ?_;clear M K;refine tWs 20 42 ?_;refine rD 21 (fun K M=> ?_);go_simp;refine kL M ?_;clear M K;refine dN ?_ _;clear h q1 q2 aq ar ql aL;have hg:World.grownBy aS ((aS.setCell ⟨gP,1,none⟩ (.slice a9 (q+1) ab)).setCell ⟨gP,2,none⟩ (.slice a8 (q+1) aa)) (some gP):=grownBy_trans (grownBy_set _ _ _ _) (grownBy_set _ _ _ _);have PN:=(E.o.set 1 (.slice a9 (q+1) ab)).set 2 (.slice a8 (q+1) aa);have RN:=O.o.other hg (fun e=>by obtain⟨_,hx⟩:=O.o.row e;exact absurd (E.o.ty hx) dC);have QN:=T.o.other hg E.o dC (fun e=>by obtain⟨_,hx⟩:=T.o.row e;exact absurd (E.o.ty hx) dC);have ah:=F.o.grown hg F.o.size (by have:=aD.o;first | (simp;done) | (simp;omega));obtain⟨wE,aj⟩:=eX (((aS.setCell ⟨gP,1,none⟩ (.slice a9 (q+1) ab)).setCell ⟨gP,2,none⟩ (.slice a8 (q+1) aa)));rw[<- aj] at PN RN QN ah ⊢;clear aj hg;go_wp2_with fail
     go_roundw
     case rel=>exact⟨q+1,a9,ab,a8,aa,by omega,by go_num,lH RN,lH QN,LR,LQ,lH PN,lH ah⟩
     case measure=>exact mZ
   ·go_simp;obtain⟨gc,a0⟩:=eX (wD.heap.size);have Z:Row (wD.alloc (.cells #[.bool sy, .slice Ay ly cy, .bool ty, .slice By my dy] 105)) wD.heap.size 105 [.bool sy, .slice Ay ly cy, .bool ty, .slice By my dy]:=eP _ _;have G:=eD wD (.cells #[.bool sy, .slice Ay ly cy, .bool ty, .slice By my dy] 105);obtain⟨yc,ac⟩:=eX (wD.alloc (.cells #[.bool sy, .slice Ay ly cy, .bool ty, .slice By my dy] 105));rw[<- ac] at Z G ⊢;rw[<- a0] at Z ⊢;have aX:Hid (wr.heap.size <= gc):=lH (by rw[a0];exact a5.o);replace a5:Hid (wr.heap.size <= yc.heap.size):=lH (Nat.le_trans a5.o G.size);clear ac a0;replace E:=rW E G;replace O:=lH (O.o.below G);replace T:=lH (T.o.below G);replace F:=bT F G;clear G;have Rc:=lH Z;clear Z;clear h;have h:=And.intro (E.o.at_ 1 rfl) (And.intro (E.o.at_ 2 rfl) (KS.o _ F.o));refine kH M h ?_;clear M K;refine rD 7 (fun K M=> ?_);go_simp;obtain⟨ga,a0⟩:=eX (yc.heap.size);have Z:Row (yc.alloc (.cells #[.slice Xk n xk] 95)) yc.heap.size 95 [.slice Xk n xk]:=eP _ _;have G:=eD yc (.cells #[.slice Xk n xk] 95);obtain⟨bX,ac⟩:=eX (yc.alloc (.cells #[.slice Xk n xk] 95));rw[<- ac] at Z G ⊢;rw[<- a0] at Z ⊢;have bC:Hid (wr.heap.size <= ga):=lH (by rw[a0];exact a5.o);replace a5:Hid (wr.heap.size <= bX.heap.size):=lH (Nat.le_trans a5.o G.size);clear ac a0;replace E:=rW E G;replace Rc:=rW Rc G;replace O:=lH (O.o.below G);replace T:=lH (T.o.below G);replace F:=bT F G;clear G;have Ra:=lH Z;clear Z;clear h;have h:=And.intro (E.o.at_ 1 rfl) (And.intro (E.o.at_ 2 rfl) (KS.o _ F.o));refine kH M h ?_;clear M K;refine rD 8 (fun K M=> ?_);rw[if_pos (by rfl)];refine vZ _ (.tmp 24) (.tmp 30) 96 rfl 95 iS (.slice none 0 0) 24 underlying96 aJ aO aP aQ rfl (.slice Ar q cr) q _ rfl O.o (.slice Xk n xk) rfl aG.o ga Ra.o rfl ⟨by unfold maxLen;omega,by omega⟩ ?_;intro va c8 ho U;obtain⟨a9,ab,rfl,_,_⟩:=ho.shape;have a6:=U.below (B:=W.heap.size) F.o.size LR.o;have a7:=U.base F.o.size LR.o;have ad:=U.grown.size;replace T:=lH (by obtain⟨xs,ap,_⟩:=O.o;exact T.o.turned U ap dC (zl (fun g e=>T.o.row e) (fun g e=>O.o.row e) dC));replace E:=lH (E.o.turned U (fun e=>by obtain⟨_,hx⟩:=O.o.row e;exact absurd (E.o.ty hx) dC));replace Rc:=lH (Rc.o.turned U (fun e=>by obtain⟨_,hx⟩:=O.o.row e;exact absurd (Rc.o.ty hx) dC));replace F:=lH (F.o.trans a6);clear O LR;have O:=lH ho;have LR:=lH a7;clear a6 ho U a7 ad;clear h;have h:=And.intro (E.o.at_ 1 rfl) (And.intro (E.o.at_ 2 rfl) (KS.o _ F.o));refine kH M h ?_;clear M K;refine tKs 18 41 h ?_;refine rD 17 (fun K M=> ?_);rw[if_pos (by rfl)];refine wh _ (.tmp 33) (.tmp 39) rfl (.slice Ad q cd) q _ rfl T.o sy Ay ly cy ty By my dy (by rw[aE.o];exact VY.o.below F.o) gc Rc.o rfl oM ?_;intro va aT ho U;obtain⟨a8,aa,rfl,_,_⟩:=ho.shape;have a6:=U.below (B:=W.heap.size) F.o.size LQ.o;have a7:=U.base F.o.size LQ.o;have ad:=U.grown.size;replace O:=lH (O.o.turned U (zl (fun g e=>O.o.row e) (fun g e=>T.o.row e) dC));replace E:=lH (E.o.turned U (fun e=>by obtain⟨_,hx⟩:=T.o.row e;exact absurd (E.o.ty hx) dC));replace F:=lH (F.o.trans a6);clear T LQ;have T:=lH ho;have LQ:=lH a7;clear a6 ho U a7 ad;clear h;have h:=And.intro (E.o.at_ 1 rfl) (And.intro (E.o.at_ 2 rfl) (KS.o _ F.o));refine kH M h ?_;clear M K;have q1:=aI 1 E;have q2:=aI 2 E;have aq:=E.o.free 1;have ar:=E.o.free 2;have ql:=E.o.lt;refine rD 19 (fun K M=> ?_);go_simp;refine kL M ?_;clear M K;refine tWs 20 42 ?_;refine rD 21 (fun K M=> ?_);go_simp;refine kL M ?_;clear M K;refine dN ?_ _;clear h q1 q2 aq ar ql aL;have hg:World.grownBy aT ((aT.setCell ⟨gP,1,none⟩ (.slice a9 (q+1) ab)).setCell ⟨gP,2,none⟩ (.slice a8 (q+1) aa)) (some gP):=grownBy_trans (grownBy_set _ _ _ _) (grownBy_set _ _ _ _);have PN:=(E.o.set 1 (.slice a9 (q+1) ab)).set 2 (.slice a8 (q+1) aa);have RN:=O.o.other hg (fun e=>by obtain⟨_,hx⟩:=O.o.row e;exact absurd (E.o.ty hx) dC);have QN:=T.o.other hg E.o dC (fun e=>by obtain⟨_,hx⟩:=T.o.row e;exact absurd (E.o.ty hx) dC);have ah:=F.o.grown hg F.o.size (by have:=aD.o;first | (simp;done) | (simp;omega));obtain⟨wE,aj⟩:=eX (((aT.setCell ⟨gP,1,none⟩ (.slice a9 (q+1) ab)).setCell ⟨gP,2,none⟩ (.slice a8 (q+1) aa)));rw[<- aj] at PN RN QN ah ⊢;clear aj hg;go_wp2_with fail
    go_roundw
    case rel=>exact⟨q+1,a9,ab,a8,aa,by omega,by go_num,lH RN,lH QN,LR,LQ,lH PN,lH ah⟩
    case measure=>exact mZ
  ·have bv:q=l.length:=oM
   skip
   have b4:Hid (iD wr (.slice Ar q cr) q n (pick l A)):=lH (O.o.LV F.o);have b2:Hid (eZ wr (.slice Ad q cd) q (pick l bq)):=lH T.o.ky;have ay:=lH bv;have b0:Hid (∀j,j<q -> l.getD j 0<m):=lH (fun j hj=>aZ.o _ (by rw[List.getD_eq_getElem?_getD,List.getElem?_eq_getElem oM];exact List.getElem_mem _));clear O T LR LQ bv;obtain⟨bM,bO,bP⟩:=aT3 E.o;have bR:=E.o.lt;go_wp2_with fail
   clear bM bO bP bR;have a1:Hid (∀i,i<q -> ∀j,j<n -> RL K (pick l A i j)):=lH (fun j hj c hc=>ax.o.1 (l.getD j 0) (b0.o j hj) c hc);have a2:Hid (∀i,i<q -> RL K (pick l bq i)):=lH (fun j hj=>ax.o.2 (l.getD j 0) (b0.o j hj));have a3:Hid (Lp.wide q n K <= 100000000000):=lH (by rw[ay.o];have:=HK.o.2;omega);have a4:Hid (q <= 1000000000):=lH (by rw[ay.o];exact HN.o.2.2);refine(Cr X Ar Ad n q x cr cd K (pick l A) (pick l bq) (A i) _ (HX.o.2.below F.o) (ax.o.1 i ag.o) b4.o b2.o HN.o.1 a4.o a1.o a2.o HK.o.1 a3.o).mono ?_;rintro e w2 ⟨v,rfl,hv,G⟩;replace F:=bT F G;clear G b4 b2 E;obtain⟨kk,s,A1,l1,c1,t,B1,d1,f1,P,np,cp,Y,ny,cy,R,nr,b8,qq,xx,yy,zz,rfl,bm,bn,bu⟩:=hv.kind;have av:=lH bm;have aw:=lH bn;have b1:=lH bu;clear hv bm bn bu;obtain⟨w3,aB⟩:=eX (w2.alloc (.cells #[.int .i64 kk, .bool s, .slice A1 l1 c1, .bool t, .slice B1 d1 f1, .slice P np cp, .slice Y ny cy, .slice R nr b8] 107));obtain⟨gO,aH⟩:=eX (w2.heap.size);have OB:Hid (Row w3 gO 107 [.int .i64 kk, .bool s, .slice A1 l1 c1, .bool t, .slice B1 d1 f1, .slice P np cp, .slice Y ny cy, .slice R nr b8]):=lH (by rw[aB,aH];exact eP _ _);have G:Below w2.heap.size w2 w3:=by rw[aB];exact eD _ _
   replace aw:Hid (kk=1 -> eO w3 (.agg #[.bool s, .slice A1 l1 c1, .bool t, .slice B1 d1 f1]) qq /\ RL (Lp.wide q n K+1) qq):=lH (fun e=>⟨(aw.o e).1.below G,(aw.o e).2⟩);replace F:=bT F G;clear G
   go_upto_region 8 with (fail)
   rw[<- aB, <- aH];clear aB aH;have aF:Hid (kI l.length n kk (pick l A) (pick l bq) (A i) qq xx yy zz):=lH (by rw[<- ay.o];exact b1.o);clear b1;obtain⟨sy,Ay,ly,cy,ty,By,my,dy,hQ,hv⟩:=b3.o.fO ag.o;have VY:=lH hv;obtain⟨q0,q1,q2,q3⟩:=hQ;have Y0:=lH (cell_below F.o q0);have Y1:=lH (cell_below F.o q1);have Y2:=lH (cell_below F.o q2);have Y3:=lH (cell_below F.o q3);have QD:=lH (cell_below F.o (QB.o.at_ 2 rfl));clear q0 q1 q2 q3 hv;have bY:Hid (Below w.heap.size w w3):=lH (ae.o.trans (F.o.mono ae.o.size));obtain rfl | rfl | rfl:kk=1 \/ kk=2 \/ kk=3:=by have:=av.o;omega
   ·have bl:((i:Nat):Int)<((m:Nat):Int):=by have:=ag.o;omega
    have b6:=lH (aw.o rfl);have VQ:=lH b6.o.1;go_wp2_with fail
    have af:=rG w3;have al:=OB.o.lt;obtain⟨ai,be,bf,bg,bh⟩:=aT5 OB.o;have bG:=eG QD.o;have b9:=QD.o;have bH:=eG Y0.o;have ba:=Y0.o;have bI:=eG Y1.o;have bb:=Y1.o;have bJ:=eG Y2.o;have bc:=Y2.o;have bK:=eG Y3.o;have bd:=Y3.o;have KS:=lH (kC ai (kC be (kC bf (kC bg (kC bh (kC b9 (kC ba (kC bb (kC bc (kN bd))))))))));clear al ai be bf bg bh bG b9 bH ba bI bb bJ bc bK bd;refine rL KS.o (fun i=>false) ?_;have h:=KS.o _ af.o;refine tKs 0 46 h ?_;refine tKs 1 47 h ?_;refine tKs 2 48 h ?_;refine tKs 3 49 h ?_;refine tKs 4 50 h ?_;refine tKs 5 51 h ?_;refine tKs 6 52 h ?_;refine tKs 7 53 h ?_;refine tKs 8 54 h ?_;refine tKs 9 55 h ?_;refine tKs 10 56 h ?_;refine tKs 11 57 h ?_;refine tKs 12 58 h ?_;refine tKs 13 59 h ?_;refine tKs 14 60 h ?_;refine rD 15 (fun K M=> ?_);go_simp;refine(sM _ _ qq (bq i) _ (by exact VQ.o) (by exact VY.o.below F.o.drew) (b6.o.2.mono (by have:=HK.o.2;have:=ay.o;rw[this];omega)) ((ax.o.2 i ag.o).mono (by have:=bE.o;omega))).mono ?_;rintro e bS ⟨rfl,an⟩;have an:Below w3.heap.size w3 bS:=bD an;replace F:=bT F an;replace af:=bT af an;clear h an;have h:=KS.o _ af.o;refine kH M h ?_;clear M K;refine tKs 16 62 h ?_;refine tKs 17 63 h ?_;refine tKs 18 64 h ?_;refine tKs 19 6 h ?_;refine dN ?_ _;clear h KS af;go_wp2_with fail
    go_returns;refine⟨_,rfl,⟨_,qq,xx,yy,zz,av.o,aF.o,by simp[Lx]⟩,ae.o.trans ((show Below W.heap.size W _ by first | exact F.o | exact F.o.drew).mono ae.o.size)⟩
   ·go_wp2_with fail
    have af:=rG w3;have al:=OB.o.lt;have ai:=aI 0 OB;have KS:Hid (∀w',Below w3.heap.size w3 w' -> (w'.cell? ⟨gO,0,none⟩=some (.int .i64 2))):=lH (fun w' G=>kN ai _ G);clear al ai;refine rL KS.o (fun i=>false) ?_;have h:=KS.o _ af.o;refine tKs 0 46 h ?_;refine tKs 1 47 h ?_;refine tKs 2 48 h ?_;refine tKs 3 49 h ?_;refine tUs 4 50 h ?_;refine tUs 5 51 h ?_;refine tUs 6 52 h ?_;refine tUs 7 53 h ?_;refine tUs 8 54 h ?_;refine tUs 9 55 h ?_;refine tUs 10 56 h ?_;refine tUs 11 57 h ?_;refine tUs 12 58 h ?_;refine tUs 13 59 h ?_;refine tUs 14 60 h ?_;refine tUs 15 61 h ?_;refine tUs 16 62 h ?_;refine tUs 17 63 h ?_;refine tKs 18 64 h ?_;refine tKs 19 6 h ?_;refine dN ?_ _;clear h KS af;go_wp2_with fail
    go_returns;refine⟨_,rfl,⟨_,qq,xx,yy,zz,av.o,aF.o,by simp⟩,ae.o.trans ((show Below W.heap.size W _ by first | exact F.o | exact F.o.drew).mono ae.o.size)⟩
   ·go_wp2_with fail
    have af:=rG w3;have al:=OB.o.lt;have ai:=aI 0 OB;have KS:Hid (∀w',Below w3.heap.size w3 w' -> (w'.cell? ⟨gO,0,none⟩=some (.int .i64 3))):=lH (fun w' G=>kN ai _ G);clear al ai;refine rL KS.o (fun i=>false) ?_;have h:=KS.o _ af.o;refine tKs 0 46 h ?_;refine tKs 1 47 h ?_;refine tKs 2 48 h ?_;refine tKs 3 49 h ?_;refine tKs 4 50 h ?_;refine tKs 5 51 h ?_;refine tKs 6 52 h ?_;refine tKs 7 53 h ?_;refine tUs 8 54 h ?_;refine tUs 9 55 h ?_;refine tUs 10 56 h ?_;refine tUs 11 57 h ?_;refine tUs 12 58 h ?_;refine tUs 13 59 h ?_;refine tUs 14 60 h ?_;refine tUs 15 61 h ?_;refine tUs 16 62 h ?_;refine tKs 17 63 h ?_;refine tKs 18 64 h ?_;refine tKs 19 6 h ?_;refine dN ?_ _;clear h KS af;go_wp2_with fail
    go_returns;refine⟨_,rfl,⟨_,qq,xx,yy,zz,av.o,aF.o,by simp⟩,ae.o.trans ((show Below W.heap.size W _ by first | exact F.o | exact F.o.drew).mono ae.o.size)⟩
end
section
open Go.RowKit
open Lp (RL upd eu)
def LZ(v:Int)(m:Nat)(k:Nat -> Nat)(t:Nat -> Nat -> ByteArray)(b:Nat -> ByteArray)(i:Int)(e:Ending):Prop:=
 ∃ (z:Bool) (y:Int),e= .returned (.tuple #[.bool z, .int .i64 y]) /\
  ((jF v m k t b≠0 /\ z=false /\ y=(jF v m k t b:Nat)) \/
  (jF v m k t b=0 /\ (((i<0 \/ (m:Int) <= i) /\ z=false /\ y=2) \/
   ∃j:Nat,i=(j:Nat) /\ j<m /\ y=0 /\ ∃A bq c,jk v.toNat m (fun _=>⟨#[48]⟩) t b A bq c /\ Ll (wo (List.range m) j).length v.toNat (pick (wo (List.range m) j) A) (pick (wo (List.range m) j) bq) (A j) (bq j) z)))
set_option maxRecDepth 100000 in
set_option maxHeartbeats 12800000 in
theorem Lm(v:Int)(AR:Option Addr)(m cR:Nat)(k:Nat -> Nat)(t:Nat -> Nat -> ByteArray)(b:Nat -> ByteArray)(i:Int)(U:Nat)(w:World)(hr:fZ w (.slice AR m cR) m k t b)(hf:RowsFit m k t b)
  (ai:0<U) (aj:U <= 65536) (G:jF v m k t b=0 -> ∀r,r <= m -> Lp.wide r v.toNat U+1 <= 1000000) (am:∀i,i<m -> ∀j,j<k i -> (t i j).size <= U) (al:∀i,i<m -> (b i).size <= U) (hg:iG w):
  Calls prog 48 #[.int .i64 v, .slice AR m cR, .int .i64 i] w fun e w'=>LZ v m k t b i e /\ Below w.heap.size w w':=by
 have HR:=lH hr;have HF:=lH hf;have HL:=lH (And.intro am al);have HK:=lH (And.intro ai (And.intro aj G));have aq:=lH hg;clear hr hf am al ai aj G hg;go_enter func48,ntmps48;go_wp2_with fail
 refine(Jl v AR m cR k t b _ HR.o HF.o aq.o).mono ?_;rintro e w1 ⟨hr,hb⟩;have E:=lH hb;clear hb
 rcases JV hr with ⟨h0,rfl⟩ | ⟨h0,a9,ay,AC,AS,AD,cC,cS,cD,A,bq,c,rfl,hc,hA,hD,hP,_⟩
 ·obtain⟨cc,a6⟩:=eX (jF v m k t b);rw[<- a6] at h0 ⊢;have ax:((cc:Nat):Int)≠0:=oM
  have aA:(((cc:Nat):Int) !=0)=true:=by simpa using ax
  have aB:(cc !=0)=true:=by simpa using h0
  have ao:=lH h0;have ac:=lH a6;clear h0 a6;have an:=lH (E.o.trans ((eD w1 (.cells #[.slice none 0 0, .slice none 0 0, .slice none 0 0] 98)).mono E.o.size));go_wp2_with fail
  go_returns;exact⟨⟨_,_,rfl, .inl ⟨by rw[<- ac.o];exact ao.o,rfl,by rw[<- ac.o]⟩⟩,an.o⟩
 ·have au:=lH (HK.o.2.2 h0);have a5:=lH h0;have av:=lH a9;have ae:=lH hP;have R:=lH hA;have T:=lH hD;have a0:=lH (mo a9);clear h0 a9 hP hc hA hD ay;have ad:=lH (pO av.o ae.o (fun j _=>by show 1 <= U;exact HK.o.1) HL.o.1 HL.o.2);obtain⟨w2,O⟩:=eX (w1.alloc (.cells #[.slice AC v.toNat cC, .slice AS m cS, .slice AD m cD] 98));obtain⟨gQ,a2⟩:=eX (w1.heap.size);have a3:Below w1.heap.size w1 w2:=by rw[O];exact eD _ _
  have QB:Hid (Row w2 gQ 98 [.slice AC v.toNat cC, .slice AS m cS, .slice AD m cD]):=lH (by rw[O,a2];exact eP _ _);replace R:=lH (R.o.below a3);replace T:=lH (T.o.below a3);replace E:=bT E a3;clear a3;by_cases a4:i<0
  ·have hd:decide (i<0)=true:=decide_eq_true a4;go_wp2_with fail
   rw[<- O];clear O a2 hd;go_returns;exact⟨⟨_,_,rfl, .inr ⟨a5.o, .inl ⟨by omega,rfl,rfl⟩⟩⟩,E.o⟩
  ·by_cases a8:(m:Int) <= i
   ·have hd:decide (i<0)=false:=decide_eq_false a4;have a7:decide ((m:Int) <= i)=true:=decide_eq_true a8;go_wp2_with fail
    rw[<- O];clear O a2 hd a7;go_returns;exact⟨⟨_,_,rfl, .inr ⟨a5.o, .inl ⟨by omega,rfl,rfl⟩⟩⟩,E.o⟩
   ·obtain⟨j,rfl⟩:∃j:Nat,i=(j:Nat):=⟨i.toNat,by omega⟩
    have HJ:Hid (j<m):=lH oM;have hd:decide (((j:Nat):Int)<0)=false:=decide_eq_false a4;have a7:decide ((m:Int) <= ((j:Nat):Int))=false:=decide_eq_false a8
    go_upto_region 6 with (fail)
    rw[<- O, <- a2];clear O a2 hd a7 a4 a8;go_wp2_with fail
    have F:=rG w2;have aw:=QB.o.lt;obtain⟨af,ag,ah⟩:=aT3 QB.o;have Z:=lH (kC af (kC ag (kN ah)));clear aw af ag ah;refine rL Z.o (fun i=>false) ?_;have h:=Z.o _ F.o;refine tKs 0 27 h ?_;refine tKs 1 28 h ?_;refine tKs 2 29 h ?_;refine tKs 3 30 h ?_;refine tKs 5 32 h ?_;refine rD 4 (fun K G=> ?_);go_simp;refine(LM m _ (by have:=a0.o.2.1;omega)).mono ?_;rintro e aa ⟨va,rfl,M,X⟩;have X:Below w2.heap.size w2 aa:=bD X;replace R:=lH (R.o.below X);replace T:=lH (T.o.below X);replace E:=bT E X;replace F:=bT F X;obtain⟨Aa,ca,rfl,_,_⟩:=M.shape;rw[show(List.range m).length=m from List.length_range] at M ⊢;have HI:=lH M;clear M;clear h X;have h:=Z.o _ F.o;refine kH G h ?_;clear G K;refine rD 6 (fun K G=> ?_);go_simp;refine(LU _ (List.range m) j _ (by exact HI.o) (by rw[List.length_range];have:=a0.o.2.1;omega)).mono ?_;rintro e ab ⟨vb,rfl,M,Y⟩;have Y:Below aa.heap.size aa ab:=bD Y;replace R:=lH (R.o.below Y);replace T:=lH (T.o.below Y);replace E:=bT E Y;replace F:=bT F Y;obtain⟨Ab,cb,rfl,_,_⟩:=M.shape;have ar:=lH M;clear M;clear h Y;have h:=Z.o _ F.o;refine kH G h ?_;clear G K;refine rD 7 (fun K G=> ?_);go_simp;refine(LW AC AS AD v.toNat v.toNat m cC cS cD A bq j _ (wo (List.range m) j) U _ (by exact R.o) (by exact T.o) (by exact ar.o) HJ.o (fun q hq=>List.mem_range.1 (LG hq).1) (by have:=a0.o.1;omega) (by have:=a0.o.2.1;omega) (by have:=Lu (List.range m) j;rw[List.length_range] at this;have:=a0.o.2.1;omega) ad.o.2.1 ad.o.2.2 HK.o.1 HK.o.2.1 (au.o _ (by have:=Lu (List.range m) j;rw[List.length_range] at this;exact this))).mono ?_;rintro e az ⟨z,rfl,ak,a1⟩;have a1:Below ab.heap.size ab az:=bD a1;replace E:=bT E a1;replace F:=bT F a1;have ap:=lH ak;clear ak;clear h a1;have h:=Z.o _ F.o;refine kH G h ?_;clear G K;refine tKs 8 6 h ?_;refine tKs 9 7 h ?_;refine dN ?_ _;clear h Z F;go_wp2_with fail
    go_returns;exact⟨⟨_,_,rfl, .inr ⟨a5.o, .inr ⟨j,rfl,HJ.o,rfl,A,bq,c,ae.o,ap.o⟩⟩⟩,E.o⟩
end
section
open Go.RowKit
open Lp (RL upd eu)
set_option maxRecDepth 100000 in
set_option maxHeartbeats 12800000 in
theorem M0(AX AO:Option Addr)(n cX r cO:Nat)(s:Nat -> ByteArray)(s0:ByteArray)(k:Nat -> Nat)(t:Nat -> Nat -> ByteArray)(b:Nat -> ByteArray)(β:Rat)(w:World)(hx:TS w (.slice AX n cX) n s)(ho:fZ w (.slice AO r cO) r k t b)(h0:fD n r k s t b=0)(hβ:s0=eF β)(ah:s0.size <= 12)(hn:n <= 6)(hm:r <= 8)
  (ad:∀j,j<n -> (s j).size <= 12) (ae:∀i,i<r -> ∀j,j<k i -> (t i j).size <= 12) (ac:∀i,i<r -> (b i).size <= 12) (hg:iG w) (ht:Tab w):
  Calls prog 49 #[.agg #[.slice AX n cX, .string s0], .slice AO r cO] w fun e w'=>∃z,e= .returned (.tuple #[.bool z, .bool true]) /\ (∃A bq c,jk n r s t b A bq c /\ Ll r n A bq c β z) /\ Below w.heap.size w w':=by
 have HX:=lH hx;have HO:=lH ho;have H0:=lH h0;have a9:=lH hβ;have al:=lH ah;have a3:=lH (And.intro hn hm);have HL:=lH (And.intro ad (And.intro ae ac));have aj:=lH hg;have am:=lH ht;clear hx ho h0 ah hn hm ad ae ac hg ht;clear hβ;obtain⟨W,hW,T,E⟩:=eN1 w [.slice AX n cX, .string s0] 53;go_enter func49,ntmps49;have a0:=aI 0 T;have a1:=T.o.lt;rw[hW] at a0 a1;go_wp2_with fail
 rw[<- hW];clear hW a0 a1;refine(K6 AX AO n r cX cO k s t b 12 12589 250000 _ (HX.o.below E.o) (HO.o.below E.o) H0.o dC dC HL.o.1 HL.o.2.1 HL.o.2.2 (CO a3.o.2 a3.o.1) dC ⟨by have:=a3.o.1;have:=a3.o.2;omega,by decide,by decide⟩ dC (aj.o.below E.o) (am.o.below E.o)).mono ?_;rintro e w1 ⟨⟨O,v,rfl,hO,aa,ab,ao,A,bq,c,q,x,y,d,af,a7,ag⟩,X⟩;replace T:=rW T X;replace E:=bT E X;clear X;obtain⟨AP,cP,AY,cY,AD,cD,rfl,_,_,_⟩:=hO.shape;have a4:=lH af;have a5:=lH ag;have Z:Hid (O.kk=1 -> O.s=eF q /\ RL 12589 q):=lH (fun e=>⟨jE (a7.val e),iU (a7.val e) aa.1⟩);have a2:=lH ab;clear hO af ag a7 ab ao aa;obtain⟨w2,h⟩:=eX (w1.alloc (.cells #[.int .i64 O.kk, .string O.s, .slice AP O.np cP, .slice AY O.ny cY, .slice AD O.nd cD] 32));obtain⟨gO,U⟩:=eX (w1.heap.size);have a6:Below w1.heap.size w1 w2:=by rw[h];exact eD _ _
 have R:Hid (Row w2 gO 32 [.int .i64 O.kk, .string O.s, .slice AP O.np cP, .slice AY O.ny cY, .slice AD O.nd cD]):=lH (by rw[h,U];exact eP _ _);replace T:=rW T a6;replace E:=bT E a6;clear a6;have an:O.kk=1 \/ O.kk=2 \/ O.kk=3:=by have:=a2.o;omega
 rcases an with F | F | F
 ·rw[F] at R h ⊢;have Y:=lH F;have ak:=lH (Z.o F).2;rw[(Z.o F).1] at R h ⊢;rw[a9.o] at T;clear F Z;obtain⟨G,a8⟩:=aT2 R.o;have M:=R.o.lt;obtain⟨a0,ai⟩:=aT2 T.o;have a1:=T.o.lt;rw[h] at G a8 M a0 ai a1;rw[U] at G a8 M;go_wp2_with fail
  clear G a8 M a0 ai a1;rw[<- h];clear h U;refine(H8 q β 12589 _ ak.o ((iU (K:=12) (by rw[a9.o];exact jI β) al.o).mono dC) dC).mono ?_;rintro e w3 ⟨rfl,X⟩;replace E:=bT E X;clear X;go_wp2_with fail
  go_returns;exact⟨_,rfl,⟨A,bq,c,a4.o,O.kk,q,x,y,d,a2.o,a5.o,by rw[Y.o];simp[Lx]⟩,E.o⟩
 ·rw[F] at R h ⊢;have Y:=lH F;clear F Z;have G:=aI 0 R;have M:=R.o.lt;rw[h] at G M;rw[U] at G M;go_wp2_with fail
  clear G M;rw[<- h];clear h U;go_returns;exact⟨_,rfl,⟨A,bq,c,a4.o,O.kk,q,x,y,d,a2.o,a5.o,by rw[Y.o];simp⟩,E.o⟩
 ·rw[F] at R h ⊢;have Y:=lH F;clear F Z;have G:=aI 0 R;have M:=R.o.lt;rw[h] at G M;rw[U] at G M;go_wp2_with fail
  clear G M;rw[<- h];clear h U;go_returns;exact⟨_,rfl,⟨A,bq,c,a4.o,O.kk,q,x,y,d,a2.o,a5.o,by rw[Y.o];simp⟩,E.o⟩
end
end Go.Proofs.YtdefghfjhgmpfaaGreatDoor
