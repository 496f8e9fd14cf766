/- Parts of this proof: Concat. -/
import Derived.Test.YtdefghfjhgmpfaaGreatDoorMAZ
import Derived.Test.YtdefghfjhgmpfaaGreatDoorMAP
import Derived.Shelf.Spec.SlicesGrow
namespace Go.Proofs.YtdefghfjhgmpfaaGreatDoor
open Go.RowKit
open Lp (RL upd eu)
def LA:Go.Shelf.Ren:=⟨fun | 4=>73 | n=>n,fun | 22=>23 | 25=>53 | n=>n,fun | n=>n⟩
theorem LC:Go.Proofs.Lays8.n4 Tryz.prog LA:=by
 constructor <;> first | kernel_rfl | (intro w;kernel_rfl) | exact⟨Tryz.f73.name,by decide,Tryz.func73.trans (congrArg some kR)⟩ | decide
def jn{α:Type}(m:Nat)(f g:Nat -> α)(i:Nat):α:=if i<m then f i else g (i-m)
def Lh(u:Nat -> Value)(b:Nat -> ByteArray):Nat -> List Value
 | 0=>[]
 | m+1=>Lh u b m++ [u m, .string (b m)]
theorem Lr(u:Nat -> Value)(b:Nat -> ByteArray)(m:Nat):(Lh u b m).length=m*2:=by
 induction m with
 | zero=>rfl
 | succ m h=>simp only[Lh,List.length_append,h,List.length_cons,List.length_nil];omega
theorem Ls{u:Nat -> Value}{b:Nat -> ByteArray}{m i:Nat}(h:i<m):(Lh u b m)[i*2]? =some (u i) /\ (Lh u b m)[i*2+1]? =some (.string (b i)):=by
 induction m with
 | zero=>omega
 | succ m t=>
  have C:=Lr u b m;by_cases e:i=m
  ·subst e;exact⟨by rw[Lh,List.getElem?_append_right oM,show i*2-(Lh u b i).length=0 by omega];rfl,by rw[Lh,List.getElem?_append_right oM,show i*2+1-(Lh u b i).length=1 by omega];rfl⟩
  ·obtain⟨h1,r⟩:=t oM;exact⟨by rw[Lh,List.getElem?_append_left oM];exact h1,by rw[Lh,List.getElem?_append_left oM];exact r⟩
theorem M3{P:Value -> Prop}{u:Nat -> Value}{b:Nat -> ByteArray}{m:Nat}(r:∀i,i<m -> P (u i))(t:∀x,P (.string x)):∀v ∈ Lh u b m,P v:=by
 induction m with
 | zero=>intro v h;cases h
 | succ m C=>
  intro v h;simp only[Lh,List.mem_append,List.mem_cons,List.not_mem_nil,or_false] at h
  rcases h with h | rfl | rfl
  ·exact C (fun i E=>r i oM) v h
  ·exact r m oM
  ·exact t _
theorem fZ.cells{w:World}{a:Addr}{m c:Nat}{k:Nat -> Nat}{s:Nat -> Nat -> ByteArray}{b:Nat -> ByteArray}(h:fZ w (.slice (some a) m c) m k s b):
  ∃u:Nat -> Value,(∀w',Below w.heap.size w w' -> ∀j v,(Lh u b m)[j]? =some v -> w'.cell? (a.add j)=some v) /\ (∀v ∈ Lh u b m,v.oneCell'=true) /\ ∀i,i<m -> TS w (u i) (k i) (s i):=by
 obtain⟨A,c',G,h1,Z,M⟩:=h;simp only[Value.slice.injEq,true_and] at G;obtain⟨U,_⟩:=G
 rcases M with M | ⟨g,o,W,R⟩
 ·subst M;exact⟨fun _=>undef,fun _ _ j v t=>by simp[Lh] at t,fun v G=>by simp[Lh] at G,fun i r=>absurd r oM⟩
 ·have V:a=⟨g,o,none⟩:=Option.some.inj (U.trans W)
  obtain⟨u,F⟩:∃u:Nat -> Value,∀i,i<m -> w.cell? ⟨g,o+i*2,none⟩=some (u i) /\ w.cell? ⟨g,o+i*2+1,none⟩=some (.string (b i)) /\ TS w (u i) (k i) (s i):=
   ⟨fun i=>if r:i<m then(R i r).choose else undef,fun i r=>by
    have:=(R i r).choose_spec;simp only[dif_pos r]
    exact this⟩
  refine⟨u,fun w' O j v t=> ?_,M3 (fun i r=>by obtain⟨A',Y,e,_⟩:=(F i r).2.2.shape;rw[e];rfl) (fun _=>rfl),fun i r=>(F i r).2.2⟩;have X:=(List.getElem?_eq_some_iff.1 t).1;rw[Lr] at X
  have T:a.add j=⟨g,o+j,none⟩:=by
   rw[V];unfold Addr.add;by_cases e:j=0
   ·rw[if_pos e,e];rfl
   ·rw[if_neg e]
  rw[T];have E:j / 2<m:=oM
  rcases Nat.mod_two_eq_zero_or_one j with e | e
  ·have C:j=j / 2*2:=oM
   rw[C,(Ls E).1] at t;rw[C, <- t];exact cell_below O (F _ E).1
  ·have C:j=j / 2*2+1:=oM
   rw[C,(Ls E).2] at t;rw[C, <- t, <- Nat.add_assoc];exact cell_below O (F _ E).2.1
theorem M4{w w':World}{v:Value}{h t:Nat}{T U:Nat -> Nat}{V W:Nat -> Nat -> ByteArray}{r b2:Nat -> ByteArray}{u1 u2:Nat -> Value}(O:w'.ownsRow 0 53 2 v (h+t) (Lh u1 r h++Lh u2 b2 t))
  (h1:∀i,i<h -> TS w (u1 i) (T i) (V i)) (X:∀i,i<t -> TS w (u2 i) (U i) (W i)) (M:Below w.heap.size w w'):fZ w' v (h+t) (jn h T U) (jn h V W) (jn h r b2):=by
 obtain⟨A,c,rfl,Y,Z⟩:=sP O;refine⟨A,c,rfl,Y,Z,?_⟩
 rcases Nat.eq_zero_or_pos (h+t) with h0 | h0
 ·exact .inl h0
 ·obtain⟨g,cap,cs,R,E,C⟩:=C9 O h0;simp only[Value.slice.injEq,true_and] at R;refine .inr ⟨g,0,R.1,fun i hi=> ?_⟩;have hl:=Lr u1 r h;by_cases e:i<h
  ·obtain⟨F,G⟩:=Ls (u:=u1) (b:=r) e;refine⟨u1 i,?_,?_,?_⟩
   ·rw[Nat.zero_add];exact E.at_ _ (C _ _ (by rw[List.getElem?_append_left oM];exact F))
   ·rw[Nat.zero_add];unfold jn;rw[if_pos e];exact E.at_ _ (C _ _ (by rw[List.getElem?_append_left oM];exact G))
   ·unfold jn;rw[if_pos e,if_pos e];exact(h1 i e).below M
  ·obtain⟨F,G⟩:=Ls (u:=u2) (b:=b2) (show i-h<t by omega);refine⟨u2 (i-h),?_,?_,?_⟩
   ·rw[Nat.zero_add];exact E.at_ _ (C _ _ (by rw[List.getElem?_append_right oM,show i*2-(Lh u1 r h).length=(i-h)*2 by omega];exact F))
   ·rw[Nat.zero_add];unfold jn;rw[if_neg e];exact E.at_ _ (C _ _ (by rw[List.getElem?_append_right oM,show i*2+1-(Lh u1 r h).length=(i-h)*2+1 by omega];exact G))
   ·unfold jn;rw[if_neg e,if_neg e];exact(X (i-h) oM).below M
theorem M5(n:Nat)(w:World)(W:n <= 2000000000):Calls Tryz.prog 73 #[.slice none 0 0, .int .i64 n] w fun e w'=>∃v,e= .returned v /\ w'.ownsRow 0 53 2 v 0 [] /\ (∀g,v.ownBlock=some g -> w.heap.size <= g) /\ Below w.heap.size w w':=by
 obtain⟨i,O,T,U,V⟩:=info_parts C8
 rcases Nat.eq_zero_or_pos n with h0 | h0
 ·subst h0;refine(Any8.slices_Grow_room LC none 0 0 0 w (Nat.le_refl _) dC dC (Nat.le_refl _)).mono ?_;rintro e w' ⟨rfl,rfl⟩;exact⟨_,rfl,World.ownsRow_nil _ _ _ _,fun g h=>by simp[Value.ownBlock] at h,Below.refl _ _⟩
 ·refine(Any8.slices_Grow_grow LC i _ O T (by rw[U];decide) none 0 0 n [] w (Nat.le_refl _) oM (by rw[V];omega) oM (by simp) (fun _=>rfl) (fun a M=>by cases M)).mono ?_;rintro e w' ⟨rfl,rfl⟩;have E:=grownCap_ge w (0+n) 0 53;have C:=grownCap_le_maxLen w (0+n) 0 53 (by unfold maxLen;omega);obtain⟨G,r⟩:=eX (grownCap w (0+n) 0 53);have F:grownCap w (0+n) 0 (LA.t 25)=G:=r.symm;rw[F];rw[<- r] at E C;refine⟨_,rfl,⟨rfl, .inr ⟨w.heap.size,G,_,rfl,Nat.zero_le _,(eP w.drew _),Nat.zero_le _,C,?_,by simp⟩⟩,fun g h=> ?_,(Below.refl _ _).drew.trans (eD w.drew _)⟩
  ·have R:(Value.agg #[.slice none 0 0, .string ⟨#[]⟩]).cells.size=2:=by kernel_rfl
   simp[Builtin.zeroCells,R];omega
  ·simp only[Value.ownBlock,Option.some.injEq] at h;omega
set_option maxRecDepth 100000 in
set_option maxHeartbeats 12800000 in
theorem M6(gX:Nat)(a1 a2:Addr)(h t c1 c2:Nat)(k1 k2:Nat -> Nat)(s1 s2:Nat -> Nat -> ByteArray)(R b2:Nat -> ByteArray)(w:World)(hX:Row w gX 23 [.slice (some a1) h c1, .slice (some a2) t c2])(h1:fZ w (.slice (some a1) h c1) h k1 s1 R)(h2:fZ w (.slice (some a2) t c2) t k2 s2 b2)(a8:h <= 1000000000)(a9:t <= 1000000000):
  Calls Tryz.prog 34 #[.slice (some ⟨gX,0,none⟩) 2 2] w fun e w'=>∃v,e= .returned v /\ fZ w' v (h+t) (jn h k1 k2) (jn h s1 s2) (jn h R b2) /\ Below w.heap.size w w':=by
 obtain⟨iR,a6,ag,ah,ai⟩:=info_parts C8;obtain⟨u1,ae,aa,ac⟩:=h1.cells;obtain⟨u2,af,ab,ad⟩:=h2.cells;have X:=lH hX;have Z:=lH (And.intro ae (And.intro aa ac));have H2:=lH (And.intro af (And.intro ab ad));have G:=lH (And.intro a8 a9);clear hX h1 h2 ae aa ac af ab ad a8 a9;go_enter Tryz.func34,Tryz.ntmps34;go_wp2_with fail
 go_loopw [3,11] (fun sv O wr=>∃q:Nat,q <= 2 /\ O= .int .i64 q /\ ((q=0 /\ sv= .int .i64 0) \/ (q=1 /\ sv= .int .i64 h) \/ (q=2 /\ sv= .int .i64 ((h+t:Nat):Int))) /\ Hid (Below w.heap.size w wr)) (fun _ O _=>2-(intOf O).toNat)
 case atStart=>exact⟨0,by decide,rfl, .inl ⟨rfl,rfl⟩,lH (Below.refl _ _)⟩
 case round=>
  obtain⟨q,hq,rfl,⟨rfl,rfl⟩ | ⟨rfl,rfl⟩ | ⟨rfl,rfl⟩,r⟩:=hrel
  ·have hm:=G.o;have kx:=cell_below r.o (X.o.at_ 0 rfl);have V:=eG kx;have a4:¬((h:Int)<0):=oM
   have a5:¬((h:Int)+ (t:Int)<0):=oM
   have aj:decide ((h:Int)<0)=false:=decide_eq_false a4;have ak:decide ((h:Int)+ (t:Int)<0)=false:=decide_eq_false a5;go_wp2_with fail
   go_roundw
   case rel=>exact⟨1,by decide,by go_num, .inr (.inl ⟨rfl,by go_num⟩),r⟩
   case measure=>exact mZ
  ·have hm:=G.o;have kx:=cell_below r.o (X.o.at_ 1 rfl);have V:=eG kx;have a4:¬((h:Int)<0):=oM
   have a5:¬((h:Int)+ (t:Int)<0):=oM
   have aj:decide ((h:Int)<0)=false:=decide_eq_false a4;have ak:decide ((h:Int)+ (t:Int)<0)=false:=decide_eq_false a5;go_wp2_with fail
   go_roundw
   case rel=>exact⟨2,by decide,by go_num, .inr (.inr ⟨rfl,by go_num⟩),r⟩
   case measure=>exact mZ
  ·go_wp2_with fail
   refine(M5 (h+t) _ (by have:=G.o;omega)).mono ?_;rintro e w2 ⟨v,rfl,C,a7,hb⟩;obtain⟨Av,cv,rfl,_,_⟩:=sP C;have F:=lH C;have E:Hid (∀g,(Value.slice Av 0 cv).ownBlock=some g -> w.heap.size <= g):=lH (fun g hg=>Nat.le_trans r.o.size (a7 g hg));replace r:=bT r hb;clear C a7 hb;go_wp2_with fail
   go_loopw [6,27] (fun sv O wr=>∃ (q n:Nat) (B:Option Addr) (d:Nat) (xs:List Value),q <= 2 /\ O= .int .i64 q /\ sv= .slice B n d /\ Hid ((q=0 /\ n=0 /\ xs= []) \/ (q=1 /\ h=n /\ xs=Lh u1 R h) \/ (q=2 /\ n=h+t /\ xs=Lh u1 R h++Lh u2 b2 t)) /\ Hid (wr.ownsRow 0 53 2 (.slice B n d) n xs) /\ Hid (∀g,(Value.slice B n d).ownBlock=some g -> w.heap.size <= g) /\ Hid (Below w.heap.size w wr)) (fun _ O _=>2-(intOf O).toNat)
   case atStart=>exact⟨0,0,Av,cv,[],by decide,rfl,rfl,lH (.inl ⟨rfl,rfl,rfl⟩),F,E,r⟩
   case round=>
    clear F E r;obtain⟨q,n,B,d,xs,hq,rfl,rfl,W,F,E,r⟩:=hrel
    rcases W.o with ⟨rfl,rfl,rfl⟩ | ⟨rfl,rfl,rfl⟩ | ⟨rfl,rfl,rfl⟩
    ·have kx:=cell_below r.o (X.o.at_ 0 rfl);have V:=eG kx;clear W
     go_wp2_with (at_builtin;(refine wpList_plain rfl fun K hK=>lW _ (.tmp 31) (.tmp 32) 23 rfl 53 iR _ 2 40 Tryz.underlying23 a6 ag ah ai rfl dC (.slice B 0 d) (0) _ rfl F.o a1 h c1 (Lh u1 R h) rfl (Lr _ _ _) (fun j y hj=>Z.o.1 _ r.o j y hj) Z.o.2.1 (by have:=G.o;unfold maxLen;omega) (by have:=G.o;omega) ?_))
     intro va w3 C M;obtain⟨Y,d2,rfl,_,_⟩:=sP C;have T:=M.below (B:=w.heap.size) r.o.size E.o;have U:=M.base r.o.size E.o;replace r:=lH (r.o.trans T);have a3:=lH C;have a0:=lH U;clear T U C M F E kx V;refine hK _ _ ?_;go_wp2_with fail
     go_roundw
     case rel=>exact⟨1,h,Y,d2,_,by decide,by go_num,rfl,lH (.inr (.inl ⟨rfl,rfl,rfl⟩)),a3,a0,r⟩
     case measure=>exact mZ
    ·have kx:=cell_below r.o (X.o.at_ 1 rfl);have V:=eG kx;clear W
     go_wp2_with (at_builtin;(refine wpList_plain rfl fun K hK=>lW _ (.tmp 31) (.tmp 32) 23 rfl 53 iR _ 2 40 Tryz.underlying23 a6 ag ah ai rfl dC (.slice B h d) (h) _ rfl F.o a2 t c2 (Lh u2 b2 t) rfl (Lr _ _ _) (fun j y hj=>H2.o.1 _ r.o j y hj) H2.o.2.1 (by have:=G.o;unfold maxLen;omega) (by have:=G.o;omega) ?_))
     intro va w3 C M;obtain⟨Y,d2,rfl,_,_⟩:=sP C;have T:=M.below (B:=w.heap.size) r.o.size E.o;have U:=M.base r.o.size E.o;replace r:=lH (r.o.trans T);have a3:=lH C;have a0:=lH U;clear T U C M F E kx V;refine hK _ _ ?_;go_wp2_with fail
     go_roundw
     case rel=>exact⟨2,h+t,Y,d2,_,by decide,by go_num,rfl,lH (.inr (.inr ⟨rfl,rfl,rfl⟩)),a3,a0,r⟩
     case measure=>exact mZ
    ·clear W;go_wp2_with fail
     go_returns;exact⟨_,rfl,M4 F.o Z.o.2.2 H2.o.2.2 r.o,r.o⟩
end Go.Proofs.YtdefghfjhgmpfaaGreatDoor
