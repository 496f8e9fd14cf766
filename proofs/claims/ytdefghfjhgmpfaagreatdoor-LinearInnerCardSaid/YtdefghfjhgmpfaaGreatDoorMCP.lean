/- Parts of this proof: Concat. -/
import Derived.Test.YtdefghfjhgmpfaaGreatDoorMAZ
import Derived.Test.YtdefghfjhgmpfaaGreatDoorMAP
import Derived.Shelf.Spec.SlicesGrow
namespace Go.Proofs.YtdefghfjhgmpfaaGreatDoor
open Go.RowKit
open Lp (RL upd eu)
def LA:Go.Shelf.Ren:=⟨fun | 4=>73 | n=>n,fun | 22=>23 | 25=>53 | n=>n,fun | n=>n⟩
theorem LC:Go.Proofs.Lays8.n4 Tryz.prog LA:=by
 constructor <;> first | kernel_rfl | (intro w;kernel_rfl) | exact⟨Tryz.f73.name,by decide,Tryz.func73.trans (congrArg some kR)⟩ | decide
def jn{α:Type}(m:Nat)(f g:Nat -> α)(i:Nat):α:=if i<m then f i else g (i-m)
def Lh(u:Nat -> Value)(b:Nat -> ByteArray):Nat -> List Value
 | 0=>[]
 | m+1=>Lh u b m++ [u m, .string (b m)]
theorem Lr(u:Nat -> Value)(b:Nat -> ByteArray)(m:Nat):(Lh u b m).length=m*2:=by
 induction m with
 | zero=>rfl
 | succ m h=>simp only[Lh,List.length_append,h,List.length_cons,List.length_nil];omega
theorem Ls{u:Nat -> Value}{b:Nat -> ByteArray}{m i:Nat}(h:i<m):(Lh u b m)[i*2]? =some (u i) /\ (Lh u b m)[i*2+1]? =some (.string (b i)):=by
 induction m with
 | zero=>omega
 | succ m E=>
  have F:=Lr u b m;by_cases e:i=m
  ·subst e;exact⟨by rw[Lh,List.getElem?_append_right oM,show i*2-(Lh u b i).length=0 by omega];rfl,by rw[Lh,List.getElem?_append_right oM,show i*2+1-(Lh u b i).length=1 by omega];rfl⟩
  ·obtain⟨h1,t⟩:=E oM;exact⟨by rw[Lh,List.getElem?_append_left oM];exact h1,by rw[Lh,List.getElem?_append_left oM];exact t⟩
theorem M3{P:Value -> Prop}{u:Nat -> Value}{b:Nat -> ByteArray}{m:Nat}(t:∀i,i<m -> P (u i))(E:∀x,P (.string x)):∀v ∈ Lh u b m,P v:=by
 induction m with
 | zero=>intro v h;cases h
 | succ m F=>
  intro v h;simp only[Lh,List.mem_append,List.mem_cons,List.not_mem_nil,or_false] at h
  rcases h with h | rfl | rfl
  ·exact F (fun i G=>t i oM) v h
  ·exact t m oM
  ·exact E _
theorem fZ.cells{w:World}{a:Addr}{m c:Nat}{k:Nat -> Nat}{s:Nat -> Nat -> ByteArray}{b:Nat -> ByteArray}(h:fZ w (.slice (some a) m c) m k s b):
  ∃u:Nat -> Value,(∀w',Below w.heap.size w w' -> ∀j v,(Lh u b m)[j]? =some v -> w'.cell? (a.add j)=some v) /\ (∀v ∈ Lh u b m,v.oneCell'=true) /\ ∀i,i<m -> TS w (u i) (k i) (s i):=by
 obtain⟨A,c',O,h1,h2,R⟩:=h;simp only[Value.slice.injEq,true_and] at O;obtain⟨Y,_⟩:=O
 rcases R with R | ⟨g,o,hg,U⟩
 ·subst R;exact⟨fun _=>undef,fun _ _ j v E=>by simp[Lh] at E,fun v O=>by simp[Lh] at O,fun i t=>absurd t oM⟩
 ·have Z:a=⟨g,o,none⟩:=Option.some.inj (Y.trans hg)
  obtain⟨u,M⟩:∃u:Nat -> Value,∀i,i<m -> w.cell? ⟨g,o+i*2,none⟩=some (u i) /\ w.cell? ⟨g,o+i*2+1,none⟩=some (.string (b i)) /\ TS w (u i) (k i) (s i):=
   ⟨fun i=>if t:i<m then(U i t).choose else undef,fun i t=>by
    have:=(U i t).choose_spec;simp only[dif_pos t]
    exact this⟩
  refine⟨u,fun w' T j v E=> ?_,M3 (fun i t=>by obtain⟨A',c2,e,_⟩:=(M i t).2.2.shape;rw[e];rfl) (fun _=>rfl),fun i t=>(M i t).2.2⟩;have hl:=(List.getElem?_eq_some_iff.1 E).1;rw[Lr] at hl
  have X:a.add j=⟨g,o+j,none⟩:=by
   rw[Z];unfold Addr.add;by_cases e:j=0
   ·rw[if_pos e,e];rfl
   ·rw[if_neg e]
  rw[X];have G:j / 2<m:=oM
  rcases Nat.mod_two_eq_zero_or_one j with e | e
  ·have F:j=j / 2*2:=oM
   rw[F,(Ls G).1] at E;rw[F, <- E];exact cell_below T (M _ G).1
  ·have F:j=j / 2*2+1:=oM
   rw[F,(Ls G).2] at E;rw[F, <- E, <- Nat.add_assoc];exact cell_below T (M _ G).2.1
theorem M4{w w':World}{v:Value}{h E:Nat}{X Y:Nat -> Nat}{Z s2:Nat -> Nat -> ByteArray}{t b2:Nat -> ByteArray}{u1 u2:Nat -> Value}(T:w'.ownsRow 0 53 2 v (h+E) (Lh u1 t h++Lh u2 b2 E))
  (h1:∀i,i<h -> TS w (u1 i) (X i) (Z i)) (h2:∀i,i<E -> TS w (u2 i) (Y i) (s2 i)) (R:Below w.heap.size w w'):fZ w' v (h+E) (jn h X Y) (jn h Z s2) (jn h t b2):=by
 obtain⟨A,c,rfl,a0,a3⟩:=sP T;refine⟨A,c,rfl,a0,a3,?_⟩
 rcases Nat.eq_zero_or_pos (h+E) with h0 | h0
 ·exact .inl h0
 ·obtain⟨g,cap,cs,U,G,F⟩:=C9 T h0;simp only[Value.slice.injEq,true_and] at U;refine .inr ⟨g,0,U.1,fun i hi=> ?_⟩;have hl:=Lr u1 t h;by_cases e:i<h
  ·obtain⟨M,O⟩:=Ls (u:=u1) (b:=t) e;refine⟨u1 i,?_,?_,?_⟩
   ·rw[Nat.zero_add];exact G.at_ _ (F _ _ (by rw[List.getElem?_append_left oM];exact M))
   ·rw[Nat.zero_add];unfold jn;rw[if_pos e];exact G.at_ _ (F _ _ (by rw[List.getElem?_append_left oM];exact O))
   ·unfold jn;rw[if_pos e,if_pos e];exact(h1 i e).below R
  ·obtain⟨M,O⟩:=Ls (u:=u2) (b:=b2) (show i-h<E by omega);refine⟨u2 (i-h),?_,?_,?_⟩
   ·rw[Nat.zero_add];exact G.at_ _ (F _ _ (by rw[List.getElem?_append_right oM,show i*2-(Lh u1 t h).length=(i-h)*2 by omega];exact M))
   ·rw[Nat.zero_add];unfold jn;rw[if_neg e];exact G.at_ _ (F _ _ (by rw[List.getElem?_append_right oM,show i*2+1-(Lh u1 t h).length=(i-h)*2+1 by omega];exact O))
   ·unfold jn;rw[if_neg e,if_neg e];exact(h2 (i-h) oM).below R
theorem M5(n:Nat)(w:World)(hn:n <= 2000000000):Calls Tryz.prog 73 #[.slice none 0 0, .int .i64 n] w fun e w'=>∃v,e= .returned v /\ w'.ownsRow 0 53 2 v 0 [] /\ (∀g,v.ownBlock=some g -> w.heap.size <= g) /\ Below w.heap.size w w':=by
 obtain⟨i,T,X,Y,Z⟩:=info_parts C8
 rcases Nat.eq_zero_or_pos n with h0 | h0
 ·subst h0;refine(Any8.slices_Grow_room LC none 0 0 0 w (Nat.le_refl _) dC dC (Nat.le_refl _)).mono ?_;rintro e w' ⟨rfl,rfl⟩;exact⟨_,rfl,World.ownsRow_nil _ _ _ _,fun g h=>by simp[Value.ownBlock] at h,Below.refl _ _⟩
 ·refine(Any8.slices_Grow_grow LC i _ T X (by rw[Y];decide) none 0 0 n [] w (Nat.le_refl _) oM (by rw[Z];omega) oM (by simp) (fun _=>rfl) (fun a R=>by cases R)).mono ?_;rintro e w' ⟨rfl,rfl⟩;have M:=grownCap_ge w (0+n) 0 53;have F:=grownCap_le_maxLen w (0+n) 0 53 (by unfold maxLen;omega);obtain⟨G,E⟩:=eX (grownCap w (0+n) 0 53);have O:grownCap w (0+n) 0 (LA.t 25)=G:=E.symm;rw[O];rw[<- E] at M F;refine⟨_,rfl,⟨rfl, .inr ⟨w.heap.size,G,_,rfl,Nat.zero_le _,(eP w.drew _),Nat.zero_le _,F,?_,by simp⟩⟩,fun g h=> ?_,(Below.refl _ _).drew.trans (eD w.drew _)⟩
  ·have U:(Value.agg #[.slice none 0 0, .string ⟨#[]⟩]).cells.size=2:=by kernel_rfl
   simp[Builtin.zeroCells,U];omega
  ·simp only[Value.ownBlock,Option.some.injEq] at h;omega
set_option maxRecDepth 100000 in
set_option maxHeartbeats 12800000 in
theorem M6(gX:Nat)(a1 a2:Addr)(h E c1 c2:Nat)(k1 k2:Nat -> Nat)(s1 s2:Nat -> Nat -> ByteArray)(U b2:Nat -> ByteArray)(w:World)(hX:Row w gX 23 [.slice (some a1) h c1, .slice (some a2) E c2])(h1:fZ w (.slice (some a1) h c1) h k1 s1 U)(h2:fZ w (.slice (some a2) E c2) E k2 s2 b2)(a8:h <= 1000000000)(a9:E <= 1000000000):
  Calls Tryz.prog 34 #[.slice (some ⟨gX,0,none⟩) 2 2] w fun e w'=>∃v,e= .returned v /\ fZ w' v (h+E) (jn h k1 k2) (jn h s1 s2) (jn h U b2) /\ Below w.heap.size w w':=by
 obtain⟨iR,a6,ag,ah,ai⟩:=info_parts C8;obtain⟨u1,ae,aa,ac⟩:=h1.cells;obtain⟨u2,af,ab,ad⟩:=h2.cells;have HX:=lH hX;have H1:=lH (And.intro ae (And.intro aa ac));have H2:=lH (And.intro af (And.intro ab ad));have O:=lH (And.intro a8 a9);clear hX h1 h2 ae aa ac af ab ad a8 a9;go_enter Tryz.func34,Tryz.ntmps34;go_wp2_with fail
 go_loopw [3,11] (fun sv T wr=>∃q:Nat,q <= 2 /\ T= .int .i64 q /\ ((q=0 /\ sv= .int .i64 0) \/ (q=1 /\ sv= .int .i64 h) \/ (q=2 /\ sv= .int .i64 ((h+E:Nat):Int))) /\ Hid (Below w.heap.size w wr)) (fun _ T _=>2-(intOf T).toNat)
 case atStart=>exact⟨0,by decide,rfl, .inl ⟨rfl,rfl⟩,lH (Below.refl _ _)⟩
 case round=>
  obtain⟨q,hq,rfl,⟨rfl,rfl⟩ | ⟨rfl,rfl⟩ | ⟨rfl,rfl⟩,t⟩:=hrel
  ·have hm:=O.o;have kx:=cell_below t.o (HX.o.at_ 0 rfl);have Z:=eG kx;have a4:¬((h:Int)<0):=oM
   have a5:¬((h:Int)+ (E:Int)<0):=oM
   have aj:decide ((h:Int)<0)=false:=decide_eq_false a4;have ak:decide ((h:Int)+ (E:Int)<0)=false:=decide_eq_false a5;go_wp2_with fail
   go_roundw
   case rel=>exact⟨1,by decide,by go_num, .inr (.inl ⟨rfl,by go_num⟩),t⟩
   case measure=>exact mZ
  ·have hm:=O.o;have kx:=cell_below t.o (HX.o.at_ 1 rfl);have Z:=eG kx;have a4:¬((h:Int)<0):=oM
   have a5:¬((h:Int)+ (E:Int)<0):=oM
   have aj:decide ((h:Int)<0)=false:=decide_eq_false a4;have ak:decide ((h:Int)+ (E:Int)<0)=false:=decide_eq_false a5;go_wp2_with fail
   go_roundw
   case rel=>exact⟨2,by decide,by go_num, .inr (.inr ⟨rfl,by go_num⟩),t⟩
   case measure=>exact mZ
  ·go_wp2_with fail
   refine(M5 (h+E) _ (by have:=O.o;omega)).mono ?_;rintro e w2 ⟨v,rfl,F,a7,hb⟩;obtain⟨Av,cv,rfl,_,_⟩:=sP F;have M:=lH F;have G:Hid (∀g,(Value.slice Av 0 cv).ownBlock=some g -> w.heap.size <= g):=lH (fun g hg=>Nat.le_trans t.o.size (a7 g hg));replace t:=bT t hb;clear F a7 hb;go_wp2_with fail
   go_loopw [6,27] (fun sv T wr=>∃ (q n:Nat) (B:Option Addr) (d:Nat) (xs:List Value),q <= 2 /\ T= .int .i64 q /\ sv= .slice B n d /\ Hid ((q=0 /\ n=0 /\ xs= []) \/ (q=1 /\ h=n /\ xs=Lh u1 U h) \/ (q=2 /\ n=h+E /\ xs=Lh u1 U h++Lh u2 b2 E)) /\ Hid (wr.ownsRow 0 53 2 (.slice B n d) n xs) /\ Hid (∀g,(Value.slice B n d).ownBlock=some g -> w.heap.size <= g) /\ Hid (Below w.heap.size w wr)) (fun _ T _=>2-(intOf T).toNat)
   case atStart=>exact⟨0,0,Av,cv,[],by decide,rfl,rfl,lH (.inl ⟨rfl,rfl,rfl⟩),M,G,t⟩
   case round=>
    clear M G t;obtain⟨q,n,B,d,xs,hq,rfl,rfl,HC,M,G,t⟩:=hrel
    rcases HC.o with ⟨rfl,rfl,rfl⟩ | ⟨rfl,rfl,rfl⟩ | ⟨rfl,rfl,rfl⟩
    ·have kx:=cell_below t.o (HX.o.at_ 0 rfl);have Z:=eG kx;clear HC
     go_wp2_with (at_builtin;(refine wpList_plain rfl fun K hK=>lW _ (.tmp 31) (.tmp 32) 23 rfl 53 iR _ 2 40 Tryz.underlying23 a6 ag ah ai rfl dC (.slice B 0 d) (0) _ rfl M.o a1 h c1 (Lh u1 U h) rfl (Lr _ _ _) (fun j y hj=>H1.o.1 _ t.o j y hj) H1.o.2.1 (by have:=O.o;unfold maxLen;omega) (by have:=O.o;omega) ?_))
     intro va w3 F R;obtain⟨B2,d2,rfl,_,_⟩:=sP F;have X:=R.below (B:=w.heap.size) t.o.size G.o;have Y:=R.base t.o.size G.o;replace t:=lH (t.o.trans X);have a3:=lH F;have a0:=lH Y;clear X Y F R M G kx Z;refine hK _ _ ?_;go_wp2_with fail
     go_roundw
     case rel=>exact⟨1,h,B2,d2,_,by decide,by go_num,rfl,lH (.inr (.inl ⟨rfl,rfl,rfl⟩)),a3,a0,t⟩
     case measure=>exact mZ
    ·have kx:=cell_below t.o (HX.o.at_ 1 rfl);have Z:=eG kx;clear HC
     go_wp2_with (at_builtin;(refine wpList_plain rfl fun K hK=>lW _ (.tmp 31) (.tmp 32) 23 rfl 53 iR _ 2 40 Tryz.underlying23 a6 ag ah ai rfl dC (.slice B h d) (h) _ rfl M.o a2 E c2 (Lh u2 b2 E) rfl (Lr _ _ _) (fun j y hj=>H2.o.1 _ t.o j y hj) H2.o.2.1 (by have:=O.o;unfold maxLen;omega) (by have:=O.o;omega) ?_))
     intro va w3 F R;obtain⟨B2,d2,rfl,_,_⟩:=sP F;have X:=R.below (B:=w.heap.size) t.o.size G.o;have Y:=R.base t.o.size G.o;replace t:=lH (t.o.trans X);have a3:=lH F;have a0:=lH Y;clear X Y F R M G kx Z;refine hK _ _ ?_;go_wp2_with fail
     go_roundw
     case rel=>exact⟨2,h+E,B2,d2,_,by decide,by go_num,rfl,lH (.inr (.inr ⟨rfl,rfl,rfl⟩)),a3,a0,t⟩
     case measure=>exact mZ
    ·clear HC;go_wp2_with fail
     go_returns;exact⟨_,rfl,M4 M.o H1.o.2.2 H2.o.2.2 t.o,t.o⟩
end Go.Proofs.YtdefghfjhgmpfaaGreatDoor
