/- Parts of this proof: Any RunM SolveM TextsM KnownLM. -/
import Derived.Test.YtdefghfjhgmpfaaGreatDoorQBC
import Derived.Test.YtdefghfjhgmpfaaGreatDoorQBB
import Derived.Test.YtdefghfjhgmpfaaGreatDoorQBD
import Derived.Test.YtdefghfjhgmpfaaGreatDoorQBF
import Derived.Test.YtdefghfjhgmpfaaGreatDoorQBH
import Derived.Test.YtdefghfjhgmpfaaGreatDoorQAX
namespace Go.Proofs.YtdefghfjhgmpfaaGreatDoor
section
open Go.RowKit
open Lp (RL upd Dict sumTo spread)
section
variable {m n:Nat} {D:Dict} {row col out:Int}
theorem wrong_none(h:WrongR n m D row col)(hr:row<0)(_hc:col<0):D.Fine m n (n+m):=by
 obtain⟨least,h⟩:=h
 rcases h with ⟨h1,h2,h3,h4⟩ | ⟨y,h1,h2,_⟩
 ·rcases h2 with ⟨_,h2⟩ | ⟨x,h2,_⟩
  ·refine⟨fun r hr2 hn _=>h2 r hr2 hn,fun c hc' hn _=>h4 c hc' hn fun l hl=> ?_⟩
   rcases h3 with ⟨_,h3⟩ | ⟨x,h3,_⟩ <;> omega
  ·omega
 ·omega
theorem wrong_row(h:WrongR n m D row col)(hr:0 <= row):∃x:Nat,row=(x:Nat) /\ x<m /\ n <= D.basic x /\ D.con x<0 /\ D.Fine m n (D.basic x):=by
 obtain⟨least,h⟩:=h
 rcases h with ⟨h1,h2,h3,h4⟩ | ⟨y,h1,_⟩
 ·rcases h2 with ⟨h2,_⟩ | ⟨x,h2,hx,hb,hneg,hl⟩
  ·omega
  ·refine⟨x,h2,hx,hb,hneg,fun r hr' hn hlt=>hl r hr' hn hlt,fun c hc' hn hlt=>h4 c hc' hn fun l hl'=> ?_⟩
   rcases h3 with ⟨h3,_⟩ | ⟨x',h3,h5⟩
   ·omega
   ·obtain rfl:x=x':=by omega
    omega
 ·omega
theorem wrong_col(h:WrongR n m D row col)(_:row<0)(hc:0 <= col):∃y:Nat,col=(y:Nat) /\ y<n /\ n <= D.off y /\ D.top y<0 /\ D.Fine m n (D.off y):=by
 obtain⟨least,h⟩:=h
 rcases h with ⟨h1,_⟩ | ⟨y,h1,h2,_,h3,h4,h5,h6,h7⟩
 ·omega
 ·exact⟨y,h2,h3,h4,h5,fun r hr' hn hlt=>h7 r hr' hn hlt,fun c hc' hn hlt=>h6 c hc' hn hlt⟩
theorem enter_none(h:enteringN n n D.off (D.cell m) out)(ho:out<0):∀c,c<n -> n <= D.off c -> 0 <= D.cell m c:=by
 rcases h with ⟨_,h⟩ | ⟨x,h,_⟩
 ·exact h
 ·omega
theorem enter_row{i:Nat}(h:enteringN n n D.off (D.cell i) out)(ho:0 <= out)(hi:i<m)(hb:n <= D.basic i)(hc:D.con i<0)(hf:D.Fine m n (D.basic i)):∃j:Nat,out=(j:Nat) /\ D.Choice m n i j:=by
 rcases h with ⟨h,_⟩ | ⟨x,h,hx,h1,h2,h3⟩
 ·omega
 ·exact⟨x,h, .row hi hx hb hc hf h1 h2 h3⟩
theorem leave_none{j:Nat}(h:leavingN n m D.basic (fun r=>D.cell r j) out)(ho:out<0):∀r,r<m -> n <= D.basic r -> D.cell r j <= 0:=by
 rcases h with ⟨_,h⟩ | ⟨x,h,_⟩
 ·exact h
 ·omega
theorem leave_col{j:Nat}(h:leavingN n m D.basic (fun r=>D.cell r j) out)(ho:0 <= out)(hj:j<n)(hb:n <= D.off j)(hc:D.top j<0)(hf:D.Fine m n (D.off j)):∃i:Nat,out=(i:Nat) /\ D.Choice m n i j:=by
 rcases h with ⟨h,_⟩ | ⟨x,h,hx,h1,h2,h3⟩
 ·omega
 ·exact⟨x,h, .col hx hj hb hc hf h1 h2 h3⟩
end
def dualTo(n:Nat)(o:Nat -> Nat)(f b:Nat -> Rat)(k i:Nat):Rat:=b i+sumTo k (fun c=>if o c=n+i then f c else 0)
theorem dual_start(n:Nat)(o:Nat -> Nat)(f b:Nat -> Rat)(i:Nat):b i=dualTo n o f b 0 i:=by
 show _=b i+0;grind
theorem dual_skip{n k:Nat}{o:Nat -> Nat}(f b:Nat -> Rat)(h:o k<n)(i:Nat):dualTo n o f b k i=dualTo n o f b (k+1) i:=by
 show b i+sumTo k _=b i+ (sumTo k _+ (if o k=n+i then f k else 0));rw[if_neg (by omega)];grind
theorem dual_set{m n k:Nat}{D:Dict}(hD:D.Ok m n)(f b:Nat -> Rat)(hk:k<n)(h:n <= D.off k)(hb:b (D.off k-n)=0)(i:Nat):upd (dualTo n D.off f b k) (D.off k-n) (f k) i=dualTo n D.off f b (k+1) i:=by
 show _=b i+ (sumTo k _+ (if D.off k=n+i then f k else 0));by_cases e:i=D.off k-n
 ·subst e;rw[Lp.upd_same,if_pos (by omega),hb,Lp.sumTo_zero fun c hc=>if_neg fun e=>by have:=hD.oi c k (by omega) hk (by omega);omega];grind
 ·rw[Lp.upd_other _ _ e,if_neg (by omega)];show b i+sumTo k _=_;grind
inductive RunEnd (w':World) (L:Lay) (m n:Nat) (D:Dict) (e:Ending):Prop
 | opt (s A l c t B d f P cp Y cy):e= .returned (.tuple #[.agg #[.int .i64 1, .bool s, .slice A l c, .bool t, .slice B d f, .slice P n cp, .slice Y m cy, .slice none 0 0], .int .i64 (-1)]) ->
   IsRat w' (.agg #[.bool s, .slice A l c, .bool t, .slice B d f]) D.val -> IsRats w' (.slice P n cp) n (spread m D.basic D.con) -> IsRats w' (.slice Y m cy) m (fun i=>spread n D.off D.top (n+i)) -> D.Fine m n (n+m) -> RunEnd w' L m n D e
 | inf (i:Nat) (Y cy):e= .returned (.tuple #[.agg #[.int .i64 2, .bool false, .slice none 0 0, .bool false, .slice none 0 0, .slice none 0 0, .slice Y m cy, .slice none 0 0], .int .i64 (-1)]) ->
   IsRats w' (.slice Y m cy) m (fun k=>(if D.basic i=n+k then 1 else 0)+spread n D.off (D.cell i) (n+k)) -> i<m -> n <= D.basic i -> D.con i<0 -> (∀c,c<n -> n <= D.off c -> 0 <= D.cell i c) -> RunEnd w' L m n D e
 | unb (j:Nat):e= .returned (.tuple #[.agg #[.int .i64 3, .bool false, .slice none 0 0, .bool false, .slice none 0 0, .slice none 0 0, .slice none 0 0, .slice none 0 0], .int .i64 (j:Nat)]) ->
   j<n -> n <= D.off j -> D.top j<0 -> (∀r,r<m -> n <= D.basic r -> D.cell r j <= 0) -> RunEnd w' L m n D e
end
section
open Go.RowKit
open Lp (RL upd Dict sumTo spread dotN)
def RLs(K n:Nat)(f:Nat -> Rat):Prop:=∀j,j<n -> RL K (f j)
theorem RLs.mono{K K' n:Nat}{f:Nat -> Rat}(h:RLs K n f)(hK:K <= K'):RLs K' n f:=fun j hj=>(h j hj).mono hK
theorem spread_rl{K n:Nat}{o:Nat -> Nat}{a:Nat -> Rat}(hi:∀c d,c<n -> d<n -> o c=o d -> c=d)(h:∀c,c<n -> RL K (a c))(hK:0<K)(k:Nat):RL K (spread n o a k):=by
 by_cases e:∃c,c<n /\ o c=k
 ·obtain⟨c,hc,rfl⟩:=e;rw[Lp.spread_at hi a hc];exact h c hc
 ·rw[Lp.spread_none a fun c hc e'=>e ⟨c,hc,e'⟩];exact RL.zero.mono hK
inductive OutR (w:World) (m n K:Nat) (A:Nat -> Nat -> Rat) (b c:Nat -> Rat) (v:Value):Prop
 | opt (s A' l c' t B d f P cp Y cy q x y):v= .agg #[.int .i64 1, .bool s, .slice A' l c', .bool t, .slice B d f, .slice P n cp, .slice Y m cy, .slice none 0 0] ->
   IsRat w (.agg #[.bool s, .slice A' l c', .bool t, .slice B d f]) q -> IsRats w (.slice P n cp) n x -> IsRats w (.slice Y m cy) m y -> RL K q -> RLs K n x -> RLs K m y -> Lp.Opt m n A b c q x y -> OutR w m n K A b c v
 | inf (Y cy y):v= .agg #[.int .i64 2, .bool false, .slice none 0 0, .bool false, .slice none 0 0, .slice none 0 0, .slice Y m cy, .slice none 0 0] ->
   IsRats w (.slice Y m cy) m y -> RLs K m y -> Lp.Inf m n A b y -> OutR w m n K A b c v
 | unb (P cp R cr x d):v= .agg #[.int .i64 3, .bool false, .slice none 0 0, .bool false, .slice none 0 0, .slice P n cp, .slice none 0 0, .slice R n cr] ->
   IsRats w (.slice P n cp) n x -> IsRats w (.slice R n cr) n d -> RLs K n x -> RLs K n d -> Lp.Unb m n A b c x d -> OutR w m n K A b c v
theorem OutR.below{w w':World}{m n K:Nat}{A:Nat -> Nat -> Rat}{b c:Nat -> Rat}{v:Value}(h:OutR w m n K A b c v)(hb:Below w.heap.size w w'):OutR w' m n K A b c v:=by
 cases h with
 | opt s A' l c' t B d f P cp Y cy q x y h1 h2 h3 h4 h5 h6 h7 h8=>exact .opt s A' l c' t B d f P cp Y cy q x y h1 (h2.below hb) (h3.below hb) (h4.below hb) h5 h6 h7 h8
 | inf Y cy y h1 h2 h3 h4=>exact .inf Y cy y h1 (h2.below hb) h3 h4
 | unb P cp R cr x d h1 h2 h3 h4 h5 h6=>exact .unb P cp R cr x d h1 (h2.below hb) (h3.below hb) h4 h5 h6
section
variable {w:World} {m n K j i:Nat} {A:Nat -> Nat -> Rat} {b c x:Nat -> Rat} {D:Dict}
theorem lim_val(hl:D.Lim m n K):RL (K+1) D.val:=hl.val.mono (by omega)
theorem lim_point(hD:D.Ok m n)(hl:D.Lim m n K):RLs (K+1) n (spread m D.basic D.con):=fun k _=>spread_rl hD.bi (fun r hr=>(hl.con r hr).mono (by omega)) (by omega) k
theorem lim_duals(hD:D.Ok m n)(hl:D.Lim m n K):RLs (K+1) m (fun i=>spread n D.off D.top (n+i)):=fun k _=>spread_rl hD.oi (fun r hr=>(hl.top r hr).mono (by omega)) (by omega) (n+k)
theorem lim_inf(hD:D.Ok m n)(hl:D.Lim m n K)(hi:i<m):RLs (K+1) m (fun k=>(if D.basic i=n+k then 1 else 0)+spread n D.off (D.cell i) (n+k)):=fun k _=>by
 show RL (K+1) ((if D.basic i=n+k then 1 else 0)+spread n D.off (D.cell i) (n+k));by_cases e:D.basic i=n+k
 ·rw[if_pos e,Lp.spread_none _ fun c hc e'=>hD.ne i c hi hc (e.trans e'.symm)];rw[show(1:Rat)+0=1 by grind];exact RL.one.mono (by omega)
 ·rw[if_neg e,show(0:Rat)+spread n D.off (D.cell i) (n+k)=spread n D.off (D.cell i) (n+k) by grind];exact spread_rl hD.oi (fun r hr=>(hl.cell i r hi hr).mono (by omega)) (by omega) _
theorem lim_ray{s:Rat}(hD:D.Ok m n)(hl:D.Lim m n K)(hj:j<n)(hs:RL 1 s):RLs (K+1) n (rayTo D j s m):=fun k _=>by
 show RL (K+1) ((if D.off j=k then s else 0)+spread m D.basic (fun r=> -(s*D.cell r j)) k);by_cases e:D.off j=k
 ·rw[if_pos e,Lp.spread_none _ fun r hr e'=>hD.ne r j hr hj (e'.trans e.symm)];rw[show s+0=s by grind];exact hs.mono (by omega)
 ·rw[if_neg e,show(0:Rat)+spread m D.basic (fun r=> -(s*D.cell r j)) k=spread m D.basic (fun r=> -(s*D.cell r j)) k by grind];exact spread_rl hD.bi (fun r hr=>((hs.mul (hl.cell r j hr hj)).neg).mono (by omega)) (by omega) _
theorem top_zero(hD:D.Ok m n)(hs:∀x g f,D.Sol m n x g f↔(Dict.init n A b (fun _=>0)).Sol m n x g f)(hj:j<n):D.top j=0:=by
 obtain⟨y,hy,_,_⟩:=D.exists_sol hD (fun c=>if c=j then 1 else 0) 0;have h1:=(Dict.init_sol.1 ((hs _ _ _).1 hy)).2;have h2:dotN n (fun _=>0) y=0:=Lp.sumTo_zero fun k _=>by grind
 rw[h2,Lp.sumTo_one hj (fun c _ hc=>by rw[if_neg hc];grind),if_pos rfl] at h1;grind
theorem sgn_ray{q:Rat}(hq:q≠0):0< -((((-(sgI q.num):Int)):Rat)*q):=by
 by_cases h:q<0
 ·have e:sgI q.num= -1:=by unfold sgI;rw[if_pos (num_neg.2 h)]
  rw[e];simp;grind
 ·have h':0<q:=by grind
  have e:sgI q.num=1:=by
   have:=num_pos.2 h';unfold sgI;rw[if_neg (by omega),if_neg (by omega)]
  rw[e];simp;grind
theorem sgn_rl{q:Rat}(hq:q≠0):RL 1 (((-(sgI q.num):Int)):Rat):=by
 have h:sgI q.num= -1 \/ sgI q.num=1:=by
  have h0:q.num≠0:=fun e=>hq (Rat.num_eq_zero.1 e)
  unfold sgI;by_cases h1:q.num<0
  ·rw[if_pos h1];exact .inl rfl
  ·rw[if_neg h1,if_neg h0];exact .inr rfl
 rcases h with e | e <;> rw[e] <;> (unfold RL;decide)
theorem ray_free(hD:D.Ok m n)(hs:∀x g f,D.Sol m n x g f↔(Dict.init n A b c).Sol m n x g f)(hz:D.Zed m n)(hj:j<n)(ho:D.off j<n)(ht:D.top j≠0)(hx:Lp.HoldsN m n A b x):
  Lp.Unb m n A b c x (rayTo D j (((-(sgI (D.top j).num):Int)):Rat) m):=by
 have h:=Lp.ray_of hD hs hj (((-(sgI (D.top j).num):Int)):Rat) (fun h=>absurd h (by omega)) (fun r hr hb=>by rw[hz r j hr hj hb ho];grind) (sgn_ray ht);exact⟨hx,h.1,h.2⟩
theorem ray_slack(hD:D.Ok m n)(hs:∀x g f,D.Sol m n x g f↔(Dict.init n A b c).Sol m n x g f)(hj:j<n)(ht:D.top j<0)(hr:∀r,r<m -> n <= D.basic r -> D.cell r j <= 0)(hx:Lp.HoldsN m n A b x):
  Lp.Unb m n A b c x (rayTo D j 1 m):=by
 have h:=Lp.ray_of hD hs hj 1 (fun _=>by decide) (fun r hr' hb=>by have:=hr r hr' hb;grind) (by grind);exact⟨hx,h.1,h.2⟩
end
end
section
open Go.RowKit
open Lp (RL upd Dict)
inductive OutT (w:World) (m n K:Nat) (A:Nat -> Nat -> Rat) (b c:Nat -> Rat) (v:Value):Prop
 | opt (P cp Y cy q x y):v= .agg #[.int .i64 1, .string (qtxt q), .slice P n cp, .slice Y m cy, .slice none 0 0] -> TSA w (.slice P n cp) n (fun j=>qtxt (x j)) -> TSA w (.slice Y m cy) m (fun j=>qtxt (y j)) -> RL K q /\ RLs K n x /\ RLs K m y -> Lp.Opt m n A b c q x y -> OutT w m n K A b c v
 | inf (Y cy y):v= .agg #[.int .i64 2, .string ⟨#[]⟩, .slice none 0 0, .slice Y m cy, .slice none 0 0] -> TSA w (.slice Y m cy) m (fun j=>qtxt (y j)) -> RLs K m y -> Lp.Inf m n A b y -> OutT w m n K A b c v
 | unb (P cp R cr x d):v= .agg #[.int .i64 3, .string ⟨#[]⟩, .slice P n cp, .slice none 0 0, .slice R n cr] -> TSA w (.slice P n cp) n (fun j=>qtxt (x j)) -> TSA w (.slice R n cr) n (fun j=>qtxt (d j)) -> RLs K n x /\ RLs K n d -> Lp.Unb m n A b c x d -> OutT w m n K A b c v
theorem OutT.below{w w':World}{m n K:Nat}{A:Nat -> Nat -> Rat}{b c:Nat -> Rat}{v:Value}(h:OutT w m n K A b c v)(hb:Below w.heap.size w w'):OutT w' m n K A b c v:=by
 cases h with
 | opt P cp Y cy q x y h1 h2 h3 hl h4=>exact .opt P cp Y cy q x y h1 (h2.below hb) (h3.below hb) hl h4
 | inf Y cy y h1 h2 hl h3=>exact .inf Y cy y h1 (h2.below hb) hl h3
 | unb P cp R cr x d h1 h2 h3 hl h4=>exact .unb P cp R cr x d h1 (h2.below hb) (h3.below hb) hl h4
theorem Row.put5{w:World}{g:Nat}{e:TypeId}{a0 a1 a2 a3 a4 v0 v1 v2 v3 v4:Value}(h:Row w g e [a0,a1,a2,a3,a4]):
  Row (((((w.setCell ⟨g,0,none⟩ v0).setCell ⟨g,1,none⟩ v1).setCell ⟨g,2,none⟩ v2).setCell ⟨g,3,none⟩ v3).setCell ⟨g,4,none⟩ v4) g e [v0,v1,v2,v3,v4]:=((((h.set 0 v0).set 1 v1).set 2 v2).set 3 v3).set 4 v4
theorem grownBy_set5(w:World)(g:Nat)(v0 v1 v2 v3 v4:Value):
  w.grownBy (((((w.setCell ⟨g,0,none⟩ v0).setCell ⟨g,1,none⟩ v1).setCell ⟨g,2,none⟩ v2).setCell ⟨g,3,none⟩ v3).setCell ⟨g,4,none⟩ v4) (some g):=
 grownBy_trans (grownBy_trans (grownBy_trans (grownBy_trans (grownBy_set _ _ _ _) (grownBy_set _ _ _ _)) (grownBy_set _ _ _ _)) (grownBy_set _ _ _ _)) (grownBy_set _ _ _ _)
theorem SK.otherT{w w':World}{g g' n:Nat}{e:TypeId}{cs:List Value}{s:Nat -> ByteArray}(h:SK w g n s)(hg:w.grownBy w' (some g'))(hr:Row w g' e cs)(he:e≠30):SK w' g n s:=by
 obtain⟨_,hs⟩:=h.row;exact h.other hg (ne_ty hs hr (fun e'=>he e'.symm))
end
section
open Go.RowKit
open Lp (RL upd Dict dotN sumTo)
theorem itoa_len(a:Int):(Lib.decDigits a.natAbs).length <= (Lib.itoa a).length:=by
 by_cases h:a<0
 ·rw[itoa_neg h];simp
 ·rw[itoa_nonneg' h];exact Nat.le_refl _
theorem ten_dec(n:Nat):n<10^ (Lib.decDigits n).length:=by have h:=dv_lt (dec_isDg n);rw[dv_dec] at h;exact h
theorem rl_text{q:Rat}{K:Nat}(h:(qtxtL q).length <= K):RL K q:=by
 have h1:=itoa_len q.num;have up:∀n k,(Lib.decDigits n).length <= k -> n<10^k:=fun n k hk=>Nat.lt_of_lt_of_le (ten_dec n) (Nat.pow_le_pow_right (by decide) hk)
 by_cases e:q.den=1
 ·have h2:qtxtL q=Lib.itoa q.num:=by unfold qtxtL;rw[if_pos e]
  rw[h2] at h;refine⟨up _ _ (by omega),?_⟩;rw[e];have:=dec_pos q.num.natAbs;exact Nat.lt_of_lt_of_le (show 1<10^1 by decide) (Nat.pow_le_pow_right (by decide) (by omega))
 ·rw[qtxtL_frac e,List.length_append,List.length_cons] at h;exact⟨up _ _ (by omega),up _ _ (by omega)⟩
theorem size_list(s:ByteArray):s.size=s.data.toList.length:=by rw[Array.length_toList];rfl
theorem rl_size{q:Rat}{K:Nat}{s:ByteArray}(h:s.data.toList=qtxtL q)(hs:s.size <= K):RL K q:=rl_text (by rw[<- h, <- size_list];exact hs)
theorem qtxt_ne(q:Rat):qtxt q≠⟨#[]⟩:=fun h=>by
 have h1:=rchk_qtxt q;rw[<- qtxt_list,h] at h1
 revert h1
 decide+kernel
theorem progE_ok{n m:Nat}{k:Nat -> Nat}{o:Nat -> ByteArray}{t:Nat -> Nat -> ByteArray}{b:Nat -> ByteArray}(h:progE n m k o t b=0):
  n <= 96 /\ m <= 256 /\ (∀i,i<m -> k i=n) /\ (∀j,j<n -> sE (o j)=0) /\ ∀i,i<m -> rowE n (t i) (b i)=0:=by
 unfold progE at h;split at h
 ·cases h
 ·split at h
  ·cases h
  ·rename_i h1 h2;split at h
   ·rename_i h3;exact absurd h h3
   ·rename_i h3;exact⟨by omega,by omega,by simpa using h2,firstE_zero.1 (by simpa using h3),firstE_zero.1 h⟩
theorem progIs_rl{n m K:Nat}{k:Nat -> Nat}{o:Nat -> ByteArray}{t:Nat -> Nat -> ByteArray}{b:Nat -> ByteArray}{A:Nat -> Nat -> Rat}{bq c:Nat -> Rat}(h0:progE n m k o t b=0)(h:ProgIs n m o t b A bq c)
  (ho:∀j,j<n -> (o j).size <= K) (ht:∀i,i<m -> ∀j,j<k i -> (t i j).size <= K) (hb:∀i,i<m -> (b i).size <= K):
  (∀j,j<n -> RL K (c j)) /\ (∀i,i<m -> ∀j,j<n -> RL K (A i j)) /\ ∀i,i<m -> RL K (bq i):=by
 obtain⟨_,_,hk,_,_⟩:=progE_ok h0;exact⟨fun j hj=>rl_size (h.obj j hj) (ho j hj),fun i hi j hj=>rl_size (h.rows i hi j hj) (ht i hi j (by rw[hk i hi];exact hj)),fun i hi=>rl_size (h.bounds i hi) (hb i hi)⟩
theorem TS.other{w w':World}{v:Value}{n:Nat}{s:Nat -> ByteArray}{g:Nat}{e:TypeId}{cs:List Value}(h:TS w v n s)(hg:w.grownBy w' (some g))(hr:Row w g e cs)(hno:∀j,j<n -> Value.string (s j) ∉ cs):TS w' v n s:=by
 obtain⟨A,c,hv,h1,h2,h3⟩:=h;refine⟨A,c,hv,h1,h2,?_⟩
 rcases h3 with h3 | ⟨b,o,hA,hc⟩
 ·exact .inl h3
 ·refine .inr ⟨b,o,hA,fun j hj=>cell_other hg ?_ (hc j hj)⟩;rintro rfl;have h4:=hc j hj;rw[hr.cell] at h4;exact hno j hj (List.mem_of_getElem? h4)
theorem TSA.other{w w':World}{v:Value}{n:Nat}{s:Nat -> ByteArray}{g:Nat}{e:TypeId}{cs:List Value}(h:TSA w v n s)(hg:w.grownBy w' (some g))(hr:Row w g e cs)(hno:∀j,j<n -> Value.string (s j) ∉ cs):TSA w' v n s:=⟨h.1.other hg hr hno,h.2⟩
theorem OutT.other{w w':World}{m n K:Nat}{A:Nat -> Nat -> Rat}{b c:Nat -> Rat}{v:Value}{g:Nat}{e:TypeId}{cs:List Value}(h:OutT w m n K A b c v)(hg:w.grownBy w' (some g))(hr:Row w g e cs)(hno:∀z,Value.string z ∈ cs -> z=⟨#[]⟩):OutT w' m n K A b c v:=by
 have k:∀ (n':Nat) (x:Nat -> Rat),∀j,j<n' -> Value.string (qtxt (x j)) ∉ cs:=fun _ x j _ hm=>qtxt_ne (x j) (hno _ hm)
 cases h with
 | opt P cp Y cy q x y h1 h2 h3 hl h4=>exact .opt P cp Y cy q x y h1 (h2.other hg hr (k n x)) (h3.other hg hr (k m y)) hl h4
 | inf Y cy y h1 h2 hl h3=>exact .inf Y cy y h1 (h2.other hg hr (k m y)) hl h3
 | unb P cp R cr x d h1 h2 h3 hl h4=>exact .unb P cp R cr x d h1 (h2.other hg hr (k n x)) (h3.other hg hr (k n d)) hl h4
theorem OutT.shape{w:World}{m n K:Nat}{A:Nat -> Nat -> Rat}{b c:Nat -> Rat}{v:Value}(h:OutT w m n K A b c v):∃ (kk:Int) (s:ByteArray) (A0:Option Addr) (n0 c0:Nat) (A1:Option Addr) (n1 c1:Nat) (A2:Option Addr) (n2 c2:Nat),v= .agg #[.int .i64 kk, .string s, .slice A0 n0 c0, .slice A1 n1 c1, .slice A2 n2 c2]:=by
 cases h with
 | opt P cp Y cy q x y h1=>exact⟨_,_,_,_,_,_,_,_,_,_,_,h1⟩
 | inf Y cy y h1=>exact⟨_,_,_,_,_,_,_,_,_,_,_,h1⟩
 | unb P cp R cr x d h1=>exact⟨_,_,_,_,_,_,_,_,_,_,_,h1⟩
def SolveR(w':World)(n m Kq:Nat)(k:Nat -> Nat)(o:Nat -> ByteArray)(t:Nat -> Nat -> ByteArray)(b:Nat -> ByteArray)(e:Ending):Prop:=
 (progE n m k o t b≠0 /\ e= .returned (.tuple #[.agg #[.int .i64 0, .string ⟨#[]⟩, .slice none 0 0, .slice none 0 0, .slice none 0 0], .int .i64 (progE n m k o t b:Nat)])) \/
 (progE n m k o t b=0 /\ ∃A bq c v,ProgIs n m o t b A bq c /\ OutT w' m n Kq A bq c v /\ e= .returned (.tuple #[v, .int .i64 0]))
def lst(l:List ByteArray)(j:Nat):ByteArray:=l.getD j ⟨#[]⟩
abbrev RowL:=List (List ByteArray × ByteArray)
def rwK(R:RowL)(i:Nat):Nat:=(R.getD i ([],⟨#[]⟩)).1.length
def rwT(R:RowL)(i j:Nat):ByteArray:=lst (R.getD i ([],⟨#[]⟩)).1 j
def rwB(R:RowL)(i:Nat):ByteArray:=(R.getD i ([],⟨#[]⟩)).2
theorem ts_row{w:World}{g:Nat}{e:TypeId}(l:List ByteArray)(h:Row w g e (l.map Value.string))(hl:l.length <= maxLen):TS w (.slice (some ⟨g,0,none⟩) l.length l.length) l.length (lst l):=by
 refine⟨_,_,rfl,Nat.le_refl _,hl, .inr ⟨g,0,rfl,fun j hj=> ?_⟩⟩;rw[Nat.zero_add];exact h.at_ j (by simp[lst,List.getD,hj])
theorem trows_row{w:World}{g m c:Nat}{e:TypeId}{cs:List Value}{k:Nat -> Nat}{t:Nat -> Nat -> ByteArray}{b:Nat -> ByteArray}(h:Row w g e cs)(hm:m <= c)(hc:c <= maxLen)
  (hr:∀i,i<m -> ∃u,cs[i*2]? =some u /\ cs[i*2+1]? =some (.string (b i)) /\ TS w u (k i) (t i)):TRows w (.slice (some ⟨g,0,none⟩) m c) m k t b:=by
 refine⟨_,_,rfl,hm,hc, .inr ⟨g,0,rfl,fun i hi=> ?_⟩⟩;obtain⟨u,h1,h2,h3⟩:=hr i hi;rw[Nat.zero_add];exact⟨u,h.at_ _ h1,h.at_ _ h2,h3⟩
theorem qtxt4:qtxt 4=⟨#[52]⟩:=by kernel_rfl
theorem qtxt5:qtxt 5=⟨#[53]⟩:=by kernel_rfl
theorem byt{l:List UInt8}{q v:Rat}(h:l=qtxtL q)(hv:qtxtL v=l):q=v:=qtxtL_inj (h.symm.trans hv.symm)
section
variable {w:World} {K:Nat} {A:Nat -> Nat -> Rat} {b c:Nat -> Rat} {v:Value}
theorem ex1(hA:A 0 0=1 /\ A 0 1=0 /\ A 1 0=0 /\ A 1 1=1 /\ A 2 0=1 /\ A 2 1=1)(hb:b 0=2 /\ b 1=3 /\ b 2=4)(hc:c 0=1 /\ c 1=1)(h:OutT w 3 2 K A b c v):
  ∃P cp Y cy,v= .agg #[.int .i64 1, .string ⟨#[52]⟩, .slice P 2 cp, .slice Y 3 cy, .slice none 0 0]:=by
 obtain⟨a1,a2,a3,a4,a5,a6⟩:=hA;obtain⟨b1,b2,b3⟩:=hb;obtain⟨c1,c2⟩:=hc
 have hx:Lp.Opt 3 2 A b c 4 (fun _=>2) (fun i=>if i=2 then 1 else 0):=by
  refine⟨⟨fun i _=> ?_,fun k hk=> ?_⟩,?_,fun i hi=> ?_,?_⟩
  ·show(0:Rat) <= if i=2 then 1 else 0
   split <;> decide
  ·rcases k with _ | _ | k
   ·simp only[dotN,sumTo,a1,a3,a5,c1];grind
   ·simp only[dotN,sumTo,a2,a4,a6,c2];grind
   ·omega
  ·simp only[dotN,sumTo,b1,b2,b3];grind
  ·rcases i with _ | _ | _ | i
   ·simp only[dotN,sumTo,a1,a2,b1];grind
   ·simp only[dotN,sumTo,a3,a4,b2];grind
   ·simp only[dotN,sumTo,a5,a6,b3];grind
   ·omega
  ·simp only[dotN,sumTo,c1,c2];grind
 cases h with
 | opt P cp Y cy q x y h1 h2 h3 hl h4=>
  rw[h4.eq hx,qtxt4] at h1;exact⟨P,cp,Y,cy,h1⟩
 | inf Y cy y h1 h2 hl h3=>exact(h3.no hx.holds).elim
 | unb P cp R cr x d h1 h2 h3 hl h4=>exact(h4.no hx).elim
theorem ex2(hA:A 0 0=1 /\ A 0 1=0 /\ A 1 0=0 /\ A 1 1=1)(hb:b 0=2 /\ b 1=3)(hc:c 0=1 /\ c 1=1)(h:OutT w 2 2 K A b c v):
  ∃P cp Y cy,v= .agg #[.int .i64 1, .string ⟨#[53]⟩, .slice P 2 cp, .slice Y 2 cy, .slice none 0 0]:=by
 obtain⟨a1,a2,a3,a4⟩:=hA;obtain⟨b1,b2⟩:=hb;obtain⟨c1,c2⟩:=hc
 have hx:Lp.Opt 2 2 A b c 5 (fun k=>if k=0 then 2 else 3) (fun _=>1):=by
  refine⟨⟨fun i _=>by decide,fun k hk=> ?_⟩,?_,fun i hi=> ?_,?_⟩
  ·rcases k with _ | _ | k
   ·simp only[dotN,sumTo,a1,a3,c1];grind
   ·simp only[dotN,sumTo,a2,a4,c2];grind
   ·omega
  ·simp only[dotN,sumTo,b1,b2];grind
  ·rcases i with _ | _ | i
   ·simp only[dotN,sumTo,a1,a2,b1];grind
   ·simp only[dotN,sumTo,a3,a4,b2];grind
   ·omega
  ·simp only[dotN,sumTo,c1,c2];grind
 cases h with
 | opt P cp Y cy q x y h1 h2 h3 hl h4=>
  rw[h4.eq hx,qtxt5] at h1;exact⟨P,cp,Y,cy,h1⟩
 | inf Y cy y h1 h2 hl h3=>exact(h3.no hx.holds).elim
 | unb P cp R cr x d h1 h2 h3 hl h4=>exact(h4.no hx).elim
theorem ex3(hA:A 0 0=1 /\ A 1 0= -1)(hb:b 0=1 /\ b 1= -2)(h:OutT w 2 1 K A b c v):
  ∃Y cy,v= .agg #[.int .i64 2, .string ⟨#[]⟩, .slice none 0 0, .slice Y 2 cy, .slice none 0 0]:=by
 obtain⟨a1,a2⟩:=hA;obtain⟨b1,b2⟩:=hb
 have hx:Lp.Inf 2 1 A b (fun _=>1):=by
  refine⟨⟨fun i _=>by decide,fun k hk=> ?_⟩,?_⟩
  ·obtain rfl:k=0:=by omega
   simp only[dotN,sumTo,a1,a2];grind
  ·simp only[dotN,sumTo,b1,b2];grind
 cases h with
 | opt P cp Y cy q x y h1 h2 h3 hl h4=>exact(hx.no h4.holds).elim
 | inf Y cy y h1 h2 hl h3=>exact⟨Y,cy,h1⟩
 | unb P cp R cr x d h1 h2 h3 hl h4=>exact(hx.no h4.holds).elim
theorem ex4(hA:A 0 0= -1)(hb:b 0=0)(hc:c 0=1)(h:OutT w 1 1 K A b c v):
  ∃P cp R cr,v= .agg #[.int .i64 3, .string ⟨#[]⟩, .slice P 1 cp, .slice none 0 0, .slice R 1 cr]:=by
 have hx:Lp.Unb 1 1 A b c (fun _=>0) (fun _=>1):=by
  refine⟨fun i hi=> ?_,fun i hi=> ?_,?_⟩
  ·obtain rfl:i=0:=by omega
   simp only[dotN,sumTo,hb];grind
  ·obtain rfl:i=0:=by omega
   simp only[dotN,sumTo,hA];grind
  ·simp only[dotN,sumTo,hc];grind
 cases h with
 | opt P cp Y cy q x y h1 h2 h3 hl h4=>exact(hx.no h4).elim
 | inf Y cy y h1 h2 hl h3=>exact(h3.no hx.holds).elim
 | unb P cp R cr x d h1 h2 h3 hl h4=>exact⟨P,cp,R,cr,h1⟩
end
end
end Go.Proofs.YtdefghfjhgmpfaaGreatDoor
