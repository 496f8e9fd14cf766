/- Parts of this proof: App Strs. -/
import Derived.Test.YtdefghfjhgmpfaaGreatDoorQAR
import Derived.ArgAppend
import Derived.Test.YtdefghfjhgmpfaaGreatDoorQAE
namespace Go.Proofs.YtdefghfjhgmpfaaGreatDoor
section
open Go.RowKit
open Lp (RL upd Dict)
theorem own_mono{w:World}{base base':Nat}{e:TypeId}{size:Nat}{v:Value}{n:Nat}{xs:List Value}(h:w.ownsRow base e size v n xs)(hb:base' <= base):w.ownsRow base' e size v n xs:=by
 refine⟨h.1,?_⟩
 rcases h.2 with hn | ⟨g,cap,cur,h1,h2,h3⟩
 ·exact .inl hn
 ·exact .inr ⟨g,cap,cur,h1,Nat.le_trans hb h2,h3⟩
structure Turned (w w':World) (v v':Value):Prop where
 grown:w.grownBy w' v.ownBlock
 own:v'.ownBlock=v.ownBlock \/ ∃g,v'.ownBlock=some g /\ w.heap.size <= g
theorem grown_none{w w':World}(h:w.grownBy w' none)(r:Option Nat):w.grownBy w' r:=⟨h.os,h.tape,h.output,h.size,fun k hk _=>h.block k hk (by simp)⟩
theorem add0(g j:Nat):(⟨g,0,none⟩:Addr).add j=⟨g,j,none⟩:=by
 unfold Addr.add;by_cases h:j=0
 ·subst h;simp
 ·simp[h]
theorem run_app{P:Program}(w:World)(t ty:TypeId)(e:TypeId)(i:TypeInfo)(z:Value)(size bytes:Nat)(ht:P.underlying t=some (.slice e))(hi: P.info? e=some i)(hz:i.zero=some z)
  (hsize:i.size=size) (hby:i.bytes=bytes) (hzs:z.cells.size=size) (hsz:0<size)
  (v:Value) (n:Nat) (xs:List Value) (hown:w.ownsRow 0 e size v n xs)
  (ad:Addr) (m c:Nat) (news:List Value) (hl:news.length=m*size) (hnews:∀j u,news[j]? =some u -> w.cell? (ad.add j)=some u) (h1:∀u ∈ news,u.oneCell'=true)
  (h63:n+m <= maxLen) (hbytes:(n+m)*bytes <= 140737488355328):
  ∃v' w',(Builtin.append_ #[t,t] ty #[v, .slice (some ad) m c]).run P w= .ok v' w' /\ w'.ownsRow 0 e size v' (n+m) (xs++news) /\ Turned w w' v v':=by
 have hown':=hown
 rcases hown.2 with ⟨rfl,rfl⟩ | ⟨g,cap,cur,rfl,_,hg,h2,h3,h4,h5⟩
 ·obtain⟨v',w',hrun,ho',hgr,_⟩:=run_append_own (P:=P) w w.heap.size t ty e i z size bytes ht hi hz hsize hby hzs hsz (.slice none 0 0) 0 xs ⟨hown.1, .inl ⟨rfl,rfl⟩⟩ ad m c news hl hnews h1 h63 hbytes (Nat.le_refl _);refine⟨v',w',hrun,own_mono ho' (Nat.zero_le _),hgr,?_⟩
  rcases hb:v'.ownBlock with _ | g
  ·exact .inl rfl
  ·exact .inr ⟨g,rfl,(ho'.lt g hb).1⟩
 ·by_cases hc:n+m <= cap
  ·obtain⟨w',hrun,ho',hgr⟩:=run_append_fits (P:=P) w 0 t ty e i size ht hi hsize g n cap xs hown' ad m c news hl hnews h1 hc;exact⟨_,w',hrun,ho',hgr, .inl rfl⟩
  ·obtain⟨v',w',hrun,ho',hgr⟩:=run_append_arg_grows (P:=P) w t ty e i z size bytes ht hi hz hsize hby hzs hsz ⟨g,0,none⟩ n cap xs hown.1 (by
    intro j u hu;have hj:j<n*size:=by rw[<- hown.1];exact(List.getElem?_eq_some_iff.1 hu).1
    have:=World.ownsRow.cellAt hown' j hj
    rw[add0,this];exact hu) ad m c news hl hnews (by omega) h63 hbytes
   refine⟨v',w',hrun,own_mono ho' (Nat.zero_le _),grown_none hgr _,?_⟩
   rcases ho'.2 with ⟨_,h0⟩ | ⟨g',cap',cur',hv,hb,_⟩
   ·omega
   ·subst hv;exact .inr ⟨g',rfl,hb⟩
theorem wp_app{P:Program}(w:World){o:Oper}{a:Act}{K:Act -> World -> Prop}{Q:Exit -> Act -> World -> Prop}(s x:Operand)(t:TypeId)
  (ho:o.op= .call {callee:= .builtin .append,args:= #[s,x],argTypes:= #[t,t]})
  (e:TypeId) (i:TypeInfo) (z:Value) (size bytes:Nat) (ht:P.underlying t=some (.slice e)) (hi: P.info? e=some i) (hz:i.zero=some z)
  (hsize:i.size=size) (hby:i.bytes=bytes) (hzs:z.cells.size=size) (hsz:0<size)
  (v:Value) (n:Nat) (xs:List Value) (hs:a.eval s=v) (hown:w.ownsRow 0 e size v n xs)
  (ad:Addr) (m c:Nat) (news:List Value) (hx:a.eval x= .slice (some ad) m c) (hl:news.length=m*size) (hnews:∀j u,news[j]? =some u -> w.cell? (ad.add j)=some u) (h1:∀u ∈ news,u.oneCell'=true)
  (h63:n+m <= maxLen) (hbytes:(n+m)*bytes <= 140737488355328)
  (h:∀v' w',w'.ownsRow 0 e size v' (n+m) (xs++news) -> Turned w w' v v' -> K (a.put o.dst v') w'):Oper.wp P o a w K Q:=by
 obtain⟨v',w',hrun,h2,h3⟩:=run_app (P:=P) w t o.type e i z size bytes ht hi hz hsize hby hzs hsz v n xs hown ad m c news hl hnews h1 h63 hbytes;unfold Oper.wp;simp[execOp,ho,resolve,invoke,builtin,hs,hx,hrun,Result.andThen];exact h v' w' h2 h3
section
variable {w w':World} {v v':Value} {e:TypeId} {size n:Nat} {xs:List Value}
theorem own_row(h:w.ownsRow 0 e size v n xs){g:Nat}(hg:v.ownBlock=some g):∃cs,Row w g e cs:=by
 rcases h.2 with ⟨rfl,_⟩ | ⟨g',cap,cur,rfl,_,hh,_⟩
 ·simp[Value.ownBlock] at hg
 ·simp only[Value.ownBlock,Option.some.injEq] at hg;subst hg;exact⟨cur.toList,by unfold Row;simpa using hh⟩
theorem Turned.below(ht:Turned w w' v v'){B:Nat}(hB:B <= w.heap.size)(hv:∀g,v.ownBlock=some g -> B <= g):Below B w w':=
 ⟨ht.grown.os,ht.grown.tape,ht.grown.output,ht.grown.size,fun k hk=>ht.grown.block k (by omega) fun e=>by have:=hv k e.symm;omega⟩
theorem Turned.base(ht:Turned w w' v v'){B:Nat}(hB:B <= w.heap.size)(hv:∀g,v.ownBlock=some g -> B <= g):∀g,v'.ownBlock=some g -> B <= g:=by
 intro g hg
 rcases ht.own with h | ⟨g',h,hb⟩
 ·exact hv g (h ▸ hg)
 ·rw[hg] at h;simp only[Option.some.injEq] at h;omega
theorem Turned.apart(ht:Turned w w' v v'){k:Nat}(hk:k<w.heap.size)(hv:v.ownBlock≠some k):v'.ownBlock≠some k:=by
 rcases ht.own with h | ⟨g',h,hb⟩
 ·rw[h];exact hv
 ·rw[h];simp;omega
theorem IsRat.turned{u:Value}{q:Rat}(h:IsRat w u q)(ht:Turned w w' v v')(ho:w.ownsRow 0 e size v n xs)(he:e≠160):IsRat w' u q:=by
 rcases hb:v.ownBlock with _ | g
 ·exact h.below (ht.below (Nat.le_refl _) (by rw[hb];simp))
 ·obtain⟨cs,hr⟩:=own_row ho hb;have:=ht.grown;rw[hb] at this;exact h.other this hr he
theorem Row.turned{g:Nat}{e':TypeId}{cs:List Value}(h:Row w g e' cs)(ht:Turned w w' v v')(hne:v.ownBlock≠some g):Row w' g e' cs:=(ht.grown.block g h.lt (fun e=>hne e.symm)).trans h
theorem Quad.turned{b o:Nat}{x y z u:Value}(h:Quad w b o x y z u)(ht:Turned w w' v v')(hne:v.ownBlock≠some b):Quad w' b o x y z u:=
 ⟨ht.grown.cell h.1 (fun e=>hne e.symm),ht.grown.cell h.2.1 (fun e=>hne e.symm),ht.grown.cell h.2.2.1 (fun e=>hne e.symm),ht.grown.cell h.2.2.2 (fun e=>hne e.symm)⟩
theorem RB.turned{g k:Nat}{f:Nat -> Rat}(h:RB w g k f)(ht:Turned w w' v v')(ho:w.ownsRow 0 e size v n xs)(he:e≠160)(hne:v.ownBlock≠some g):RB w' g k f:=by
 obtain⟨cs,hr,hl,hc⟩:=h;refine⟨cs,hr.turned ht hne,hl,fun j hj=> ?_⟩;obtain⟨s,A,l,c,t,B,m,d,h1,h2,h3,h4,h5⟩:=hc j hj;exact⟨s,A,l,c,t,B,m,d,h1,h2,h3,h4,h5.turned ht ho he⟩
end
def OwnL(w:World)(v:Value)(e:TypeId)(k:Nat)(p:Nat -> Value -> Prop):Prop:=∃xs,w.ownsRow 0 e 1 v k xs /\ ∀j,j<k -> ∃u,xs[j]? =some u /\ p j u
def OwnQ(w:World)(v:Value)(k:Nat)(f:Nat -> Rat):Prop:=∃xs,w.ownsRow 0 105 4 v k xs /\ ∀j,j<k -> ∃s A l c t B m d,xs[j*4]? =some (.bool s) /\ xs[j*4+1]? =some (.slice A l c) /\ xs[j*4+2]? =some (.bool t) /\ xs[j*4+3]? =some (.slice B m d) /\
  IsRat w (.agg #[.bool s, .slice A l c, .bool t, .slice B m d]) (f j)
section
variable {w w':World} {v v' u u':Value} {e e':TypeId} {k k':Nat} {p p':Nat -> Value -> Prop} {f f':Nat -> Rat}
theorem OwnL.nil(w:World)(e:TypeId)(p:Nat -> Value -> Prop):OwnL w (.slice none 0 0) e 0 p:=⟨[],World.ownsRow_nil _ _ _ _,fun j hj=>absurd hj (by omega)⟩
theorem OwnQ.nil(w:World)(f:Nat -> Rat):OwnQ w (.slice none 0 0) 0 f:=⟨[],World.ownsRow_nil _ _ _ _,fun j hj=>absurd hj (by omega)⟩
theorem own_grown{size n:Nat}{xs:List Value}{r:Option Nat}(h:w.ownsRow 0 e size v n xs)(hg:w.grownBy w' r)(hne:∀g,v.ownBlock=some g -> r≠some g):w'.ownsRow 0 e size v n xs:=by
 refine h.kept hg ?_
 rcases hb:v.ownBlock with _ | g
 ·exact .inl rfl
 ·exact .inr (fun e=>hne g hb e.symm)
theorem OwnL.grown{r:Option Nat}(h:OwnL w v e k p)(hg:w.grownBy w' r)(hne:∀g,v.ownBlock=some g -> r≠some g):OwnL w' v e k p:=by
 obtain⟨xs,ho,hp⟩:=h;exact⟨xs,own_grown ho hg hne,hp⟩
theorem below_grown(h:Below w.heap.size w w'):w.grownBy w' none:=⟨h.os,h.tape,h.output,h.size,fun k hk _=>h.block k hk⟩
theorem OwnL.below(h:OwnL w v e k p)(hb:Below w.heap.size w w'):OwnL w' v e k p:=h.grown (below_grown hb) (by simp)
theorem OwnQ.below(h:OwnQ w v k f)(hb:Below w.heap.size w w'):OwnQ w' v k f:=by
 obtain⟨xs,ho,hp⟩:=h;refine⟨xs,own_grown ho (below_grown hb) (by simp),fun j hj=> ?_⟩;obtain⟨s,A,l,c,t,B,m,d,h1,h2,h3,h4,h5⟩:=hp j hj;exact⟨s,A,l,c,t,B,m,d,h1,h2,h3,h4,h5.below hb⟩
theorem OwnL.other{g:Nat}(h:OwnL w v e k p)(hg:w.grownBy w' (some g))(hne:v.ownBlock≠some g):OwnL w' v e k p:=h.grown hg (fun g' hb e=>hne (by rw[hb];exact e.symm))
theorem OwnQ.other{g:Nat}{cs:List Value}(h:OwnQ w v k f)(hg:w.grownBy w' (some g))(hr:Row w g e cs)(he:e≠160)(hne:v.ownBlock≠some g):OwnQ w' v k f:=by
 obtain⟨xs,ho,hp⟩:=h;refine⟨xs,own_grown ho hg (fun g' hb e=>hne (by rw[hb];exact e.symm)),fun j hj=> ?_⟩;obtain⟨s,A,l,c,t,B,m,d,h1,h2,h3,h4,h5⟩:=hp j hj;exact⟨s,A,l,c,t,B,m,d,h1,h2,h3,h4,h5.other hg hr he⟩
theorem OwnL.lt(h:OwnL w v e k p){g:Nat}(hg:v.ownBlock=some g):g<w.heap.size:=by obtain⟨xs,ho,_⟩:=h;exact(ho.lt g hg).2
theorem OwnQ.lt(h:OwnQ w v k f){g:Nat}(hg:v.ownBlock=some g):g<w.heap.size:=by obtain⟨xs,ho,_⟩:=h;exact(ho.lt g hg).2
theorem OwnL.row(h:OwnL w v e k p){g:Nat}(hg:v.ownBlock=some g):∃cs,Row w g e cs:=by obtain⟨xs,ho,_⟩:=h;exact own_row ho hg
theorem OwnQ.row(h:OwnQ w v k f){g:Nat}(hg:v.ownBlock=some g):∃cs,Row w g 105 cs:=by obtain⟨xs,ho,_⟩:=h;exact own_row ho hg
theorem own_apart(h:∀g,v.ownBlock=some g -> ∃cs,Row w g e cs)(h':∀g,u.ownBlock=some g -> ∃cs,Row w g e' cs)(he:e≠e'):∀g,v.ownBlock=some g -> u.ownBlock≠some g:=fun g hg hg'=>by
 obtain⟨_,h1⟩:=h g hg;obtain⟨_,h2⟩:=h' g hg';exact he (h1.ty h2)
theorem OwnL.turned(h:OwnL w v e k p)(ht:Turned w w' u u')(hne:∀g,v.ownBlock=some g -> u.ownBlock≠some g):OwnL w' v e k p:=h.grown ht.grown hne
theorem OwnQ.turned{size n:Nat}{xs:List Value}(h:OwnQ w v k f)(ht:Turned w w' u u')(hu:w.ownsRow 0 e size u n xs)(he:e≠160)(hne:∀g,v.ownBlock=some g -> u.ownBlock≠some g):OwnQ w' v k f:=by
 obtain⟨xs,ho,hp⟩:=h;refine⟨xs,own_grown ho ht.grown hne,fun j hj=> ?_⟩;obtain⟨s,A,l,c,t,B,m,d,h1,h2,h3,h4,h5⟩:=hp j hj;exact⟨s,A,l,c,t,B,m,d,h1,h2,h3,h4,h5.turned ht hu he⟩
theorem own_shape{size n:Nat}{xs:List Value}(h:w.ownsRow 0 e size v n xs):∃A c,v= .slice A n c /\ n <= c /\ c <= maxLen:=by
 rcases h.2 with ⟨rfl,rfl⟩ | ⟨g,cap,cur,rfl,_,_,h2,h3,_⟩
 ·exact⟨none,0,rfl,Nat.le_refl _,Nat.zero_le _⟩
 ·exact⟨_,_,rfl,h2,h3⟩
theorem OwnL.shape(h:OwnL w v e k p):∃A c,v= .slice A k c /\ k <= c /\ c <= maxLen:=by obtain⟨xs,ho,_⟩:=h;exact own_shape ho
theorem OwnQ.shape(h:OwnQ w v k f):∃A c,v= .slice A k c /\ k <= c /\ c <= maxLen:=by obtain⟨xs,ho,_⟩:=h;exact own_shape ho
theorem OwnL.done(h:OwnL w v e k p)(hk:0<k):∃g c cs,v= .slice (some ⟨g,0,none⟩) k c /\ Row w g e cs /\ k <= cs.length /\ ∀j,j<k -> ∃u,cs[j]? =some u /\ p j u:=by
 obtain⟨xs,ho,hp⟩:=h
 rcases ho.2 with ⟨_,h0⟩ | ⟨g,cap,cur,rfl,_,hg,h2,h3,hs,ht⟩
 ·omega
 ·refine⟨g,cap,cur.toList,rfl,by unfold Row;simpa using hg,by rw[Array.length_toList,hs];omega,fun j hj=> ?_⟩;obtain⟨u,h1,h2⟩:=hp j hj;refine⟨u,?_,h2⟩;rw[<- ht,List.getElem?_take,if_pos (by omega)] at h1;exact h1
theorem OwnQ.done(h:OwnQ w v k f)(hk:0<k):∃g c,v= .slice (some ⟨g,0,none⟩) k c /\ RB w g k f:=by
 obtain⟨xs,ho,hp⟩:=h
 rcases ho.2 with ⟨_,h0⟩ | ⟨g,cap,cur,rfl,_,hg,h2,h3,hs,ht⟩
 ·omega
 ·refine⟨g,cap,rfl,cur.toList,by unfold Row;simpa using hg,by rw[Array.length_toList,hs];omega,fun j hj=> ?_⟩;obtain⟨s,A,l,c,t,B,m,d,h1,h2,h3,h4,h5⟩:=hp j hj;rw[<- ht,List.getElem?_take,if_pos (by omega)] at h1 h2 h3 h4;exact⟨s,A,l,c,t,B,m,d,h1,h2,h3,h4,h5⟩
theorem OwnQ.rats(h:OwnQ w v k f):IsRats w v k f:=by
 obtain⟨A,c,hv,h1,h2⟩:=h.shape;refine⟨A,c,hv,h1,h2,?_⟩
 rcases Nat.eq_zero_or_pos k with h0 | h0
 ·exact .inl h0
 ·obtain⟨g,c',hv',hr⟩:=h.done h0;rw[hv] at hv';simp only[Value.slice.injEq,true_and] at hv';exact .inr ⟨g,hv'.1,hr⟩
end
theorem wp_appL{P:Program}(w:World){o:Oper}{a:Act}{K:Act -> World -> Prop}{Q:Exit -> Act -> World -> Prop}(s x:Operand)(t:TypeId)
  (ho:o.op= .call {callee:= .builtin .append,args:= #[s,x],argTypes:= #[t,t]})
  (e:TypeId) (i:TypeInfo) (z:Value) (bytes:Nat) (ht:P.underlying t=some (.slice e)) (hi: P.info? e=some i) (hz:i.zero=some z)
  (hsize:i.size=1) (hby:i.bytes=bytes) (hzs:z.cells.size=1)
  (v:Value) (k:Nat) (p:Nat -> Value -> Prop) (hs:a.eval s=v) (hown:OwnL w v e k p)
  (u:Value) (h1:u.oneCell'=true) (hp:p k u) (hx:a.eval x= .slice (some ⟨w.heap.size,0,none⟩) 1 1)
  (hlen:k+1 <= maxLen /\ (k+1)*bytes <= 140737488355328)
  (h:∀v' w',OwnL w' v' e (k+1) p -> Turned w w' v v' -> K (a.put o.dst v') w'):Oper.wp P o a (w.alloc (.cells #[u] e)) K Q:=by
 obtain⟨xs,hxs,hpp⟩:=hown;have hb:=below_new w (.cells #[u] e);have hr:Row (w.alloc (.cells #[u] e)) w.heap.size e [u]:=heap_new _ _;refine wp_app _ s x t ho e i z 1 bytes ht hi hz hsize hby hzs (by decide) v k xs hs (own_grown hxs (below_grown hb) (by simp)) ⟨w.heap.size,0,none⟩ 1 1 [u] hx rfl ?_ ?_ hlen.1 hlen.2 ?_
 ·intro j y hj
  rcases j with _ | j
  ·simp only[List.getElem?_cons_zero,Option.some.injEq] at hj;subst hj;exact hr.at_ 0 rfl
  ·simp at hj
 ·intro y hy;simp only[List.mem_singleton] at hy;subst hy;exact h1
 ·intro v' w' hown' htn;refine h v' w' ⟨_,hown',fun j hj=> ?_⟩ ⟨⟨htn.grown.os.trans hb.os,htn.grown.tape.trans hb.tape,htn.grown.output.trans hb.output,Nat.le_trans hb.size htn.grown.size,fun k hk hne=>(htn.grown.block k (Nat.lt_of_lt_of_le hk hb.size) hne).trans (hb.block k hk)⟩,?_⟩
  ·have hl:xs.length=k:=by have:=hxs.1;omega
   by_cases e:j=k
   ·subst e;exact⟨u,by rw[List.getElem?_append_right (by omega),hl];simp,hp⟩
   ·obtain⟨y,h2,h3⟩:=hpp j (by omega);exact⟨y,by rw[List.getElem?_append_left (by omega)];exact h2,h3⟩
  ·rcases htn.own with h2 | ⟨g,h2,h3⟩
   ·exact .inl h2
   ·exact .inr ⟨g,h2,Nat.le_trans hb.size h3⟩
theorem wp_appQ(w:World){o:Oper}{a:Act}{K:Act -> World -> Prop}{Q:Exit -> Act -> World -> Prop}(s x:Operand)
  (ho:o.op= .call {callee:= .builtin .append,args:= #[s,x],argTypes:= #[95,95]})
  (v:Value) (k:Nat) (f:Nat -> Rat) (hs:a.eval s=v) (hown:OwnQ w v k f)
  (s':Bool) (A:Option Addr) (l c:Nat) (t':Bool) (B:Option Addr) (m d:Nat) (hq:IsRat w (.agg #[.bool s', .slice A l c, .bool t', .slice B m d]) (f k)) (hx:a.eval x= .slice (some ⟨w.heap.size,0,none⟩) 1 1)
  (hlen:k <= 1000000000000)
  (h:∀v' w',OwnQ w' v' (k+1) f -> Turned w w' v v' -> K (a.put o.dst v') w'):Oper.wp Tryz.prog o a (w.alloc (.cells #[.bool s', .slice A l c, .bool t', .slice B m d] 105)) K Q:=by
 obtain⟨i,hi,hz0,hz1,hz2⟩:=info_parts infoR;obtain⟨xs,hxs,hpp⟩:=hown;obtain⟨u,hu⟩:∃u:List Value,u= [.bool s', .slice A l c, .bool t', .slice B m d]:=⟨_,rfl⟩
 have hb:=below_new w (.cells #[.bool s', .slice A l c, .bool t', .slice B m d] 105);have hr:Row (w.alloc (.cells #[.bool s', .slice A l c, .bool t', .slice B m d] 105)) w.heap.size 105 [.bool s', .slice A l c, .bool t', .slice B m d]:=heap_new _ _;have hl:xs.length=k*4:=hxs.1;have hul:u.length=4:=by rw[hu];rfl
 refine wp_app _ s x _ ho _ i _ 4 64 Tryz.underlying95 hi hz0 hz1 hz2 rfl (by decide) v k xs hs (own_grown hxs (below_grown hb) (by simp)) ⟨w.heap.size,0,none⟩ 1 1 u hx hul ?_ ?_ (by unfold maxLen;omega) (by omega) ?_
 ·intro j y hj;rw[add0];rw[hu] at hj;exact hr.at_ j hj
 ·intro y hy;rw[hu] at hy;simp only[List.mem_cons,List.not_mem_nil,or_false] at hy;rcases hy with rfl | rfl | rfl | rfl <;> rfl
 ·intro v' w' hown' htn;have hown2:(w.alloc (.cells #[.bool s', .slice A l c, .bool t', .slice B m d] 105)).ownsRow 0 105 4 v k xs:=own_grown hxs (below_grown hb) (by simp);refine h v' w' ⟨_,hown',fun j hj=> ?_⟩ ⟨⟨htn.grown.os.trans hb.os,htn.grown.tape.trans hb.tape,htn.grown.output.trans hb.output,Nat.le_trans hb.size htn.grown.size,fun k hk hne=>(htn.grown.block k (Nat.lt_of_lt_of_le hk hb.size) hne).trans (hb.block k hk)⟩,?_⟩
  ·by_cases e:j=k
   ·subst e;refine⟨s',A,l,c,t',B,m,d,?_,?_,?_,?_,(hq.below hb).turned htn hown2 ne_rat⟩
    ·rw[List.getElem?_append_right (by omega),show j*4-xs.length=0 by omega,hu];rfl
    ·rw[List.getElem?_append_right (by omega),show j*4+1-xs.length=1 by omega,hu];rfl
    ·rw[List.getElem?_append_right (by omega),show j*4+2-xs.length=2 by omega,hu];rfl
    ·rw[List.getElem?_append_right (by omega),show j*4+3-xs.length=3 by omega,hu];rfl
   ·obtain⟨s1,A1,l1,c1,t1,B1,m1,d1,h1,h2,h3,h4,h5⟩:=hpp j (by omega);exact⟨s1,A1,l1,c1,t1,B1,m1,d1,by rw[List.getElem?_append_left (by omega)];exact h1,by rw[List.getElem?_append_left (by omega)];exact h2,by rw[List.getElem?_append_left (by omega)];exact h3,by rw[List.getElem?_append_left (by omega)];exact h4,(h5.below hb).turned htn hown2 ne_rat⟩
  ·rcases htn.own with h2 | ⟨g,h2,h3⟩
   ·exact .inl h2
   ·exact .inr ⟨g,h2,Nat.le_trans hb.size h3⟩
theorem wp_copyR(w:World){o:Oper}{a:Act}{K:Act -> World -> Prop}{Q:Exit -> Act -> World -> Prop}(s x:Operand)
  (ho:o.op= .call {callee:= .builtin .append,args:= #[s,x],argTypes:= #[95,95]})
  (gE n:Nat) (f:Nat -> Rat) (A:Option Addr) (c B:Nat) (hs:a.eval s= .slice (some ⟨gE,0,none⟩) 0 0) (hE:Row w gE 105 []) (hBE:B <= gE)
  (hx:a.eval x= .slice A n c) (hr:IsRats w (.slice A n c) n f) (hnone:A=none -> c=0) (hn:n <= 1000000000000)
  (h:∀A' c' w',n <= c' -> c' <= maxLen -> (0<n -> ∃g,A'=some ⟨g,0,none⟩ /\ w.heap.size <= g /\ RB w' g n f) -> Below B w w' -> K (a.put o.dst (.slice A' n c')) w'):Oper.wp Tryz.prog o a w K Q:=by
 obtain⟨i,hi,hz0,hz1,hz2⟩:=info_parts infoR;have hEl:=hE.lt;have hown:w.ownsRow 0 105 4 (.slice (some ⟨gE,0,none⟩) 0 0) 0 []:=⟨rfl, .inr ⟨gE,0, #[],rfl,Nat.zero_le _,hE,Nat.le_refl _,Nat.zero_le _,rfl,rfl⟩⟩
 rcases Nat.eq_zero_or_pos n with h0 | h0
 ·subst h0;have hn0:w.grownBy w (some gE):=⟨rfl,rfl,rfl,Nat.le_refl _,fun _ _ _=>rfl⟩;cases A with
  | none=>
   have hc:=hnone rfl;subst hc;have hrun:=run_append_owned_none (P:=Tryz.prog) w 0 95 o.type 105 i 4 Tryz.underlying95 hi _ 0 [] hown;unfold Oper.wp;simp[execOp,ho,resolve,invoke,builtin,hs,hx,hrun,Result.andThen];exact h _ _ w (Nat.le_refl _) (Nat.zero_le _) (fun h=>absurd h (by omega)) ((Below.refl _ _).mono (by omega))
  | some ad=>
   refine wp_app w s x _ ho _ i _ 4 64 Tryz.underlying95 hi hz0 hz1 hz2 rfl (by decide) _ 0 [] hs hown ad 0 c [] hx rfl (by simp) (by simp) (by unfold maxLen;omega) (by omega) ?_;intro v' w' ho' htn;obtain⟨A',c',hv,h1,h2⟩:=own_shape ho';subst hv;refine h A' c' w' (Nat.zero_le _) h2 (fun h=>absurd h (by omega)) (htn.below (by omega) ?_);intro g hg;simp only[Value.ownBlock,Option.some.injEq] at hg;omega
 ·obtain⟨g,rfl,hrb⟩:∃g,A=some ⟨g,0,none⟩ /\ RB w g n f:=by
   obtain⟨A',c',hv,_,_,h3⟩:=hr;simp only[Value.slice.injEq,true_and] at hv;obtain⟨rfl,rfl⟩:=hv
   rcases h3 with h3 | h3
   ·omega
   ·exact h3
  obtain⟨cs,hrow,hlen,hcs⟩:=hrb;have hnl:(cs.take (n*4)).length=n*4:=by rw[List.length_take];omega
  have hn1:∀j y,(cs.take (n*4))[j]? =some y -> w.cell? ((⟨g,0,none⟩:Addr).add j)=some y:=by
   intro j y hj;have hjl:j<n*4:=by rw[<- hnl];exact(List.getElem?_eq_some_iff.1 hj).1
   rw[List.getElem?_take,if_pos hjl] at hj;rw[add0];exact hrow.at_ j hj
  obtain⟨v',w',hrun,ho',hgr⟩:=run_append_arg_grows (P:=Tryz.prog) w 95 o.type 105 i _ 4 64 Tryz.underlying95 hi hz0 hz1 hz2 rfl (by decide) ⟨gE,0,none⟩ 0 0 [] rfl (by simp) ⟨g,0,none⟩ n c (cs.take (n*4)) hnl hn1 (by omega) (by unfold maxLen;omega) (by omega);rw[Nat.zero_add] at ho';have hbw:Below w.heap.size w w':=⟨hgr.os,hgr.tape,hgr.output,hgr.size,fun k hk=>hgr.block k hk (by simp)⟩
  rcases ho'.2 with ⟨_,e0⟩ | ⟨g',cap',cur',hv,hge,hg',h2,h3,h4,h5⟩
  ·omega
  ·subst hv;unfold Oper.wp;simp[execOp,ho,resolve,invoke,builtin,hs,hx,hrun,Result.andThen];refine h _ _ w' h2 h3 (fun _=>⟨g',rfl,hge,cur'.toList,by unfold Row;simpa using hg',by rw[Array.length_toList,h4];omega,fun j hj=> ?_⟩) (hbw.mono (by omega));obtain⟨s1,A1,l1,c1,t1,B1,m1,d1,a1,a2,a3,a4,a5⟩:=hcs j hj
   have key:∀k u,k<n*4 -> cs[k]? =some u -> cur'.toList[k]? =some u:=by
    intro k u hk hu;have e1:(cur'.toList.take (n*4))[k]? =(cs.take (n*4))[k]? :=by rw[h5];simp
    rw[List.getElem?_take,if_pos hk,List.getElem?_take,if_pos hk] at e1;rw[e1];exact hu
   exact⟨s1,A1,l1,c1,t1,B1,m1,d1,key _ _ (by omega) a1,key _ _ (by omega) a2,key _ _ (by omega) a3,key _ _ (by omega) a4,a5.below hbw⟩
theorem wp_mkR(w:World){o:Oper}{a:Act}{K:Act -> World -> Prop}{Q:Exit -> Act -> World -> Prop}
  (l c:Operand) (hop:o.op=Op.makeSlice 95 l c) (L C:Int) (n:Nat) (hl:a.eval l= .int .i64 L) (hc:a.eval c= .int .i64 C) (hL:L=(n:Int)) (hC:C=(n:Int)) (b2:n <= 4398046511104)
  (hK:∀w',RB w' w.heap.size n (fun _=>0) -> Below w.heap.size w w' -> w.heap.size<w'.heap.size -> K (a.put o.dst (.slice (some ⟨w.heap.size,0,none⟩) n n)) w'):
  Oper.wp Tryz.prog o a w K Q:=by
 obtain⟨i,hi,hz0,hz1,hz2⟩:=info_parts infoR;obtain⟨w',hrun,r1,r2⟩:=run_make_full (P:=Tryz.prog) w w.heap.size _ _ i _ 4 Tryz.underlying95 hi hz0 hz1 .i64 .i64 n (by rw[hz2];omega) (by unfold maxLen;omega) (Nat.le_refl _);subst hL;subst hC;unfold Oper.wp;simp[execOp,hop,hl,hc,hrun,Result.andThen];have hr:=RB.made r1;exact hK w' hr ((Below.refl _ _).grown r2 (Nat.le_refl _) (by simp)) hr.lt
theorem wpAnyE_one{P:Program}{ops:Array Oper}{Q:Exit -> Act -> World -> Prop}{md:Region.Mode}{S:World -> Prop}{late:Nat -> Bool}{fuel:Nat}{listed:Array Bool}{a:Act}{w:World}(i:Nat){o:Oper}
  (hr:Region.ready md ops listed= [i]) (ho:ops[i]? =some o) (hw:Region.wanted o (yielded ops a.tmps)=true)
  (h:∀K':Act -> World -> Prop,Shut (∀a w,(late i=false -> S w) -> wpAnyE P md ops Q S late fuel (listed.setIfInBounds i true) a w -> K' a w) -> Oper.wp P o a w K' Q):wpAnyE P md ops Q S late (fuel+1) listed a w:=
 wpAnyE_ready hr (by simp) (AllReadyE.cons ho (fun K hK=>by rw[if_pos hw];exact h K hK) AllReadyE.nil)
theorem infoI:(Tryz.prog.info? 3).map (fun i=>(i.zero,i.size,i.bytes))=some (some (.int .i64 0),1,8):=by kernel_rfl
theorem infoS:(Tryz.prog.info? 95).map (fun i=>(i.zero,i.size,i.bytes))=some (some (.slice none 0 0),1,24):=by kernel_rfl
end
section
open Go.RowKit
open Lp (RL upd Dict)
def TS(w:World)(v:Value)(n:Nat)(s:Nat -> ByteArray):Prop:=∃A c,v= .slice A n c /\ n <= c /\ c <= maxLen /\ (n=0 \/ ∃g o,A=some ⟨g,o,none⟩ /\ ∀j,j<n -> w.cell? ⟨g,o+j,none⟩=some (.string (s j)))
def TRows(w:World)(v:Value)(m:Nat)(k:Nat -> Nat)(s:Nat -> Nat -> ByteArray)(b:Nat -> ByteArray):Prop:=
 ∃A c,v= .slice A m c /\ m <= c /\ c <= maxLen /\ (m=0 \/ ∃g o,A=some ⟨g,o,none⟩ /\ ∀i,i<m -> ∃u,w.cell? ⟨g,o+i*2,none⟩=some u /\ w.cell? ⟨g,o+i*2+1,none⟩=some (.string (b i)) /\ TS w u (k i) (s i))
def IsRows(w:World)(v:Value)(m n:Nat)(A:Nat -> Nat -> Rat):Prop:=
 ∃A' c,v= .slice A' m c /\ m <= c /\ c <= maxLen /\ (m=0 \/ ∃g,A'=some ⟨g,0,none⟩ /\ ∀i,i<m -> ∃X x,w.cell? ⟨g,i,none⟩=some (.slice X n x) /\ (X=none -> x=0) /\ IsRats w (.slice X n x) n (A i))
section
variable {w w':World} {v:Value} {n m:Nat} {s:Nat -> ByteArray}
theorem TS.below(h:TS w v n s)(hb:Below w.heap.size w w'):TS w' v n s:=by
 obtain⟨A,c,hv,h1,h2,h3⟩:=h;exact⟨A,c,hv,h1,h2,h3.imp id fun⟨g,o,hA,hc⟩=>⟨g,o,hA,fun j hj=>cell_below hb (hc j hj)⟩⟩
theorem TRows.below{k:Nat -> Nat}{t:Nat -> Nat -> ByteArray}{b:Nat -> ByteArray}(h:TRows w v m k t b)(hb:Below w.heap.size w w'):TRows w' v m k t b:=by
 obtain⟨A,c,hv,h1,h2,h3⟩:=h;refine⟨A,c,hv,h1,h2,h3.imp id fun⟨g,o,hA,hc⟩=>⟨g,o,hA,fun i hi=> ?_⟩⟩;obtain⟨u,a1,a2,a3⟩:=hc i hi;exact⟨u,cell_below hb a1,cell_below hb a2,a3.below hb⟩
theorem IsRows.below{A:Nat -> Nat -> Rat}(h:IsRows w v m n A)(hb:Below w.heap.size w w'):IsRows w' v m n A:=by
 obtain⟨A',c,hv,h1,h2,h3⟩:=h;refine⟨A',c,hv,h1,h2,h3.imp id fun⟨g,hA,hc⟩=>⟨g,hA,fun i hi=> ?_⟩⟩;obtain⟨X,x,a1,a2,a3⟩:=hc i hi;exact⟨X,x,cell_below hb a1,a2,a3.below hb⟩
theorem TS.congr{s':Nat -> ByteArray}(h:TS w v n s)(hs:∀j,j<n -> s j=s' j):TS w v n s':=by
 obtain⟨A,c,hv,h1,h2,h3⟩:=h;exact⟨A,c,hv,h1,h2,h3.imp id fun⟨g,o,hA,hc⟩=>⟨g,o,hA,fun j hj=>by rw[<- hs j hj];exact hc j hj⟩⟩
theorem TS.shape(h:TS w v n s):∃A c,v= .slice A n c /\ n <= c /\ c <= maxLen:=by obtain⟨A,c,hv,h1,h2,_⟩:=h;exact⟨A,c,hv,h1,h2⟩
theorem TRows.shape{k:Nat -> Nat}{t:Nat -> Nat -> ByteArray}{b:Nat -> ByteArray}(h:TRows w v m k t b):∃A c,v= .slice A m c /\ m <= c /\ c <= maxLen:=by obtain⟨A,c,hv,h1,h2,_⟩:=h;exact⟨A,c,hv,h1,h2⟩
theorem IsRows.shape{A:Nat -> Nat -> Rat}(h:IsRows w v m n A):∃A c,v= .slice A m c /\ m <= c /\ c <= maxLen:=by obtain⟨A,c,hv,h1,h2,_⟩:=h;exact⟨A,c,hv,h1,h2⟩
theorem IsRats.shape{f:Nat -> Rat}(h:IsRats w v n f):∃A c,v= .slice A n c /\ n <= c /\ c <= maxLen:=by obtain⟨A,c,hv,h1,h2,_⟩:=h;exact⟨A,c,hv,h1,h2⟩
theorem TS.at_{A:Option Addr}{c:Nat}(h:TS w (.slice A n c) n s)(hn:0<n):∃g o,A=some ⟨g,o,none⟩ /\ ∀j,j<n -> w.cell? ⟨g,o+j,none⟩=some (.string (s j)):=by
 obtain⟨A',c',hv,_,_,h3⟩:=h;simp only[Value.slice.injEq,true_and] at hv;obtain⟨rfl,rfl⟩:=hv
 rcases h3 with h3 | h3
 ·omega
 ·exact h3
theorem IsRats.at_{A:Option Addr}{c:Nat}{f:Nat -> Rat}(h:IsRats w (.slice A n c) n f)(hn:0<n):∃g,A=some ⟨g,0,none⟩ /\ RB w g n f:=by
 obtain⟨A',c',hv,_,_,h3⟩:=h;simp only[Value.slice.injEq,true_and] at hv;obtain⟨rfl,rfl⟩:=hv
 rcases h3 with h3 | h3
 ·omega
 ·exact h3
theorem IsRows.at_{A:Option Addr}{c:Nat}{f:Nat -> Nat -> Rat}(h:IsRows w (.slice A m c) m n f)(hm:0<m):∃g,A=some ⟨g,0,none⟩ /\ ∀i,i<m -> ∃X x,w.cell? ⟨g,i,none⟩=some (.slice X n x) /\ (X=none -> x=0) /\ IsRats w (.slice X n x) n (f i):=by
 obtain⟨A',c',hv,_,_,h3⟩:=h;simp only[Value.slice.injEq,true_and] at hv;obtain⟨rfl,rfl⟩:=hv
 rcases h3 with h3 | h3
 ·omega
 ·exact h3
theorem TRows.at_{A:Option Addr}{c:Nat}{k:Nat -> Nat}{t:Nat -> Nat -> ByteArray}{b:Nat -> ByteArray}(h:TRows w (.slice A m c) m k t b)(hm:0<m):
  ∃g o,A=some ⟨g,o,none⟩ /\ ∀i,i<m -> ∃u,w.cell? ⟨g,o+i*2,none⟩=some u /\ w.cell? ⟨g,o+i*2+1,none⟩=some (.string (b i)) /\ TS w u (k i) (t i):=by
 obtain⟨A',c',hv,_,_,h3⟩:=h;simp only[Value.slice.injEq,true_and] at hv;obtain⟨rfl,rfl⟩:=hv
 rcases h3 with h3 | h3
 ·omega
 ·exact h3
end
def TSA(w:World)(v:Value)(n:Nat)(s:Nat -> ByteArray):Prop:=TS w v n s /\ ((v= .slice none 0 0 /\ n=0) \/ (∃g o c,v= .slice (some ⟨g,o,none⟩) n c) \/ (n=0 /\ ∃ad c,v= .slice (some ad) 0 c))
theorem TSA.below{w w':World}{v:Value}{n:Nat}{s:Nat -> ByteArray}(h:TSA w v n s)(hb:Below w.heap.size w w'):TSA w' v n s:=⟨h.1.below hb,h.2⟩
end
end Go.Proofs.YtdefghfjhgmpfaaGreatDoor
