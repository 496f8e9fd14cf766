/- Parts of this proof: KnownL. -/
import Derived.Test.YtdefghfjhgmpfaaGreatDoorMAZ
import Derived.Test.YtdefghfjhgmpfaaGreatDoorMBI
namespace Go.Proofs.YtdefghfjhgmpfaaGreatDoor
open Go.Proofs.Tryz
open Go.RowKit
open Lp (RL upd eu)
def wy:List ByteArray:=[⟨#[48]⟩]
def pU:oo:=[([⟨#[49]⟩],⟨#[49]⟩),([⟨#[45,49]⟩],⟨#[45,50]⟩)]
def wz:List ByteArray:=[⟨#[49]⟩]
def pV:oo:=[([⟨#[45,49]⟩],⟨#[48]⟩)]
section
variable {w:World} {K:Nat} {A:Nat -> Nat -> Rat} {b c:Nat -> Rat} {v:Value}
theorem Je(h:jk 2 3 (lst exO) (rwT exR) (rwB exR) A b c)(F:iA w 3 2 K A b c v):∃P t Y E,v= .agg #[.int .i64 1, .string ⟨#[52]⟩, .slice P 2 t, .slice Y 3 E, .slice none 0 0]:=
 ex1 ⟨(byt (h.rows 0 oM 0 oM).symm.symm kR),byt (h.rows 0 oM 1 oM) kR,byt (h.rows 1 oM 0 oM) kR,byt (h.rows 1 oM 1 oM) kR,byt (h.rows 2 oM 0 oM) kR,byt (h.rows 2 oM 1 oM) kR⟩
  ⟨byt (h.bounds 0 oM) kR,byt (h.bounds 1 oM) kR,byt (h.bounds 2 oM) kR⟩ ⟨byt (h.obj 0 oM) kR,byt (h.obj 1 oM) kR⟩ F
theorem Jf(h:jk 2 2 (lst exO) (rwT exR) (rwB exR) A b c)(F:iA w 2 2 K A b c v):∃P t Y E,v= .agg #[.int .i64 1, .string ⟨#[53]⟩, .slice P 2 t, .slice Y 2 E, .slice none 0 0]:=
 ex2 ⟨byt (h.rows 0 oM 0 oM) kR,byt (h.rows 0 oM 1 oM) kR,byt (h.rows 1 oM 0 oM) kR,byt (h.rows 1 oM 1 oM) kR⟩
  ⟨byt (h.bounds 0 oM) kR,byt (h.bounds 1 oM) kR⟩ ⟨byt (h.obj 0 oM) kR,byt (h.obj 1 oM) kR⟩ F
theorem Jg(h:jk 1 2 (lst wy) (rwT pU) (rwB pU) A b c)(E:iA w 2 1 K A b c v):∃Y t,v= .agg #[.int .i64 2, .string ⟨#[]⟩, .slice none 0 0, .slice Y 2 t, .slice none 0 0]:=
 ex3 ⟨byt (h.rows 0 oM 0 oM) kR,byt (h.rows 1 oM 0 oM) kR⟩ ⟨byt (h.bounds 0 oM) kR,byt (h.bounds 1 oM) kR⟩ E
theorem Jh(h:jk 1 1 (lst wz) (rwT pV) (rwB pV) A b c)(E:iA w 1 1 K A b c v):∃P t R cr,v= .agg #[.int .i64 3, .string ⟨#[]⟩, .slice P 1 t, .slice none 0 0, .slice R 1 cr]:=
 ex4 (byt (h.rows 0 oM 0 oM) kR) (byt (h.bounds 0 oM) kR) (byt (h.obj 0 oM) kR) E
end
theorem fZ.take{w:World}{A:Option Addr}{m E c c':Nat}{k:Nat -> Nat}{t:Nat -> Nat -> ByteArray}{b:Nat -> ByteArray}(h:fZ w (.slice A m c) m k t b)(T:E <= m)(F:E <= c')(G:c' <= maxLen):fZ w (.slice A E c') E k t b:=by
 rcases Nat.eq_zero_or_pos m with h0 | h0
 ·exact⟨A,c',rfl,F,G, .inl oM⟩
 ·obtain⟨g,o,M,O⟩:=h.at_ h0;exact⟨A,c',rfl,F,G, .inr ⟨g,o,M,fun i R=>O i oM⟩⟩
theorem uj(O:List ByteArray)(R:oo)(n m:Nat)(E F:Option Addr)(G M:Nat)(w:World)(ho:TS w (.slice E n G) n (lst O))(hr:fZ w (.slice F m M) m (rwK R) (rwT R) (rwB R))(hn:n <= 3)(hm:m <= 3)
  (Z:fD n m (rwK R) (lst O) (rwT R) (rwB R)=0) (t:(∀j,j<n -> (lst O j).size <= 2) /\ (∀i,i<m -> ∀j,j<rwK R i -> (rwT R i j).size <= 2) /\ ∀i,i<m -> (rwB R i).size <= 2) (hg:iG w) (ht:Tab w):
  Calls prog 36 #[.agg #[.slice E n G, .slice F m M]] w fun e w'=>∃A bq c v,jk n m (lst O) (rwT R) (rwB R) A bq c /\ iA w' m n (Lp.wide m n 2+1) A bq c v /\ e= .returned (.tuple #[v, .int .i64 0]) /\ Below w.heap.size w w':=by
 have a0:Lp.wide m n 2+1 <= 1000000:=by
  have h1:=Lp.yY (m:=m) (n:=n) (k:=2) (show min m n <= 3 by omega) hn (Nat.le_refl _);have X:Lp.wb 3 (2* (3+2))+2* (3+1) <= 1000:=dC
  omega
 refine(Ct E F n m G M (rwK R) (lst O) (rwT R) (rwB R) 2 w ho hr oM oM (fun j U=>by have:=t.1 j U;omega) (fun i T j U=>by have:=t.2.1 i T j U;omega) (fun i T=>by have:=t.2.2 i T;omega) dC a0 t.1 t.2.1 t.2.2 ht hg).mono ?_;rintro e w' ⟨h | h,hb⟩
 ·exact absurd Z h.1
 ·obtain⟨_,A,bq,c,v,h1,X,Y⟩:=h;exact⟨A,bq,c,v,h1,X,Y,hb⟩
set_option maxRecDepth 100000 in
set_option maxHeartbeats 6400000 in
theorem pW(w:World)(hg:iG w)(ht:Tab w):
  Calls prog 16 #[] w fun e w'=>e= .returned (.bool true) /\ Below w.heap.size w w':=by
 have ad:=lH hg;have ae:=lH ht;clear hg ht;go_enter func16,ntmps16;go_wp2_with fail
 refine(IG _).mono ?_;rintro e w1 ⟨go,gr,rfl,aX,aY,_,h⟩;have E:=lH h;have U:=lH aX;have X:=lH aY;clear h aX aY;obtain⟨w2,al⟩:=eX (w1.alloc (.cells #[.slice (some ⟨go,0,none⟩) 2 2, .slice (some ⟨gr,0,none⟩) 3 3] 25));obtain⟨bp,aA⟩:=eX (w1.heap.size);have h:Below w1.heap.size w1 w2:=by rw[al];exact eD _ _
 have Bp:Hid (Row w2 bp 25 [.slice (some ⟨go,0,none⟩) 2 2, .slice (some ⟨gr,0,none⟩) 3 3]):=lH (by rw[al,aA];exact eP _ _);replace U:=lH (U.o.below h);replace X:=lH (X.o.below h);replace E:=bT E h;clear h;go_wp2_with fail
 have aR:w1.heap.size=bp:=by rw[aA]
 rw[<- al]
 try rw[aR]
 clear al aA aR;refine(uj exO exR 2 3 _ _ 2 3 _ U.o X.o dC dC (by decide+kernel) (by decide+kernel) (ad.o.below E.o) (ae.o.below E.o)).mono ?_;rintro e w3 ⟨Af,bf,cf,v,T,R,rfl,h⟩;replace U:=lH (U.o.below h);replace X:=lH (X.o.below h);replace Bp:=rW Bp h;replace E:=bT E h;clear h;obtain⟨P1,c1,Y1,d1,rfl⟩:=Je T R;clear T R;have BA:=Bp.o.below (eD w3 (.cells #[.int .i64 1, .string ⟨#[52]⟩, .slice P1 2 c1, .slice Y1 3 d1, .slice none 0 0] 32)) Bp.o.lt;have BQ:=BA.below (eD _ (.cells #[.slice (some ⟨go,0,none⟩) 2 2, .slice (some ⟨gr,0,none⟩) 3 3] 25)) BA.lt;have k0:=BA.at_ 0 rfl;have k1:=BA.at_ 1 rfl;have kl:=BA.lt;have m0:=BQ.at_ 0 rfl;have m1:=BQ.at_ 1 rfl;have ml:=BQ.lt;clear BQ BA;obtain⟨w4,a7⟩:=eX (w3.alloc (.cells #[.int .i64 1, .string ⟨#[52]⟩, .slice P1 2 c1, .slice Y1 3 d1, .slice none 0 0] 32));obtain⟨ba,ar⟩:=eX (w3.heap.size);have h:Below w3.heap.size w3 w4:=by rw[a7];exact eD _ _
 have F:Hid (Row w4 ba 32 [.int .i64 1, .string ⟨#[52]⟩, .slice P1 2 c1, .slice Y1 3 d1, .slice none 0 0]):=lH (by rw[a7,ar];exact eP _ _);replace U:=lH (U.o.below h);replace X:=lH (X.o.below h);replace E:=bT E h;clear h;obtain⟨w5,am⟩:=eX (w4.alloc (.cells #[.slice (some ⟨go,0,none⟩) 2 2, .slice (some ⟨gr,0,none⟩) 2 3] 25));obtain⟨bq,aB⟩:=eX (w4.heap.size);have h:Below w4.heap.size w4 w5:=by rw[am];exact eD _ _
 have Bq:Hid (Row w5 bq 25 [.slice (some ⟨go,0,none⟩) 2 2, .slice (some ⟨gr,0,none⟩) 2 3]):=lH (by rw[am,aB];exact eP _ _);replace U:=lH (U.o.below h);replace X:=lH (X.o.below h);replace F:=rW F h;replace E:=bT E h;clear h;go_wp2_with fail
 have aK:w3.heap.size=ba:=by rw[ar]
 have aS:w3.heap.size+1=bq:=by rw[aB,a7];simp
 rw[<- a7, <- am]
 try rw[aS]
 try rw[aK]
 clear a7 ar aK am aB aS;clear k0 k1 kl m0 m1 ml;refine(uj exO exR 2 2 _ _ 2 3 _ U.o (X.o.take dC dC (by unfold maxLen;decide)) dC dC (by decide+kernel) (by decide+kernel) (ad.o.below E.o) (ae.o.below E.o)).mono ?_;rintro e w6 ⟨Af,bf,cf,v,T,R,rfl,h⟩;replace F:=rW F h;replace E:=bT E h;clear h;obtain⟨P2,c2,Y2,d2,rfl⟩:=Jf T R;clear T R;obtain⟨w7,a1⟩:=eX (w6.alloc (.cells #[.int .i64 1, .string ⟨#[53]⟩, .slice P2 2 c2, .slice Y2 2 d2, .slice none 0 0] 32));obtain⟨bb,au⟩:=eX (w6.heap.size);have h:Below w6.heap.size w6 w7:=by rw[a1];exact eD _ _
 have G:Hid (Row w7 bb 32 [.int .i64 1, .string ⟨#[53]⟩, .slice P2 2 c2, .slice Y2 2 d2, .slice none 0 0]):=lH (by rw[a1,au];exact eP _ _);replace F:=rW F h;replace E:=bT E h;clear h;obtain⟨w8,a8⟩:=eX (w7.alloc (.cells #[.string ⟨#[48]⟩] 30));obtain⟨aH,ay⟩:=eX (w7.heap.size);have h:Below w7.heap.size w7 w8:=by rw[a8];exact eD _ _
 have O:Hid (Row w8 aH 30 [.string ⟨#[48]⟩]):=lH (by rw[a8,ay];exact eP _ _);replace F:=rW F h;replace G:=rW G h;replace E:=bT E h;clear h;obtain⟨w9,an⟩:=eX (w8.alloc (.cells #[.string ⟨#[49]⟩] 30));obtain⟨af,aC⟩:=eX (w8.heap.size);have h:Below w8.heap.size w8 w9:=by rw[an];exact eD _ _
 have Y:Hid (Row w9 af 30 [.string ⟨#[49]⟩]):=lH (by rw[an,aC];exact eP _ _);replace F:=rW F h;replace G:=rW G h;replace O:=rW O h;replace E:=bT E h;clear h;go_wp2_with fail
 have aL:w6.heap.size=bb:=by rw[au]
 have aP:w6.heap.size+1=aH:=by rw[ay,a1];simp
 have aT:w6.heap.size+1+1=af:=by rw[aC,a8,a1];simp
 rw[<- a1, <- a8, <- an]
 try rw[aT]
 try rw[aP]
 try rw[aL]
 clear a1 au aL a8 ay aP an aC aT;refine(oq _ _ 1 1 _).mono ?_;rintro e aa ⟨rfl,h⟩;replace F:=rW F h;replace G:=rW G h;replace O:=rW O h;replace Y:=rW Y h;replace E:=bT E h;clear h;obtain⟨b1,ap⟩:=eX (aa.alloc (.cells #[.string ⟨#[45,49]⟩] 30));obtain⟨ah,aE⟩:=eX (aa.heap.size);have h:Below aa.heap.size aa b1:=by rw[ap];exact eD _ _
 have a6:Hid (Row b1 ah 30 [.string ⟨#[45,49]⟩]):=lH (by rw[ap,aE];exact eP _ _);replace F:=rW F h;replace G:=rW G h;replace O:=rW O h;replace Y:=rW Y h;replace E:=bT E h;clear h;go_wp2_with fail
 have aV:aa.heap.size=ah:=by rw[aE]
 rw[<- ap]
 try rw[aV]
 clear ap aE aV;refine(oq _ _ 1 1 _).mono ?_;rintro e ab ⟨rfl,h⟩;replace F:=rW F h;replace G:=rW G h;replace O:=rW O h;replace Y:=rW Y h;replace a6:=rW a6 h;replace E:=bT E h;clear h;obtain⟨b2,ai⟩:=eX (ab.alloc (.cells #[.slice (some ⟨af,0,none⟩) 1 1, .string ⟨#[49]⟩, .slice (some ⟨ah,0,none⟩) 1 1, .string ⟨#[45,50]⟩] 53));obtain⟨aF,aw⟩:=eX (ab.heap.size);have h:Below ab.heap.size ab b2:=by rw[ai];exact eD _ _
 have b6:Hid (Row b2 aF 53 [.slice (some ⟨af,0,none⟩) 1 1, .string ⟨#[49]⟩, .slice (some ⟨ah,0,none⟩) 1 1, .string ⟨#[45,50]⟩]):=lH (by rw[ai,aw];exact eP _ _);replace F:=rW F h;replace G:=rW G h;replace O:=rW O h;replace Y:=rW Y h;replace a6:=rW a6 h;replace E:=bT E h;clear h;go_wp2_with fail
 have aN:ab.heap.size=aF:=by rw[aw]
 rw[<- ai]
 try rw[aN]
 clear ai aw aN
 have T3:=lH (vW (m:=2) (c:=2) (k:=rwK pU) (t:=rwT pU) (b:=rwB pU) b6.o dC (by unfold maxLen;decide) (by
  intro i hi
  rcases i with _ | _ | i
  ·exact⟨_,rfl,rfl,mD [⟨#[49]⟩] Y.o (by unfold maxLen;decide)⟩
  ·exact⟨_,rfl,rfl,mD [⟨#[45,49]⟩] a6.o (by unfold maxLen;decide)⟩
  ·omega))
 refine(uj wy pU 1 2 _ _ 1 2 _ (mD wy O.o (by unfold maxLen;decide)) T3.o dC dC (by decide+kernel) (by decide+kernel) (ad.o.below E.o) (ae.o.below E.o)).mono ?_;rintro e a0 ⟨Af,bf,cf,v,T,R,rfl,h⟩;replace F:=rW F h;replace G:=rW G h;replace E:=bT E h;clear h;obtain⟨Y3,d3,rfl⟩:=Jg T R;clear T R;obtain⟨a3,a2⟩:=eX (a0.alloc (.cells #[.int .i64 2, .string ⟨#[]⟩, .slice none 0 0, .slice Y3 2 d3, .slice none 0 0] 32));obtain⟨bc,av⟩:=eX (a0.heap.size);have h:Below a0.heap.size a0 a3:=by rw[a2];exact eD _ _
 have M:Hid (Row a3 bc 32 [.int .i64 2, .string ⟨#[]⟩, .slice none 0 0, .slice Y3 2 d3, .slice none 0 0]):=lH (by rw[a2,av];exact eP _ _);replace F:=rW F h;replace G:=rW G h;replace E:=bT E h;clear h;obtain⟨a4,a9⟩:=eX (a3.alloc (.cells #[.string ⟨#[49]⟩] 30));obtain⟨aJ,az⟩:=eX (a3.heap.size);have h:Below a3.heap.size a3 a4:=by rw[a9];exact eD _ _
 have Z:Hid (Row a4 aJ 30 [.string ⟨#[49]⟩]):=lH (by rw[a9,az];exact eP _ _);replace F:=rW F h;replace G:=rW G h;replace M:=rW M h;replace E:=bT E h;clear h;obtain⟨b3,ao⟩:=eX (a4.alloc (.cells #[.string ⟨#[45,49]⟩] 30));obtain⟨ag,aD⟩:=eX (a4.heap.size);have h:Below a4.heap.size a4 b3:=by rw[ao];exact eD _ _
 have a5:Hid (Row b3 ag 30 [.string ⟨#[45,49]⟩]):=lH (by rw[ao,aD];exact eP _ _);replace F:=rW F h;replace G:=rW G h;replace M:=rW M h;replace Z:=rW Z h;replace E:=bT E h;clear h;go_wp2_with fail
 have aM:a0.heap.size=bc:=by rw[av]
 have aQ:a0.heap.size+1=aJ:=by rw[az,a2];simp
 have aU:a0.heap.size+1+1=ag:=by rw[aD,a9,a2];simp
 rw[<- a2, <- a9, <- ao]
 try rw[aU]
 try rw[aQ]
 try rw[aM]
 clear a2 av aM a9 az aQ ao aD aU;refine(oq _ _ 1 1 _).mono ?_;rintro e ac ⟨rfl,h⟩;replace F:=rW F h;replace G:=rW G h;replace M:=rW M h;replace Z:=rW Z h;replace a5:=rW a5 h;replace E:=bT E h;clear h;obtain⟨b4,aj⟩:=eX (ac.alloc (.cells #[.slice (some ⟨ag,0,none⟩) 1 1, .string ⟨#[48]⟩] 53));obtain⟨aG,ax⟩:=eX (ac.heap.size);have h:Below ac.heap.size ac b4:=by rw[aj];exact eD _ _
 have b7:Hid (Row b4 aG 53 [.slice (some ⟨ag,0,none⟩) 1 1, .string ⟨#[48]⟩]):=lH (by rw[aj,ax];exact eP _ _);replace F:=rW F h;replace G:=rW G h;replace M:=rW M h;replace Z:=rW Z h;replace a5:=rW a5 h;replace E:=bT E h;clear h;go_wp2_with fail
 have aO:ac.heap.size=aG:=by rw[ax]
 rw[<- aj]
 try rw[aO]
 clear aj ax aO
 have T4:=lH (vW (m:=1) (c:=1) (k:=rwK pV) (t:=rwT pV) (b:=rwB pV) b7.o dC (by unfold maxLen;decide) (by
  intro i hi
  rcases i with _ | i
  ·exact⟨_,rfl,rfl,mD [⟨#[45,49]⟩] a5.o (by unfold maxLen;decide)⟩
  ·omega))
 refine(uj wz pV 1 1 _ _ 1 1 _ (mD wz Z.o (by unfold maxLen;decide)) T4.o dC dC (by decide+kernel) (by decide+kernel) (ad.o.below E.o) (ae.o.below E.o)).mono ?_;rintro e aq ⟨Af,bf,cf,v,T,R,rfl,h⟩;replace F:=rW F h;replace G:=rW G h;replace M:=rW M h;replace E:=bT E h;clear h;obtain⟨P4,c4,R4,r4,rfl⟩:=Jh T R;clear T R;obtain⟨b5,ak⟩:=eX (aq.alloc (.cells #[.int .i64 3, .string ⟨#[]⟩, .slice P4 1 c4, .slice none 0 0, .slice R4 1 r4] 32));obtain⟨bd,aW⟩:=eX (aq.heap.size);have h:Below aq.heap.size aq b5:=by rw[ak];exact eD _ _
 have Bd:Hid (Row b5 bd 32 [.int .i64 3, .string ⟨#[]⟩, .slice P4 1 c4, .slice none 0 0, .slice R4 1 r4]):=lH (by rw[ak,aW];exact eP _ _);replace F:=rW F h;replace G:=rW G h;replace M:=rW M h;replace E:=bT E h;clear h;obtain⟨b8,be⟩:=aT2 F.o;have bg:=aI 1 G;have b9:=aI 0 M;have aZ:=aI 0 Bd;have bh:=F.o.lt;have bi:=G.o.lt;have bj:=M.o.lt;have b0:=Bd.o.lt;rw[ak] at b8 be bg b9 aZ bh bi bj b0;rw[aW] at aZ b0;go_wp2_with fail
 rw[<- ak];go_returns;exact⟨rfl,E.o⟩
end Go.Proofs.YtdefghfjhgmpfaaGreatDoor
