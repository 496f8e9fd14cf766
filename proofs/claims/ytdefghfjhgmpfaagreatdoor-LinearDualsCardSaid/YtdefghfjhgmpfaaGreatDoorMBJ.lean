/- Parts of this proof: KnownL. -/
import Derived.Test.YtdefghfjhgmpfaaGreatDoorMAZ
import Derived.Test.YtdefghfjhgmpfaaGreatDoorMBI
namespace Go.Proofs.YtdefghfjhgmpfaaGreatDoor
open Go.Proofs.Tryz
open Go.RowKit
open Lp (RL upd eu)
def wy:List ByteArray:=[⟨#[48]⟩]
def pU:oo:=[([⟨#[49]⟩],⟨#[49]⟩),([⟨#[45,49]⟩],⟨#[45,50]⟩)]
def wz:List ByteArray:=[⟨#[49]⟩]
def pV:oo:=[([⟨#[45,49]⟩],⟨#[48]⟩)]
section
variable {w:World} {K:Nat} {A:Nat -> Nat -> Rat} {b c:Nat -> Rat} {v:Value}
theorem Je(h:jk 2 3 (lst exO) (rwT exR) (rwB exR) A b c)(C:iA w 3 2 K A b c v):∃P r Y t,v= .agg #[.int .i64 1, .string ⟨#[52]⟩, .slice P 2 r, .slice Y 3 t, .slice none 0 0]:=
 ex1 ⟨(byt (h.rows 0 oM 0 oM).symm.symm kR),byt (h.rows 0 oM 1 oM) kR,byt (h.rows 1 oM 0 oM) kR,byt (h.rows 1 oM 1 oM) kR,byt (h.rows 2 oM 0 oM) kR,byt (h.rows 2 oM 1 oM) kR⟩
  ⟨byt (h.bounds 0 oM) kR,byt (h.bounds 1 oM) kR,byt (h.bounds 2 oM) kR⟩ ⟨byt (h.obj 0 oM) kR,byt (h.obj 1 oM) kR⟩ C
theorem Jf(h:jk 2 2 (lst exO) (rwT exR) (rwB exR) A b c)(C:iA w 2 2 K A b c v):∃P r Y t,v= .agg #[.int .i64 1, .string ⟨#[53]⟩, .slice P 2 r, .slice Y 2 t, .slice none 0 0]:=
 ex2 ⟨byt (h.rows 0 oM 0 oM) kR,byt (h.rows 0 oM 1 oM) kR,byt (h.rows 1 oM 0 oM) kR,byt (h.rows 1 oM 1 oM) kR⟩
  ⟨byt (h.bounds 0 oM) kR,byt (h.bounds 1 oM) kR⟩ ⟨byt (h.obj 0 oM) kR,byt (h.obj 1 oM) kR⟩ C
theorem Jg(h:jk 1 2 (lst wy) (rwT pU) (rwB pU) A b c)(t:iA w 2 1 K A b c v):∃Y r,v= .agg #[.int .i64 2, .string ⟨#[]⟩, .slice none 0 0, .slice Y 2 r, .slice none 0 0]:=
 ex3 ⟨byt (h.rows 0 oM 0 oM) kR,byt (h.rows 1 oM 0 oM) kR⟩ ⟨byt (h.bounds 0 oM) kR,byt (h.bounds 1 oM) kR⟩ t
theorem Jh(h:jk 1 1 (lst wz) (rwT pV) (rwB pV) A b c)(t:iA w 1 1 K A b c v):∃P r R cr,v= .agg #[.int .i64 3, .string ⟨#[]⟩, .slice P 1 r, .slice none 0 0, .slice R 1 cr]:=
 ex4 (byt (h.rows 0 oM 0 oM) kR) (byt (h.bounds 0 oM) kR) (byt (h.obj 0 oM) kR) t
end
theorem fZ.take{w:World}{A:Option Addr}{m r c c':Nat}{k:Nat -> Nat}{t:Nat -> Nat -> ByteArray}{b:Nat -> ByteArray}(h:fZ w (.slice A m c) m k t b)(O:r <= m)(C:r <= c')(E:c' <= maxLen):fZ w (.slice A r c') r k t b:=by
 rcases Nat.eq_zero_or_pos m with h0 | h0
 ·exact⟨A,c',rfl,C,E, .inl oM⟩
 ·obtain⟨g,o,F,G⟩:=h.at_ h0;exact⟨A,c',rfl,C,E, .inr ⟨g,o,F,fun i M=>G i oM⟩⟩
theorem uj(O:List ByteArray)(R:oo)(n m:Nat)(C E:Option Addr)(F G:Nat)(w:World)(ho:TS w (.slice C n F) n (lst O))(hr:fZ w (.slice E m G) m (rwK R) (rwT R) (rwB R))(hn:n <= 3)(hm:m <= 3)
  (W:fD n m (rwK R) (lst O) (rwT R) (rwB R)=0) (r:(∀j,j<n -> (lst O j).size <= 2) /\ (∀i,i<m -> ∀j,j<rwK R i -> (rwT R i j).size <= 2) /\ ∀i,i<m -> (rwB R i).size <= 2) (Y:iG w) (ht:Tab w):
  Calls prog 36 #[.agg #[.slice C n F, .slice E m G]] w fun e w'=>∃A t c v,jk n m (lst O) (rwT R) (rwB R) A t c /\ iA w' m n (Lp.wide m n 2+1) A t c v /\ e= .returned (.tuple #[v, .int .i64 0]) /\ Below w.heap.size w w':=by
 have Z:Lp.wide m n 2+1 <= 1000000:=by
  have h1:=Lp.yY (m:=m) (n:=n) (k:=2) (show min m n <= 3 by omega) hn (Nat.le_refl _);have U:Lp.wb 3 (2* (3+2))+2* (3+1) <= 1000:=dC
  omega
 refine(Ct C E n m F G (rwK R) (lst O) (rwT R) (rwB R) 2 w ho hr oM oM (fun j T=>by have:=r.1 j T;omega) (fun i M j T=>by have:=r.2.1 i M j T;omega) (fun i M=>by have:=r.2.2 i M;omega) dC Z r.1 r.2.1 r.2.2 ht Y).mono ?_;rintro e w' ⟨h | h,X⟩
 ·exact absurd W h.1
 ·obtain⟨_,A,t,c,v,h1,U,V⟩:=h;exact⟨A,t,c,v,h1,U,V,X⟩
set_option maxRecDepth 100000 in
set_option maxHeartbeats 6400000 in
theorem pW(w:World)(hg:iG w)(ht:Tab w):
  Calls prog 16 #[] w fun e w'=>e= .returned (.bool true) /\ Below w.heap.size w w':=by
 have ac:=lH hg;have ad:=lH ht;clear hg ht;go_enter func16,ntmps16;go_wp2_with fail
 refine(IG _).mono ?_;rintro e w1 ⟨go,gr,rfl,aW,aX,_,h⟩;have r:=lH h;have R:=lH aW;have T:=lH aX;clear h aW aX;obtain⟨w2,ak⟩:=eX (w1.alloc (.cells #[.slice (some ⟨go,0,none⟩) 2 2, .slice (some ⟨gr,0,none⟩) 3 3] 25));obtain⟨bp,az⟩:=eX (w1.heap.size);have h:Below w1.heap.size w1 w2:=by rw[ak];exact eD _ _
 have Bp:Hid (Row w2 bp 25 [.slice (some ⟨go,0,none⟩) 2 2, .slice (some ⟨gr,0,none⟩) 3 3]):=lH (by rw[ak,az];exact eP _ _);replace R:=lH (R.o.below h);replace T:=lH (T.o.below h);replace r:=bT r h;clear h;go_wp2_with fail
 have aQ:w1.heap.size=bp:=by rw[az]
 rw[<- ak]
 try rw[aQ]
 clear ak az aQ;refine(uj exO exR 2 3 _ _ 2 3 _ R.o T.o dC dC (by decide+kernel) (by decide+kernel) (ac.o.below r.o) (ad.o.below r.o)).mono ?_;rintro e X ⟨Af,bf,cf,v,O,M,rfl,h⟩;replace R:=lH (R.o.below h);replace T:=lH (T.o.below h);replace Bp:=rW Bp h;replace r:=bT r h;clear h;obtain⟨P1,c1,Y1,d1,rfl⟩:=Je O M;clear O M;have Z:=Bp.o.below (eD X (.cells #[.int .i64 1, .string ⟨#[52]⟩, .slice P1 2 c1, .slice Y1 3 d1, .slice none 0 0] 32)) Bp.o.lt;have BQ:=Z.below (eD _ (.cells #[.slice (some ⟨go,0,none⟩) 2 2, .slice (some ⟨gr,0,none⟩) 3 3] 25)) Z.lt;have k0:=Z.at_ 0 rfl;have k1:=Z.at_ 1 rfl;have kl:=Z.lt;have m0:=BQ.at_ 0 rfl;have m1:=BQ.at_ 1 rfl;have ml:=BQ.lt;clear BQ Z;obtain⟨w4,a6⟩:=eX (X.alloc (.cells #[.int .i64 1, .string ⟨#[52]⟩, .slice P1 2 c1, .slice Y1 3 d1, .slice none 0 0] 32));obtain⟨ba,aq⟩:=eX (X.heap.size);have h:Below X.heap.size X w4:=by rw[a6];exact eD _ _
 have C:Hid (Row w4 ba 32 [.int .i64 1, .string ⟨#[52]⟩, .slice P1 2 c1, .slice Y1 3 d1, .slice none 0 0]):=lH (by rw[a6,aq];exact eP _ _);replace R:=lH (R.o.below h);replace T:=lH (T.o.below h);replace r:=bT r h;clear h;obtain⟨w5,al⟩:=eX (w4.alloc (.cells #[.slice (some ⟨go,0,none⟩) 2 2, .slice (some ⟨gr,0,none⟩) 2 3] 25));obtain⟨bq,aA⟩:=eX (w4.heap.size);have h:Below w4.heap.size w4 w5:=by rw[al];exact eD _ _
 have Bq:Hid (Row w5 bq 25 [.slice (some ⟨go,0,none⟩) 2 2, .slice (some ⟨gr,0,none⟩) 2 3]):=lH (by rw[al,aA];exact eP _ _);replace R:=lH (R.o.below h);replace T:=lH (T.o.below h);replace C:=rW C h;replace r:=bT r h;clear h;go_wp2_with fail
 have aJ:X.heap.size=ba:=by rw[aq]
 have aR:X.heap.size+1=bq:=by rw[aA,a6];simp
 rw[<- a6, <- al]
 try rw[aR]
 try rw[aJ]
 clear a6 aq aJ al aA aR;clear k0 k1 kl m0 m1 ml;refine(uj exO exR 2 2 _ _ 2 3 _ R.o (T.o.take dC dC (by unfold maxLen;decide)) dC dC (by decide+kernel) (by decide+kernel) (ac.o.below r.o) (ad.o.below r.o)).mono ?_;rintro e Y ⟨Af,bf,cf,v,O,M,rfl,h⟩;replace C:=rW C h;replace r:=bT r h;clear h;obtain⟨P2,c2,Y2,d2,rfl⟩:=Jf O M;clear O M;obtain⟨w7,a0⟩:=eX (Y.alloc (.cells #[.int .i64 1, .string ⟨#[53]⟩, .slice P2 2 c2, .slice Y2 2 d2, .slice none 0 0] 32));obtain⟨bb,ar⟩:=eX (Y.heap.size);have h:Below Y.heap.size Y w7:=by rw[a0];exact eD _ _
 have E:Hid (Row w7 bb 32 [.int .i64 1, .string ⟨#[53]⟩, .slice P2 2 c2, .slice Y2 2 d2, .slice none 0 0]):=lH (by rw[a0,ar];exact eP _ _);replace C:=rW C h;replace r:=bT r h;clear h;obtain⟨w8,a7⟩:=eX (w7.alloc (.cells #[.string ⟨#[48]⟩] 30));obtain⟨aG,ax⟩:=eX (w7.heap.size);have h:Below w7.heap.size w7 w8:=by rw[a7];exact eD _ _
 have G:Hid (Row w8 aG 30 [.string ⟨#[48]⟩]):=lH (by rw[a7,ax];exact eP _ _);replace C:=rW C h;replace E:=rW E h;replace r:=bT r h;clear h;obtain⟨w9,am⟩:=eX (w8.alloc (.cells #[.string ⟨#[49]⟩] 30));obtain⟨ae,aB⟩:=eX (w8.heap.size);have h:Below w8.heap.size w8 w9:=by rw[am];exact eD _ _
 have U:Hid (Row w9 ae 30 [.string ⟨#[49]⟩]):=lH (by rw[am,aB];exact eP _ _);replace C:=rW C h;replace E:=rW E h;replace G:=rW G h;replace r:=bT r h;clear h;go_wp2_with fail
 have aK:Y.heap.size=bb:=by rw[ar]
 have aO:Y.heap.size+1=aG:=by rw[ax,a0];simp
 have aS:Y.heap.size+1+1=ae:=by rw[aB,a7,a0];simp
 rw[<- a0, <- a7, <- am]
 try rw[aS]
 try rw[aO]
 try rw[aK]
 clear a0 ar aK a7 ax aO am aB aS;refine(oq _ _ 1 1 _).mono ?_;rintro e a9 ⟨rfl,h⟩;replace C:=rW C h;replace E:=rW E h;replace G:=rW G h;replace U:=rW U h;replace r:=bT r h;clear h;obtain⟨b0,ao⟩:=eX (a9.alloc (.cells #[.string ⟨#[45,49]⟩] 30));obtain⟨ag,aD⟩:=eX (a9.heap.size);have h:Below a9.heap.size a9 b0:=by rw[ao];exact eD _ _
 have a5:Hid (Row b0 ag 30 [.string ⟨#[45,49]⟩]):=lH (by rw[ao,aD];exact eP _ _);replace C:=rW C h;replace E:=rW E h;replace G:=rW G h;replace U:=rW U h;replace r:=bT r h;clear h;go_wp2_with fail
 have aU:a9.heap.size=ag:=by rw[aD]
 rw[<- ao]
 try rw[aU]
 clear ao aD aU;refine(oq _ _ 1 1 _).mono ?_;rintro e aa ⟨rfl,h⟩;replace C:=rW C h;replace E:=rW E h;replace G:=rW G h;replace U:=rW U h;replace a5:=rW a5 h;replace r:=bT r h;clear h;obtain⟨b1,ah⟩:=eX (aa.alloc (.cells #[.slice (some ⟨ae,0,none⟩) 1 1, .string ⟨#[49]⟩, .slice (some ⟨ag,0,none⟩) 1 1, .string ⟨#[45,50]⟩] 53));obtain⟨aE,av⟩:=eX (aa.heap.size);have h:Below aa.heap.size aa b1:=by rw[ah];exact eD _ _
 have b5:Hid (Row b1 aE 53 [.slice (some ⟨ae,0,none⟩) 1 1, .string ⟨#[49]⟩, .slice (some ⟨ag,0,none⟩) 1 1, .string ⟨#[45,50]⟩]):=lH (by rw[ah,av];exact eP _ _);replace C:=rW C h;replace E:=rW E h;replace G:=rW G h;replace U:=rW U h;replace a5:=rW a5 h;replace r:=bT r h;clear h;go_wp2_with fail
 have aM:aa.heap.size=aE:=by rw[av]
 rw[<- ah]
 try rw[aM]
 clear ah av aM
 have T3:=lH (vW (m:=2) (c:=2) (k:=rwK pU) (t:=rwT pU) (b:=rwB pU) b5.o dC (by unfold maxLen;decide) (by
  intro i hi
  rcases i with _ | _ | i
  ·exact⟨_,rfl,rfl,mD [⟨#[49]⟩] U.o (by unfold maxLen;decide)⟩
  ·exact⟨_,rfl,rfl,mD [⟨#[45,49]⟩] a5.o (by unfold maxLen;decide)⟩
  ·omega))
 refine(uj wy pU 1 2 _ _ 1 2 _ (mD wy G.o (by unfold maxLen;decide)) T3.o dC dC (by decide+kernel) (by decide+kernel) (ac.o.below r.o) (ad.o.below r.o)).mono ?_;rintro e W ⟨Af,bf,cf,v,O,M,rfl,h⟩;replace C:=rW C h;replace E:=rW E h;replace r:=bT r h;clear h;obtain⟨Y3,d3,rfl⟩:=Jg O M;clear O M;obtain⟨a2,a1⟩:=eX (W.alloc (.cells #[.int .i64 2, .string ⟨#[]⟩, .slice none 0 0, .slice Y3 2 d3, .slice none 0 0] 32));obtain⟨bc,au⟩:=eX (W.heap.size);have h:Below W.heap.size W a2:=by rw[a1];exact eD _ _
 have F:Hid (Row a2 bc 32 [.int .i64 2, .string ⟨#[]⟩, .slice none 0 0, .slice Y3 2 d3, .slice none 0 0]):=lH (by rw[a1,au];exact eP _ _);replace C:=rW C h;replace E:=rW E h;replace r:=bT r h;clear h;obtain⟨a3,a8⟩:=eX (a2.alloc (.cells #[.string ⟨#[49]⟩] 30));obtain⟨aH,ay⟩:=eX (a2.heap.size);have h:Below a2.heap.size a2 a3:=by rw[a8];exact eD _ _
 have V:Hid (Row a3 aH 30 [.string ⟨#[49]⟩]):=lH (by rw[a8,ay];exact eP _ _);replace C:=rW C h;replace E:=rW E h;replace F:=rW F h;replace r:=bT r h;clear h;obtain⟨b2,an⟩:=eX (a3.alloc (.cells #[.string ⟨#[45,49]⟩] 30));obtain⟨af,aC⟩:=eX (a3.heap.size);have h:Below a3.heap.size a3 b2:=by rw[an];exact eD _ _
 have a4:Hid (Row b2 af 30 [.string ⟨#[45,49]⟩]):=lH (by rw[an,aC];exact eP _ _);replace C:=rW C h;replace E:=rW E h;replace F:=rW F h;replace V:=rW V h;replace r:=bT r h;clear h;go_wp2_with fail
 have aL:W.heap.size=bc:=by rw[au]
 have aP:W.heap.size+1=aH:=by rw[ay,a1];simp
 have aT:W.heap.size+1+1=af:=by rw[aC,a8,a1];simp
 rw[<- a1, <- a8, <- an]
 try rw[aT]
 try rw[aP]
 try rw[aL]
 clear a1 au aL a8 ay aP an aC aT;refine(oq _ _ 1 1 _).mono ?_;rintro e ab ⟨rfl,h⟩;replace C:=rW C h;replace E:=rW E h;replace F:=rW F h;replace V:=rW V h;replace a4:=rW a4 h;replace r:=bT r h;clear h;obtain⟨b3,ai⟩:=eX (ab.alloc (.cells #[.slice (some ⟨af,0,none⟩) 1 1, .string ⟨#[48]⟩] 53));obtain⟨aF,aw⟩:=eX (ab.heap.size);have h:Below ab.heap.size ab b3:=by rw[ai];exact eD _ _
 have b6:Hid (Row b3 aF 53 [.slice (some ⟨af,0,none⟩) 1 1, .string ⟨#[48]⟩]):=lH (by rw[ai,aw];exact eP _ _);replace C:=rW C h;replace E:=rW E h;replace F:=rW F h;replace V:=rW V h;replace a4:=rW a4 h;replace r:=bT r h;clear h;go_wp2_with fail
 have aN:ab.heap.size=aF:=by rw[aw]
 rw[<- ai]
 try rw[aN]
 clear ai aw aN
 have T4:=lH (vW (m:=1) (c:=1) (k:=rwK pV) (t:=rwT pV) (b:=rwB pV) b6.o dC (by unfold maxLen;decide) (by
  intro i hi
  rcases i with _ | i
  ·exact⟨_,rfl,rfl,mD [⟨#[45,49]⟩] a4.o (by unfold maxLen;decide)⟩
  ·omega))
 refine(uj wz pV 1 1 _ _ 1 1 _ (mD wz V.o (by unfold maxLen;decide)) T4.o dC dC (by decide+kernel) (by decide+kernel) (ac.o.below r.o) (ad.o.below r.o)).mono ?_;rintro e ap ⟨Af,bf,cf,v,O,M,rfl,h⟩;replace C:=rW C h;replace E:=rW E h;replace F:=rW F h;replace r:=bT r h;clear h;obtain⟨P4,c4,R4,r4,rfl⟩:=Jh O M;clear O M;obtain⟨b4,aj⟩:=eX (ap.alloc (.cells #[.int .i64 3, .string ⟨#[]⟩, .slice P4 1 c4, .slice none 0 0, .slice R4 1 r4] 32));obtain⟨bd,aV⟩:=eX (ap.heap.size);have h:Below ap.heap.size ap b4:=by rw[aj];exact eD _ _
 have Bd:Hid (Row b4 bd 32 [.int .i64 3, .string ⟨#[]⟩, .slice P4 1 c4, .slice none 0 0, .slice R4 1 r4]):=lH (by rw[aj,aV];exact eP _ _);replace C:=rW C h;replace E:=rW E h;replace F:=rW F h;replace r:=bT r h;clear h;obtain⟨b7,b9⟩:=aT2 C.o;have be:=aI 1 E;have b8:=aI 0 F;have aY:=aI 0 Bd;have bg:=C.o.lt;have bh:=E.o.lt;have bi:=F.o.lt;have aZ:=Bd.o.lt;rw[aj] at b7 b9 be b8 aY bg bh bi aZ;rw[aV] at aY aZ;go_wp2_with fail
 rw[<- aj];go_returns;exact⟨rfl,r.o⟩
end Go.Proofs.YtdefghfjhgmpfaaGreatDoor
