/- Parts of this proof: SKnown SFew. -/
import Derived.Test.YtokagbahdkfagaaGreatDoorMBJ
import Derived.Test.YtokagbahdkfagaaGreatDoorMBK
import Derived.Test.YtokagbahdkfagaaGreatDoorMAY
namespace Go.Proofs.YtokagbahdkfagaaGreatDoor
open Go.Proofs.Tryz
section
open Go.RowKit
open Lp (RL upd eH)
set_option maxRecDepth 100000 in
set_option maxHeartbeats 12800000 in
theorem uX(w:World)(U:fF w)(ht:Tab w):
  Calls prog 14 #[] w fun e w'=>e= .returned (.bool true) /\ Below w.heap.size w w':=by
 have al:=lH U;have am:=lH ht;clear U ht;go_enter func14,ntmps14;go_wp2_with fail
 refine(IE _).mono ?_;rintro e w1 ⟨gD,gT,rfl,T,r⟩;have t:=lH r;have E:=lH T.1;have G:=lH T.2;clear r T;obtain⟨v1,a6⟩:=eX (w1.alloc (.cells #[.slice (some ⟨gD,0,none⟩) 2 2, .slice none 0 0] 58));obtain⟨V,af⟩:=eX (w1.heap.size);have r:Below w1.heap.size w1 v1:=by rw[a6];exact eD _ _
 have C:Hid (Row v1 V 58 [.slice (some ⟨gD,0,none⟩) 2 2, .slice none 0 0]):=lH (by rw[a6,af];exact eO _ _);have LP:Hid (w.heap.size <= V):=lH (by rw[af];exact t.o.size);replace E:=rW E r;replace G:=rW G r;replace t:=bT t r;clear r;obtain⟨v2,aj⟩:=eX (v1.alloc (.cells #[.string ⟨#[48]⟩, .slice (some ⟨gT,0,none⟩) 2 2] 25));obtain⟨aq,ae⟩:=eX (v1.heap.size);have r:Below v1.heap.size v1 v2:=by rw[aj];exact eD _ _
 have M:Hid (Row v2 aq 25 [.string ⟨#[48]⟩, .slice (some ⟨gT,0,none⟩) 2 2]):=lH (by rw[aj,ae];exact eO _ _);have LF:Hid (w.heap.size <= aq):=lH (by rw[ae];exact t.o.size);replace E:=rW E r;replace G:=rW G r;replace C:=rW C r;replace t:=bT t r;clear r
 go_upto_region 2 with (fail)
 have az:w1.heap.size=V:=by rw[af]
 have ax:w1.heap.size+1=aq:=by rw[ae,a6];simp
 try rw[ax]
 try rw[az]
 rw[<- a6, <- aj];clear a6 af az aj ae ax;obtain⟨Z,a0⟩:=aT2 C.o;have a1:=C.o.lt;obtain⟨a7,a8⟩:=aT2 M.o;have a9:=M.o.lt;go_wp2_with fail
 clear Z a0 a1 a7 a8 a9;refine(Ij (kP 0) kF (some ⟨gD,0,none⟩) none (some ⟨gT,0,none⟩) 2 0 2 6 16000 _ ⟨uV E.o,zZ _⟩ (uW G.o) (fun _=>uU oM) (am.o.below t.o) (al.o.below t.o)).mono ?_;rintro e y0 ⟨T,r⟩;replace E:=rW E r;replace G:=rW G r;replace C:=rW C r;replace M:=rW M r;replace t:=bT t r;clear r
 rcases T with ⟨hq,_⟩ | ⟨_,T⟩
 ·exact absurd (zX oM) hq
 rcases T with ⟨y,hy,_⟩ | ⟨oA,v,Y,W,rfl⟩
 ·exact absurd hy (fun h=>uS oM h)
 rw[show(kP 0).n=2 from rfl] at W;obtain⟨XA,cA,gA,rfl⟩:=W.shape;have R:=lH W;have OA:=lH Y;clear Y W;obtain⟨eq,e0,e1⟩:=Ip OA.o;rw[show eB oA.q=⟨#[54,48,55,48]⟩ by rw[eq,Ir]];have E0:=lH e0;have E1:=lH e1;have EQ:=lH eq;clear eq e0 e1;obtain⟨v3,ah⟩:=eX (y0.alloc (.cells #[.string ⟨#[54,48,55,48]⟩, .slice XA 2 cA, .slice (some ⟨gA,0,none⟩) 1 1] 83));obtain⟨ao,ab⟩:=eX (y0.heap.size);have r:Below y0.heap.size y0 v3:=by rw[ah];exact eD _ _
 have BA:Hid (Row v3 ao 83 [.string ⟨#[54,48,55,48]⟩, .slice XA 2 cA, .slice (some ⟨gA,0,none⟩) 1 1]):=lH (by rw[ah,ab];exact eO _ _);have LA:Hid (w.heap.size <= ao):=lH (by rw[ab];exact t.o.size);replace R:=lH (R.o.below r);replace E:=rW E r;replace G:=rW G r;replace C:=rW C r;replace M:=rW M r;replace t:=bT t r;clear r
 go_upto_region 3 with (fail)
 have au:y0.heap.size=ao:=by rw[ab]
 try rw[au]
 rw[<- ah];clear ah ab au;have O:=BA;clear BA;obtain⟨Z,a0⟩:=aT2 C.o;have a1:=C.o.lt;obtain⟨a7,a8⟩:=aT2 M.o;have a9:=M.o.lt;go_wp2_with fail
 clear Z a0 a1 a7 a8 a9;refine(Ik (kP 0) kF (some ⟨gD,0,none⟩) none (some ⟨gT,0,none⟩) 2 0 2 6 16000 _ ⟨uV E.o,zZ _⟩ (uW G.o) (fun _=>uU oM) (am.o.below t.o) (al.o.below t.o)).mono ?_;rintro e y1 ⟨T,r⟩;replace R:=lH (R.o.below r);replace E:=rW E r;replace G:=rW G r;replace C:=rW C r;replace M:=rW M r;replace O:=rW O r;replace t:=bT t r;clear r
 rcases T with ⟨hq,_⟩ | ⟨_,T⟩
 ·exact absurd (zX oM) hq
 rcases T with ⟨y,hy,_⟩ | ⟨oB,v,Y,W,rfl⟩
 ·exact absurd hy (fun h=>uS oM h)
 rw[show(kP 0).n=2 from rfl] at W;obtain⟨XB,cB,gB,rfl⟩:=W.shape;have WB:=lH W;have OB:=lH Y;clear Y W;have eq:=uT oM OB.o;rw[show eB oB.q=⟨#[53,56,56,48]⟩ by rw[eq,zY]];clear eq;obtain⟨v4,ai⟩:=eX (y1.alloc (.cells #[.string ⟨#[53,56,56,48]⟩, .slice XB 2 cB, .slice (some ⟨gB,0,none⟩) 1 1] 83));obtain⟨ap,ac⟩:=eX (y1.heap.size);have r:Below y1.heap.size y1 v4:=by rw[ai];exact eD _ _
 have BB:Hid (Row v4 ap 83 [.string ⟨#[53,56,56,48]⟩, .slice XB 2 cB, .slice (some ⟨gB,0,none⟩) 1 1]):=lH (by rw[ai,ac];exact eO _ _);have LB:Hid (w.heap.size <= ap):=lH (by rw[ac];exact t.o.size);replace R:=lH (R.o.below r);replace E:=rW E r;replace G:=rW G r;replace C:=rW C r;replace M:=rW M r;replace O:=rW O r;replace t:=bT t r;clear r
 go_upto_region 4 with (fail)
 have av:y1.heap.size=ap:=by rw[ac]
 try rw[av]
 rw[<- ai];clear ai ac av;have RB:=BB;clear BB;obtain⟨v5,a3⟩:=eX (v4.alloc (.cells #[.int .i64 0, .string ⟨#[49]⟩, .int .i64 1, .string ⟨#[49]⟩] 126));obtain⟨aa,a4⟩:=eX (v4.heap.size);have r:Below v4.heap.size v4 v5:=by rw[a3];exact eD _ _
 have BG:Hid (Row v5 aa 126 [.int .i64 0, .string ⟨#[49]⟩, .int .i64 1, .string ⟨#[49]⟩]):=lH (by rw[a3,a4];exact eO _ _);have LG:Hid (w.heap.size <= aa):=lH (by rw[a4];exact t.o.size);replace R:=lH (R.o.below r);replace E:=rW E r;replace G:=rW G r;replace C:=rW C r;replace M:=rW M r;replace O:=rW O r;replace RB:=rW RB r;replace t:=bT t r;clear r;obtain⟨v6,a5⟩:=eX (v5.alloc (.cells #[.string ⟨#[115,117,109]⟩, .string ⟨#[45,49,52,48,48,48]⟩, .slice (some ⟨aa,0,none⟩) 2 2] 120));obtain⟨a2,ad⟩:=eX (v5.heap.size);have r:Below v5.heap.size v5 v6:=by rw[a5];exact eD _ _
 have BC:Hid (Row v6 a2 120 [.string ⟨#[115,117,109]⟩, .string ⟨#[45,49,52,48,48,48]⟩, .slice (some ⟨aa,0,none⟩) 2 2]):=lH (by rw[a5,ad];exact eO _ _);have LC:Hid (w.heap.size <= a2):=lH (by rw[ad];exact t.o.size);replace R:=lH (R.o.below r);replace E:=rW E r;replace G:=rW G r;replace C:=rW C r;replace M:=rW M r;replace O:=rW O r;replace RB:=rW RB r;replace BG:=rW BG r;replace t:=bT t r;clear r;obtain⟨Z,aB,a0,aC⟩:=aF2 C.o;have a1:=C.o.lt;rw[a5,a3,a4] at Z a0 aB aC a1
 go_upto_region 5 with (fail)
 clear Z a0 aB aC a1;have ay:v4.heap.size=aa:=by rw[a4]
 have aw:v4.heap.size+1=a2:=by rw[ad,a3];simp
 try rw[aw]
 try rw[ay]
 rw[<- a3, <- a5];clear a3 a4 ay a5 ad aw;have U:World.grownBy v6 (v6.setCell ⟨V,1,none⟩ (.slice (some ⟨a2,0,none⟩) 1 1)) (some V):=grownBy_set _ _ _ _;have qP:=C.o.set 1 (.slice (some ⟨a2,0,none⟩) 1 1);replace E:=lH (E.o.other U (fun e=>by have h0:=C.o.ty (show Row _ V _ _ from by rw[<- e];exact E.o);revert h0;decide));replace G:=lH (G.o.other U (fun e=>by have h0:=C.o.ty (show Row _ V _ _ from by rw[<- e];exact G.o);revert h0;decide));replace M:=lH (M.o.other U (fun e=>by have h0:=C.o.ty (show Row _ V _ _ from by rw[<- e];exact M.o);revert h0;decide));replace O:=lH (O.o.other U (fun e=>by have h0:=C.o.ty (show Row _ V _ _ from by rw[<- e];exact O.o);revert h0;decide));replace RB:=lH (RB.o.other U (fun e=>by have h0:=C.o.ty (show Row _ V _ _ from by rw[<- e];exact RB.o);revert h0;decide));replace BG:=lH (BG.o.other U (fun e=>by have h0:=C.o.ty (show Row _ V _ _ from by rw[<- e];exact BG.o);revert h0;decide));replace BC:=lH (BC.o.other U (fun e=>by have h0:=C.o.ty (show Row _ V _ _ from by rw[<- e];exact BC.o);revert h0;decide));replace R:=lH (R.o.other U C.o dC dC);replace t:=lH (t.o.grown U t.o.size (by have:=LP.o;first | (simp;done) | (simp;omega)));replace C:=lH qP;clear qP U;obtain⟨z1,aE⟩:=eX ((v6.setCell ⟨V,1,none⟩ (.slice (some ⟨a2,0,none⟩) 1 1)));rw[<- aE] at t E G C M O RB BG BC R ⊢;clear aE;obtain⟨Z,a0⟩:=aT2 C.o;have a1:=C.o.lt;obtain⟨a7,a8⟩:=aT2 M.o;have a9:=M.o.lt;go_wp2_with fail
 clear Z a0 a1 a7 a8 a9;refine(IG (kP 1) IV (some ⟨gD,0,none⟩) (some ⟨a2,0,none⟩) (some ⟨gT,0,none⟩) none 2 1 2 0 6 16000 _ ⟨uV E.o,IC BC.o BG.o⟩ (uW G.o) (fun _=>uU oM) mR.2.1 zV ⟨rfl,rfl,rfl⟩ mR.2.2 mV.1 mV.2 (am.o.below t.o) (al.o.below t.o)).mono ?_;rintro e y3 ⟨T,r⟩;replace R:=lH (R.o.below r);replace O:=rW O r;replace RB:=rW RB r;replace t:=bT t r;clear r
 rcases T with ⟨hq,_⟩ | ⟨_,T⟩
 ·exact absurd Io hq
 rcases T with ⟨y,hy,_⟩ | ⟨o,o2,X,c,g1,X2,c2,g2,Y,W,aD,aF,rfl⟩
 ·exact absurd hy (fun h=>uS oM h)
 obtain⟨e1,e2,e3,e4⟩:=Iz Y aD;rw[e1,e2,e3,e4,show eB o.q=⟨#[53,56,56,48]⟩ by rw[uT oM Y,zY],show(kP 1).n=2 from rfl];clear e1 e2 e3 e4 Y W aD aF;obtain⟨v7,ak⟩:=eX (y3.alloc (.cells #[.bool false, .string ⟨#[53,56,56,48]⟩, .slice X 2 c, .slice (some ⟨g1,0,none⟩) 1 1, .string ⟨#[54,48,52,48]⟩, .slice X2 2 c2, .slice (some ⟨g2,0,none⟩) 1 1, .string ⟨#[45,50,48]⟩, .string ⟨#[54,48]⟩] 91));obtain⟨ar,ag⟩:=eX (y3.heap.size);have r:Below y3.heap.size y3 v7:=by rw[ak];exact eD _ _
 have BR:Hid (Row v7 ar 91 [.bool false, .string ⟨#[53,56,56,48]⟩, .slice X 2 c, .slice (some ⟨g1,0,none⟩) 1 1, .string ⟨#[54,48,52,48]⟩, .slice X2 2 c2, .slice (some ⟨g2,0,none⟩) 1 1, .string ⟨#[45,50,48]⟩, .string ⟨#[54,48]⟩]):=lH (by rw[ak,ag];exact eO _ _);have LR:Hid (w.heap.size <= ar):=lH (by rw[ag];exact t.o.size);replace R:=lH (R.o.below r);replace O:=rW O r;replace RB:=rW RB r;replace t:=bT t r;clear r
 go_upto_region 6 with (fail)
 have aA:y3.heap.size=ar:=by rw[ag]
 try rw[aA]
 rw[<- ak];clear ak ag aA;obtain⟨gx,ox,rfl,an⟩:=R.o.ts.at_ oM;have c0:=an 0 oM;have c1:=an 1 oM;rw[show eB (oA.x 0)=⟨#[49,48,48,53,48]⟩ by rw[E0.o,Iw],Nat.add_zero] at c0;rw[show eB (oA.x 1)=⟨#[51,57,56,48]⟩ by rw[E1.o,Iy]] at c1;clear an;obtain⟨aH,aK⟩:=aT2 O.o;have aP:=O.o.lt;have aJ:=aI 0 RB;have aQ:=RB.o.lt;have aG:=aI 0 BR;have aL:=aI 4 BR;have aM:=aI 7 BR;have aN:=aI 8 BR;have aO:=BR.o.lt;have cl:=eF c0;go_wp2_with fail
 go_returns;exact⟨rfl,t.o⟩
end
section
open Go.RowKit
open Lp (RL upd eH)
def gz(n:Nat):Prop:=n <= 60 \/ (400 <= n /\ n <= 402)
def Am(F:Frm):Prop:=F.N <= 66 /\ gz F.c.size /\ ∀k,k<F.N -> gz (F.f k).size
set_option maxRecDepth 100000 in
set_option maxHeartbeats 12800000 in
theorem II(F:Frm)(T:Option Addr)(X:Nat)(w:World)(hT:TT w (.slice T F.N X) F.N F.d F.f):
  Calls prog 15 #[.agg #[.string F.c, .slice T F.N X]] w fun e w'=>((Am F /\ e= .returned (.bool true)) \/ (¬Am F /\ e= .returned (.bool false))) /\ Below w.heap.size w w':=by
 have HT:=lH hT;clear hT;obtain⟨W,hW,t,r⟩:=eN1 w [.string F.c, .slice T F.N X] 25;go_enter func15,ntmps15;obtain⟨a8,a0⟩:=aT2 t.o;have a1:=t.o.lt
 go_upto_region 1 with (fail)
 rw[<- hW];clear hW;by_cases n1:(66:Int)<(F.N:Nat)
 ·have a3:decide ((66:Int)<(F.N:Nat))=true:=decide_eq_true n1;have V:Hid (¬F.N <= 66):=lH oM;go_wp2_with fail
  go_returns;exact⟨.inr ⟨fun h=>V.o h.1,rfl⟩,r.o⟩
 have a3:decide ((66:Int)<(F.N:Nat))=false:=decide_eq_false n1;have V:Hid (F.N <= 66):=lH oM;by_cases qa:(60:Int)<(F.c.size:Nat)
 ·have a7:decide ((60:Int)<(F.c.size:Nat))=true:=decide_eq_true qa;by_cases qb:(F.c.size:Int)<400
  ·have a9:decide ((F.c.size:Int)<400)=true:=decide_eq_true qb;have M:Hid (¬gz F.c.size):=lH (by unfold gz;omega);go_wp2_with fail
   go_returns;exact⟨.inr ⟨fun h=>M.o h.2.1,rfl⟩,r.o⟩
  have a9:decide ((F.c.size:Int)<400)=false:=decide_eq_false qb;by_cases qc:(402:Int)<(F.c.size:Nat)
  ·have aa:decide ((402:Int)<(F.c.size:Nat))=true:=decide_eq_true qc;have M:Hid (¬gz F.c.size):=lH (by unfold gz;omega);go_wp2_with fail
   go_returns;exact⟨.inr ⟨fun h=>M.o h.2.1,rfl⟩,r.o⟩
  have aa:decide ((402:Int)<(F.c.size:Nat))=false:=decide_eq_false qc;have M:Hid (gz F.c.size):=lH (by unfold gz;omega);go_wp2_with fail
  clear n1 a3 a8 a0 a1 qa a7 qb a9 qc aa
  go_loopw [3] (fun U wr=>∃ (k:Nat),k <= F.N /\ U= .int .i64 k /\ Hid (∀j,j<k -> gz (F.f j).size) /\ Hid (Row wr w.heap.size 25 [.string F.c, .slice T F.N X]) /\ Hid (Below w.heap.size w wr)) (fun U _=>F.N-(intOf U).toNat)
  case atStart=>exact⟨0,Nat.zero_le _,rfl,lH (fun j R=>absurd R oM),t,r⟩
  case round=>
   clear t r;obtain⟨k,hk,rfl,G,t,r⟩:=hrel;have a0:=aI 1 t;have a1:=t.o.lt;by_cases ac:((k:Nat):Int)<(F.N:Nat)
   ·have E:k<F.N:=oM
    obtain⟨gA,oA,rfl,O⟩:=HT.o.at_ oM;have a2:=cell_below r.o (O k E).1;have ad:=cell_below r.o (O k E).2;have ae:=eF a2;have ab:=V.o;clear O;by_cases Z:(60:Int)<((F.f k).size:Nat)
    ·have a4:decide ((60:Int)<((F.f k).size:Nat))=true:=decide_eq_true Z;by_cases pb:((F.f k).size:Int)<400
     ·have a5:decide (((F.f k).size:Int)<400)=true:=decide_eq_true pb;have C:Hid (¬gz (F.f k).size):=lH (by unfold gz;omega);go_wp2_with fail
      go_returns;exact⟨.inr ⟨fun h=>C.o (h.2.2 k E),rfl⟩,r.o⟩
     have a5:decide (((F.f k).size:Int)<400)=false:=decide_eq_false pb;by_cases pc:(402:Int)<((F.f k).size:Nat)
     ·have a6:decide ((402:Int)<((F.f k).size:Nat))=true:=decide_eq_true pc;have C:Hid (¬gz (F.f k).size):=lH (by unfold gz;omega);go_wp2_with fail
      go_returns;exact⟨.inr ⟨fun h=>C.o (h.2.2 k E),rfl⟩,r.o⟩
     have a6:decide ((402:Int)<((F.f k).size:Nat))=false:=decide_eq_false pc;have C:Hid (gz (F.f k).size):=lH (by unfold gz;omega);go_wp2_with fail
     go_roundw
     case rel=>exact⟨k+1,E,by simp,lH (fun j R=>by by_cases e:j=k;rw[e];exact C.o;exact G.o j oM),t,r⟩
     case measure=>exact mZ
    ·have a4:decide ((60:Int)<((F.f k).size:Nat))=false:=decide_eq_false Z;have C:Hid (gz (F.f k).size):=lH (by unfold gz;omega);go_wp2_with fail
     go_roundw
     case rel=>exact⟨k+1,E,by simp,lH (fun j R=>by by_cases e:j=k;rw[e];exact C.o;exact G.o j oM),t,r⟩
     case measure=>exact mZ
   ·have Y:k=F.N:=oM
    rw[Y] at G;clear Y;go_wp2_with fail
    go_returns;exact⟨.inl ⟨⟨V.o,M.o,G.o⟩,rfl⟩,r.o⟩
 ·have a7:decide ((60:Int)<(F.c.size:Nat))=false:=decide_eq_false qa;have M:Hid (gz F.c.size):=lH (by unfold gz;omega);go_wp2_with fail
  clear n1 a3 a8 a0 a1 qa a7
  go_loopw [3] (fun U wr=>∃ (k:Nat),k <= F.N /\ U= .int .i64 k /\ Hid (∀j,j<k -> gz (F.f j).size) /\ Hid (Row wr w.heap.size 25 [.string F.c, .slice T F.N X]) /\ Hid (Below w.heap.size w wr)) (fun U _=>F.N-(intOf U).toNat)
  case atStart=>exact⟨0,Nat.zero_le _,rfl,lH (fun j R=>absurd R oM),t,r⟩
  case round=>
   clear t r;obtain⟨k,hk,rfl,G,t,r⟩:=hrel;have a0:=aI 1 t;have a1:=t.o.lt;by_cases ac:((k:Nat):Int)<(F.N:Nat)
   ·have E:k<F.N:=oM
    obtain⟨gA,oA,rfl,O⟩:=HT.o.at_ oM;have a2:=cell_below r.o (O k E).1;have ad:=cell_below r.o (O k E).2;have ae:=eF a2;have ab:=V.o;clear O;by_cases Z:(60:Int)<((F.f k).size:Nat)
    ·have a4:decide ((60:Int)<((F.f k).size:Nat))=true:=decide_eq_true Z;by_cases pb:((F.f k).size:Int)<400
     ·have a5:decide (((F.f k).size:Int)<400)=true:=decide_eq_true pb;have C:Hid (¬gz (F.f k).size):=lH (by unfold gz;omega);go_wp2_with fail
      go_returns;exact⟨.inr ⟨fun h=>C.o (h.2.2 k E),rfl⟩,r.o⟩
     have a5:decide (((F.f k).size:Int)<400)=false:=decide_eq_false pb;by_cases pc:(402:Int)<((F.f k).size:Nat)
     ·have a6:decide ((402:Int)<((F.f k).size:Nat))=true:=decide_eq_true pc;have C:Hid (¬gz (F.f k).size):=lH (by unfold gz;omega);go_wp2_with fail
      go_returns;exact⟨.inr ⟨fun h=>C.o (h.2.2 k E),rfl⟩,r.o⟩
     have a6:decide ((402:Int)<((F.f k).size:Nat))=false:=decide_eq_false pc;have C:Hid (gz (F.f k).size):=lH (by unfold gz;omega);go_wp2_with fail
     go_roundw
     case rel=>exact⟨k+1,E,by simp,lH (fun j R=>by by_cases e:j=k;rw[e];exact C.o;exact G.o j oM),t,r⟩
     case measure=>exact mZ
    ·have a4:decide ((60:Int)<((F.f k).size:Nat))=false:=decide_eq_false Z;have C:Hid (gz (F.f k).size):=lH (by unfold gz;omega);go_wp2_with fail
     go_roundw
     case rel=>exact⟨k+1,E,by simp,lH (fun j R=>by by_cases e:j=k;rw[e];exact C.o;exact G.o j oM),t,r⟩
     case measure=>exact mZ
   ·have Y:k=F.N:=oM
    rw[Y] at G;clear Y;go_wp2_with fail
    go_returns;exact⟨.inl ⟨⟨V.o,M.o,G.o⟩,rfl⟩,r.o⟩
set_option maxRecDepth 100000 in
set_option maxHeartbeats 12800000 in
theorem AA(s:ByteArray)(w:World)(hs:s.size <= 65536)(hg:fF w):
  Calls prog 40 #[.string s] w fun e w'=>∃v,e= .returned v /\ eP w' v (qof s) /\ Below w.heap.size w w':=by
 have a1:=lH hg;have a2:=lH hs;clear hg hs;obtain⟨W,hW,h,r⟩:=eN1 w [.bool false, .slice none 0 0, .bool false, .slice none 0 0] 40;go_enter func40,ntmps40;go_wp2_with fail
 rw[<- hW];clear hW;refine(nQ s _ a2.o (a1.o.below r.o)).mono ?_;rintro e E ⟨vz,rfl,X,U⟩;obtain⟨sz,G,Y,R,tz,M,Z,T,rfl⟩:=X.shape;have O:=lH X;clear X;replace h:=rW h U;replace r:=bT r U;clear U;obtain⟨w2,C⟩:=eX (E.alloc (.cells #[.bool sz, .slice G Y R, .bool tz, .slice M Z T] 40));obtain⟨gS,V⟩:=eX (E.heap.size);have t:Below E.heap.size E w2:=by rw[C];exact eD _ _
 have RS:Hid (Row w2 gS 40 [.bool sz, .slice G Y R, .bool tz, .slice M Z T]):=lH (by rw[C,V];exact eO _ _);replace h:=rW h t;replace O:=lH (O.o.below t);replace r:=bT r t;clear t
 go_upto_region 2 with (fail)
 rw[<- C, <- V];clear C V;obtain⟨a7,a8,a9,aa⟩:=aT4 RS.o;have ag:=RS.o.lt;obtain⟨a3,a4,a5,a6⟩:=aT4 h.o;have af:=h.o.lt;have ab:=h.o.free 0;have ac:=h.o.free 1;have ad:=h.o.free 2;have ae:=h.o.free 3;have hr:=ic h.o gM oM r.o O.o;have a0:=lH hr;clear hr;go_wp2_with fail
 refine bodyPost_ret (v:= .agg #[.bool sz, .slice G Y R, .bool tz, .slice M Z T]) (by simp[results,results40,go_sem,a3,a4,a5,a6]) rfl ?_;exact⟨_,rfl,a0.o.1,a0.o.2⟩
end
end Go.Proofs.YtokagbahdkfagaaGreatDoor
