/- Parts of this proof: SLin. -/
import Derived.Test.YtokagbahdkfagaaGreatDoorMAE
import Derived.Test.YtokagbahdkfagaaGreatDoorMBP
namespace Go.Proofs.YtokagbahdkfagaaGreatDoor
open Go.Proofs.Tryz
open Go.RowKit
open Lp (RL upd eH)
def TI8(w:World)(v:Value)(n:Nat)(z:Nat -> Int):Prop:=∃A c,v= .slice A n c /\ n <= c /\ c <= maxLen /\ (n=0 \/ ∃g o,A=some ⟨g,o,none⟩ /\ ∀j,j<n -> w.cell? ⟨g,o+j,none⟩=some (.int .i8 (z j)))
theorem TI8.below{w w':World}{v:Value}{n:Nat}{z:Nat -> Int}(h:TI8 w v n z)(G:Below w.heap.size w w'):TI8 w' v n z:=by
 obtain⟨A,c,R,h1,r,t⟩:=h;exact⟨A,c,R,h1,r,t.imp id fun⟨g,o,E,M⟩=>⟨g,o,E,fun j O=>cell_below G (M j O)⟩⟩
theorem TI8.at_{w:World}{A:Option Addr}{n c:Nat}{z:Nat -> Int}(h:TI8 w (.slice A n c) n z)(E:0<n):∃g o,A=some ⟨g,o,none⟩ /\ ∀j,j<n -> w.cell? ⟨g,o+j,none⟩=some (.int .i8 (z j)):=by
 obtain⟨A',c',t,_,_,r⟩:=h;cases t
 rcases r with r | r
 ·omega
 ·exact r
structure IZ (i q:Nat) (d:Nat -> Int) (f:Nat -> ByteArray):Prop where
 few:q <= i
 dim:∀k,k<q -> 0 <= d k /\ d k<(i:Nat)
 inc:∀k,k+1<q -> d k<d (k+1)
 fac:∀k,k<q -> ∃x,f k=eB x /\ x≠0 /\ Half 6 x
theorem IZ.zero(d:Nat -> Int)(f:Nat -> ByteArray):IZ 0 0 d f:=⟨Nat.le_refl _,fun k h=>absurd h oM,fun k h=>absurd h oM,fun k h=>absurd h oM⟩
theorem IZ.skip{i q:Nat}{d:Nat -> Int}{f:Nat -> ByteArray}(h:IZ i q d f):IZ (i+1) q d f:=⟨by have:=h.few;omega,fun k r=>by have:=h.dim k r;omega,h.inc,h.fac⟩
theorem IZ.more{i q:Nat}{d:Nat -> Int}{f:Nat -> ByteArray}{x:Rat}(h:IZ i q d f)(E:x≠0)(t:Half 6 x):IZ (i+1) (q+1) (upd d q (i:Nat)) (upd f q (eB x)):=by
 refine⟨by have:=h.few;omega,fun k r=> ?_,fun k r=> ?_,fun k r=> ?_⟩
 ·by_cases e:k=q
  ·rw[e,Lp.upd_same];omega
  ·rw[Lp.eQ _ _ e];have:=h.dim k oM;omega
 ·by_cases e:k+1=q
  ·rw[Lp.eQ _ _ oM,e,Lp.upd_same];have:=h.dim k oM;omega
  ·rw[Lp.eQ _ _ oM,Lp.eQ _ _ e];exact h.inc k oM
 ·by_cases e:k=q
  ·rw[e,Lp.upd_same];exact⟨x,rfl,E,t⟩
  ·rw[Lp.eQ _ _ e];exact h.fac k oM
theorem IZ.ok{i q n:Nat}{d:Nat -> Int}{f:Nat -> ByteArray}(h:IZ i q d f)(t:i <= n)(c:ByteArray):IX n ⟨c,q,d,f⟩:=
 ⟨by have:=h.few;show q <= n;omega,fun k r=>by have:=h.dim k r;show 0 <= d k /\ d k<(n:Nat);omega,h.inc,h.fac⟩
set_option maxRecDepth 100000 in
set_option maxHeartbeats 12800000 in
theorem Jk(n:Nat)(A:Option Addr)(l cl:Nat)(z:Nat -> Int)(vq:Value)(q0:Rat)(w:World)(hl:TI8 w (.slice A l cl) l z)(hz:∀j,j<l -> -128 <= z j /\ z j <= 127)(hq:eP w vq q0)(O:Half 1000000 q0)(hn:n <= 5)(ht:Tab w):
  Calls prog 65 #[.int .i64 n, .slice A l cl,vq] w fun e w'=>∃ (F:Frm) (T:Option Addr) (cT:Nat),e= .returned (.agg #[.string F.c, .slice T F.N cT]) /\ TTN w' (.slice T F.N cT) F.N F.d F.f /\ IX n F /\ F.c=eB q0 /\ Below w.heap.size w w':=by
 obtain⟨sc,Ac,lc,cc,tc,Bc,mc,dc,rfl⟩:=hq.shape;have bj:=lH hl;have bk:=lH hz;have VQ:=lH hq;have bi:=lH O;have ab:=lH hn;have ay:=lH ht;clear hl hz hq O hn ht;obtain⟨W,hW,RC,G,E⟩:=eN2 w [.bool sc, .slice Ac lc cc, .bool tc, .slice Bc mc dc] 40 [.string ⟨#[]⟩, .slice none 0 0] 25;go_enter func65,ntmps65
 go_upto_region 1 with (fail)
 rw[<- hW];clear hW;obtain⟨bm,bn,bo,bp⟩:=aT4 RC.o;have bq:=RC.o.lt;go_wp2_with fail
 clear bm bn bo bp bq;refine(jE _ q0 1000000 _ (VQ.o.below E.o) ((bi.o.rl dC).mono dC) (Nat.le_refl _) (ay.o.below E.o)).mono ?_;rintro e w1 ⟨rfl,h⟩;replace G:=rW G h;replace E:=bT E h;clear h;clear RC;obtain⟨tc,aQ⟩:∃x:ByteArray,x=eB q0:=⟨_,rfl⟩
 rw[<- aQ];have b8:=lH aQ;clear aQ;have b7:=G.o.lt;obtain⟨w2,aq⟩:=eX (w1.alloc (.cells #[.string tc, .slice none 0 0] 25));obtain⟨gF,ao⟩:=eX (w1.heap.size);have aL:Below w1.heap.size w1 w2:=by rw[aq];exact eD _ _
 have M:Hid (Row w2 gF 25 [.string tc, .slice none 0 0]):=lH (by rw[aq,ao];exact eO _ _);replace G:=rW G aL;replace E:=bT E aL;have ae:Hid (w.heap.size+1<gF):=lH (by rw[ao];exact b7);clear aL b7
 go_upto_region 2 with (fail)
 rw[<- aq, <- ao];clear aq ao;go_wp2_with fail
 go_loopw [8] (fun iv wr=>∃ (i q:Nat) (d:Nat -> Int) (f:Nat -> ByteArray) (B:Option Addr) (Y:Nat),(i <= n /\ i <= l) /\ iv= .int .i64 i /\ IZ i q d f /\ Hid (Row wr gF 25 [.string tc, .slice B q Y]) /\ Hid (IW wr (.slice B q Y) 126 2 q (cT d f)) /\ Hid (∀g,(Value.slice B q Y).ownBlock=some g -> w.heap.size <= g) /\ Hid (Row wr (w.heap.size+1) 25 [.string ⟨#[]⟩, .slice none 0 0]) /\ Hid (Below w.heap.size w wr)) (fun iv _=>n-(intOf iv).toNat)
 case atStart=>exact⟨0,0,fun _=>0,fun _=>⟨#[]⟩,none,0,⟨Nat.zero_le _,Nat.zero_le _⟩,rfl,IZ.zero _ _,M,lH (IW.nil _ _ _ _),lH (fun g V=>by simp[Value.ownBlock] at V),G,E⟩
 case round=>
  clear M G E;obtain⟨i,q,d,f,B,Y,ba,rfl,bb,M,U,LB,G,E⟩:=hrel;have a8:=lH bb;have b6:=lH ba;clear bb ba;by_cases bl:i<n
  ·by_cases aN:i<l
   ·have a1:=lH bl;have an:=lH aN;obtain⟨gA,oA,rfl,b9⟩:=bj.o.at_ oM;have bc:=bk.o i aN;have kz:=cell_below E.o (b9 i aN);have br:=eF kz;clear b9;have ap:i<5:=by have:=ab.o;omega
    have ag:((i:Nat):Int)<(n:Nat):=oM
    have aO:((i:Nat):Int)<(l:Nat):=oM
    have aP:decide (((i:Nat):Int)<(n:Nat))=true:=decide_eq_true ag;obtain⟨zi,bd⟩:=eX (z i);rw[<- bd] at kz bc;clear bd;obtain⟨al,am⟩:=bc
    go_upto_region 5 with (fail)
    clear aP ag aO;go_wp2_with fail
    clear kz br;have HM:Hid (-3 <= zi.tmod 4 /\ zi.tmod 4 <= 3):=lH (by have h1:=Int.tmod_lt_of_pos zi (show(0:Int)<4 by decide);have h2:=Int.lt_tmod_of_pos zi (show(0:Int)<4 by decide);omega);obtain⟨m,hm⟩:=eX (zi.tmod 4);rw[<- hm] at HM ⊢;clear hm al am;refine(nL m (by have:=HM.o;omega) (by have:=HM.o;omega) _).mono ?_;rintro e w3 ⟨vk,rfl,hk,h⟩;obtain⟨sk,Ak,lk,ck,tk,Bk,mk,dk,rfl⟩:=hk.shape;have X:=lH hk;clear hk;replace M:=rW M h;replace G:=rW G h;replace U:=lH (U.o.below h);replace E:=bT E h;clear h;have bg:=M.o.lt;obtain⟨w4,ar⟩:=eX (w3.alloc (.cells #[.bool sk, .slice Ak lk ck, .bool tk, .slice Bk mk dk] 40));obtain⟨R,aj⟩:=eX (w3.heap.size);have af:Below w3.heap.size w3 w4:=by rw[ar];exact eD _ _
    have r:Hid (Row w4 R 40 [.bool sk, .slice Ak lk ck, .bool tk, .slice Bk mk dk]):=lH (by rw[ar,aj];exact eO _ _);replace M:=rW M af;replace G:=rW G af;replace U:=lH (U.o.below af);replace X:=lH (X.o.below af);replace E:=bT E af;have aw:Hid (R≠gF):=lH (by rw[aj];omega);have av:Hid (w.heap.size <= R):=lH (by have:=ae.o;rw[aj];omega);clear af bg
    go_upto_region 6 with (fail)
    rw[<- ar, <- aj];clear ar aj;by_cases h4:((i:Nat):Int)=4
    ·have aG:(((i:Nat):Int)==4)=true:=by simpa using h4
     have aH:decide (((i:Nat):Int)=4)=true:=by simpa using h4
     have aJ:decide (i=4)=true:=by simp;omega
     have aK:(i==4)=true:=by simp;omega
     have H4:=lH h4;clear h4
     go_upto_region 7 with (fail)
     clear aG aH aJ aK;have ax:Hid (w.heap.size+1≠R):=lH (by intro e;have h0:=G.o.ty (show Row _ (w.heap.size+1) _ _ from by rw[e];exact r.o);revert h0;decide)
     go_cut [38] (fun z wx=>∃ (s1:Bool) (A1:Option Addr) (l1 c1:Nat) (t1:Bool) (B1:Option Addr) (m1 d1:Nat),Hid (Row wx R 40 [.bool s1, .slice A1 l1 c1, .bool t1, .slice B1 m1 d1]) /\ Hid (eP wx (.agg #[.bool s1, .slice A1 l1 c1, .bool t1, .slice B1 m1 d1]) (((m:Int):Rat) / (((2:Int)):Rat))) /\ Hid (Row wx gF 25 [.string tc, .slice B q Y]) /\ Hid (Row wx (w.heap.size+1) 25 [.string ⟨#[]⟩, .slice none 0 0]) /\ Hid (IW wx (.slice B q Y) 126 2 q (cT d f)) /\ Hid (Below w.heap.size w wx))
     case first=>
      refine iC (fun w'=> w'.cell? ⟨R,0,none⟩=some (.bool sk) /\ w'.cell? ⟨R,1,none⟩=some (.slice Ak lk ck) /\ w'.cell? ⟨R,2,none⟩=some (.bool tk) /\ w'.cell? ⟨R,3,none⟩=some (.slice Bk mk dk)) (fun i=>decide (5 <= i)) kR ?_;obtain⟨y1,a5⟩:=eX (w4.drew);rw[<- a5];have h:Below w4.heap.size w4 y1:=by rw[a5];exact(Below.refl _ _).drew
      clear a5;replace M:=rW M h;replace G:=rW G h;replace r:=rW r h;replace U:=lH (U.o.below h);replace X:=lH (X.o.below h);replace E:=bT E h;have a2:=lH h;clear h;have O:=And.intro (r.o.at_ 0 rfl) (And.intro (r.o.at_ 1 rfl) (And.intro (r.o.at_ 2 rfl) (r.o.at_ 3 rfl)));refine tB 0 [0,2,3,4] (some 34) O ?_;refine rD 1 (fun K t=> ?_);go_simp;refine(nL 2 dC dC _).mono ?_;rintro e y2 ⟨v2,rfl,aR,h⟩;obtain⟨s2,A2,l2,c2,t2,B2,m2,d2,rfl⟩:=aR.shape;have V2:=lH aR;clear aR;replace M:=rW M h;replace G:=rW G h;replace r:=rW r h;replace U:=lH (U.o.below h);replace X:=lH (X.o.below h);replace E:=bT E h;clear h;clear O;have O:=And.intro (r.o.at_ 0 rfl) (And.intro (r.o.at_ 1 rfl) (And.intro (r.o.at_ 2 rfl) (r.o.at_ 3 rfl)));refine kH t O ?_;clear t K;refine rD 2 (fun K t=> ?_);go_simp;refine(Ev _ _ ((m:Int):Rat) (((2:Int)):Rat) _ X.o V2.o dC ((rM (k:=2) (by have:=HM.o;omega) dC).mono dC) ((rM (k:=2) dC dC).mono dC)).mono ?_;rintro e y3 ⟨vd,rfl,hd,h⟩;obtain⟨sd,Ad,ld,cd,td,Bd,md,dd,rfl⟩:=hd.shape;have VD:=lH hd;clear hd;replace M:=rW M h;replace G:=rW G h;replace r:=rW r h;replace U:=lH (U.o.below h);replace E:=bT E h;clear h;clear O;have O:=And.intro (r.o.at_ 0 rfl) (And.intro (r.o.at_ 1 rfl) (And.intro (r.o.at_ 2 rfl) (r.o.at_ 3 rfl)));refine kH t O ?_;clear t K;refine tKs 3 33 O ?_;refine iN (rs:=[4,5]) kR (by simp) (eY.cons rfl (fun K t=> ?_) (eY.cons rfl (fun K t=> ?_) eY.nil))
      ·go_simp;clear O;have O:=And.intro (r.o.at_ 0 rfl) (And.intro (r.o.at_ 1 rfl) (And.intro (r.o.at_ 2 rfl) (r.o.at_ 3 rfl)));refine kH t O ?_;clear t K;refine iN (rs:=[5,6]) kR (by simp) (eY.cons rfl (fun K t=> ?_) (eY.cons rfl (fun K t=> ?_) eY.nil))
       ·go_simp;refine kL t ?_;clear t K;refine rD 6 (fun K t=> ?_);obtain⟨q0,f0,q1,f1,q2,f2,q3,f3⟩:=aF4 r.o;have ql:=r.o.lt;go_simp;refine kL t ?_;clear t K;refine dN ?_ _;clear O;clear ql a2 q0 f0 q1 f1 q2 f2 q3 f3;have a9:=aw.o;have a0:=av.o;have ac:=ae.o;have V:World.grownBy y3 ((((y3.setCell ⟨R,0,none⟩ (.bool sd)).setCell ⟨R,1,none⟩ (.slice Ad ld cd)).setCell ⟨R,2,none⟩ (.bool td)).setCell ⟨R,3,none⟩ (.slice Bd md dd)) (some R):=gJ _ _ _ _ _ _ _ _ _ _;have t:=r.o.iJ (x:= .bool sd) (y:= .slice Ad ld cd) (z:= .bool td) (u:= .slice Bd md dd);have hF:=M.o.other V (fun e=>a9 e.symm);have Z:=G.o.other V (by have:=ax.o;omega);have hO:=U.o.other V r.o dC;have hV:=VD.o.other V r.o gM;have hB:=E.o.grown V E.o.size (by first | (simp;done) | (simp;omega));obtain⟨w8,aa⟩:=eX (((((y3.setCell ⟨R,0,none⟩ (.bool sd)).setCell ⟨R,1,none⟩ (.slice Ad ld cd)).setCell ⟨R,2,none⟩ (.bool td)).setCell ⟨R,3,none⟩ (.slice Bd md dd)));rw[<- aa] at t hF Z hO hV hB ⊢;clear aa V a9 a0 ac;go_wp2_with fail
        go_meet
        exact⟨_,_,_,_,_,_,_,_,lH t,lH hV,lH hF,lH Z,lH hO,lH hB⟩
       ·have q0:=aI 0 r;have f0:=r.o.free 0;have q1:=aI 1 r;have f1:=r.o.free 1;have q2:=aI 2 r;have f2:=r.o.free 2;have q3:=aI 3 r;have f3:=r.o.free 3;have ql:=r.o.lt;go_simp;refine kL t ?_;clear t K;refine rD 5 (fun K t=> ?_);go_simp;refine kL t ?_;clear t K;refine dN ?_ _;clear O;clear ql a2 q0 f0 q1 f1 q2 f2 q3 f3;have a9:=aw.o;have a0:=av.o;have ac:=ae.o;have V:World.grownBy y3 ((((y3.setCell ⟨R,0,none⟩ (.bool sd)).setCell ⟨R,1,none⟩ (.slice Ad ld cd)).setCell ⟨R,2,none⟩ (.bool td)).setCell ⟨R,3,none⟩ (.slice Bd md dd)) (some R):=gJ _ _ _ _ _ _ _ _ _ _;have t:=r.o.iJ (x:= .bool sd) (y:= .slice Ad ld cd) (z:= .bool td) (u:= .slice Bd md dd);have hF:=M.o.other V (fun e=>a9 e.symm);have Z:=G.o.other V (by have:=ax.o;omega);have hO:=U.o.other V r.o dC;have hV:=VD.o.other V r.o gM;have hB:=E.o.grown V E.o.size (by first | (simp;done) | (simp;omega));obtain⟨w8,aa⟩:=eX (((((y3.setCell ⟨R,0,none⟩ (.bool sd)).setCell ⟨R,1,none⟩ (.slice Ad ld cd)).setCell ⟨R,2,none⟩ (.bool td)).setCell ⟨R,3,none⟩ (.slice Bd md dd)));rw[<- aa] at t hF Z hO hV hB ⊢;clear aa V a9 a0 ac;go_wp2_with fail
        go_meet
        exact⟨_,_,_,_,_,_,_,_,lH t,lH hV,lH hF,lH Z,lH hO,lH hB⟩
      ·go_simp;refine kL t ?_;clear t K;refine rD 4 (fun K t=> ?_);go_simp;clear O;have O:=And.intro (r.o.at_ 0 rfl) (And.intro (r.o.at_ 1 rfl) (And.intro (r.o.at_ 2 rfl) (r.o.at_ 3 rfl)));refine kH t O ?_;clear t K;refine rD 6 (fun K t=> ?_);obtain⟨q0,f0,q1,f1,q2,f2,q3,f3⟩:=aF4 r.o;have ql:=r.o.lt;go_simp;refine kL t ?_;clear t K;refine dN ?_ _;clear O;clear ql a2 q0 f0 q1 f1 q2 f2 q3 f3;have a9:=aw.o;have a0:=av.o;have ac:=ae.o;have V:World.grownBy y3 ((((y3.setCell ⟨R,0,none⟩ (.bool sd)).setCell ⟨R,1,none⟩ (.slice Ad ld cd)).setCell ⟨R,2,none⟩ (.bool td)).setCell ⟨R,3,none⟩ (.slice Bd md dd)) (some R):=gJ _ _ _ _ _ _ _ _ _ _;have t:=r.o.iJ (x:= .bool sd) (y:= .slice Ad ld cd) (z:= .bool td) (u:= .slice Bd md dd);have hF:=M.o.other V (fun e=>a9 e.symm);have Z:=G.o.other V (by have:=ax.o;omega);have hO:=U.o.other V r.o dC;have hV:=VD.o.other V r.o gM;have hB:=E.o.grown V E.o.size (by first | (simp;done) | (simp;omega));obtain⟨w8,aa⟩:=eX (((((y3.setCell ⟨R,0,none⟩ (.bool sd)).setCell ⟨R,1,none⟩ (.slice Ad ld cd)).setCell ⟨R,2,none⟩ (.bool td)).setCell ⟨R,3,none⟩ (.slice Bd md dd)));rw[<- aa] at t hF Z hO hV hB ⊢;clear aa V a9 a0 ac;go_wp2_with fail
       go_meet
       exact⟨_,_,_,_,_,_,_,_,lH t,lH hV,lH hF,lH Z,lH hO,lH hB⟩
     case rest=>
      clear r M G U X E;obtain⟨sd,Ad,ld,cd,td,Bd,md,dd,r,X,M,G,U,E⟩:=hcut;obtain⟨w8,rfl⟩:=eX (wc)
      go_upto_region 8 with (fail)
      obtain⟨x,hx⟩:=eX (((m:Int):Rat) / (((2:Int)):Rat));rw[<- hx] at X;have ai:Hid (Half 6 x):=lH (by rw[hx];exact(Half.mono (Half.Jq (B:=3) m (by have:=HM.o;omega)) dC));clear hx;obtain⟨aV,aY,b0,b1⟩:=aT4 r.o;have b4:=r.o.lt;go_wp2_with fail
      clear aV aY b0 b1 b4;refine(fQ _ x _ X.o).mono ?_;rintro e w5 ⟨rfl,h⟩;replace M:=rW M h;replace G:=rW G h;replace r:=rW r h;replace U:=lH (U.o.below h);replace X:=lH (X.o.below h);replace E:=bT E h;clear h;obtain⟨sg,a4⟩:=eX (sgI x.num);rw[<- a4];by_cases a6:sg=0
      ·have ak:(sg !=0)=false:=by simpa using a6
       clear a4;have ap:i<5:=by have:=ab.o;have:=a1.o;omega
       go_wp2_with fail
       go_roundw
       case rel=>exact⟨i+1,q,d,f,B,Y,⟨a1.o,an.o⟩,by simp,a8.o.skip,M,U,LB,G,E⟩
       case measure=>first | (simp[intOf];done) | (simp[intOf];have:=a1.o;omega)
      ·have ak:(sg !=0)=true:=by simpa using a6
       have aA:Hid (x≠0):=lH (by intro e;rw[e] at a4;exact a6 (a4.trans dC));clear a4
       go_upto_region 9 with (fail)
       clear ak a6;refine iC (fun w'=> w'.cell? ⟨gF,1,none⟩=some (.slice B q Y) /\ w'.cell? ⟨R,0,none⟩=some (.bool sd) /\ w'.cell? ⟨R,1,none⟩=some (.slice Ad ld cd) /\ w'.cell? ⟨R,2,none⟩=some (.bool td) /\ w'.cell? ⟨R,3,none⟩=some (.slice Bd md dd)) (fun i=>decide (7 <= i)) kR ?_;obtain⟨bs,a5⟩:=eX (w5.drew);rw[<- a5];have h:Below w5.heap.size w5 bs:=by rw[a5];exact(Below.refl _ _).drew
       clear a5;replace M:=rW M h;replace G:=rW G h;replace r:=rW r h;replace U:=lH (U.o.below h);replace X:=lH (X.o.below h);replace E:=bT E h;have a2:=lH h;clear h;have O:=And.intro (M.o.at_ 1 rfl) (And.intro (r.o.at_ 0 rfl) (And.intro (r.o.at_ 1 rfl) (And.intro (r.o.at_ 2 rfl) (r.o.at_ 3 rfl))));refine tKs 0 42 O ?_;refine tKs 1 43 O ?_;refine tB 2 [2,5,6] (some 44) O ?_;refine tKs 3 45 O ?_;refine rD 4 (fun K t=> ?_);go_simp;refine(jE _ x 1000000 _ X.o ((ai.o.rl dC).mono dC) (Nat.le_refl _) (ay.o.below E.o)).mono ?_;rintro e au ⟨rfl,h⟩;obtain⟨tx,ad⟩:∃y:ByteArray,y=eB x:=⟨_,rfl⟩
       rw[<- ad];have az:=lH ad;clear ad;replace M:=rW M h;replace G:=rW G h;replace r:=rW r h;replace U:=lH (U.o.below h);replace E:=bT E h;replace a2:=bT a2 h;clear h;clear O;have O:=And.intro (M.o.at_ 1 rfl) (And.intro (r.o.at_ 0 rfl) (And.intro (r.o.at_ 1 rfl) (And.intro (r.o.at_ 2 rfl) (r.o.at_ 3 rfl))));refine kH t O ?_;clear t K;refine tKs 5 47 O ?_;refine rD 6 (fun K t=> ?_);go_simp;obtain⟨gt,a0⟩:=eX (au.heap.size);obtain⟨be,a7⟩:=eX (au.alloc (.cells #[.int .i64 i, .string tx] 126));have h:Below au.heap.size au be:=by rw[a7];exact eD _ _
       have RT:Hid (Row be gt 126 [.int .i64 i, .string tx]):=lH (by rw[a7,a0];exact eO _ _);have bh:Hid (w5.heap.size <= gt):=lH (by rw[a0];exact a2.o.size);rw[<- a7, <- a0];clear a7 a0;replace M:=rW M h;replace G:=rW G h;replace r:=rW r h;replace U:=lH (U.o.below h);replace E:=bT E h;clear h;clear O;have O:=And.intro (M.o.at_ 1 rfl) (And.intro (r.o.at_ 0 rfl) (And.intro (r.o.at_ 1 rfl) (And.intro (r.o.at_ 2 rfl) (r.o.at_ 3 rfl))));refine kH t O ?_;clear t K;refine rD 7 (fun K t=> ?_);rw[if_pos (by rfl)];obtain⟨iT,aM,aT,al,am⟩:=info_parts Jf;refine J7 _ (.tmp 43) (.tmp 48) 23 rfl 126 iT _ 2 24 underlying23 aM aT al am rfl dC (.slice B q Y) q (cT d f) (cT (upd d q ((i:Nat):Int)) (upd f q tx)) rfl U.o [.int .i64 i, .string tx] rfl (fun k hk j hj=>Jg k hk j hj) (fun j hj=>Jh j hj) (fun y hy=>by simp only[List.mem_cons,List.not_mem_nil,or_false] at hy;rcases hy with rfl | rfl <;> rfl) gt RT.o rfl (by have:=a8.o.few;have:=ab.o;have:=a1.o;unfold maxLen;omega) ?_;intro va bf ho ht;obtain⟨B2,b2,rfl,_,_⟩:=ho.shape;have a3:=lH (M.o.turned ht (U.o.ne M.o dC));have aD:=lH (G.o.turned ht (U.o.ne G.o dC));have aB:=lH (ht.base E.o.size LB.o);have ah:=lH (E.o.trans (ht.below (B:=w.heap.size) E.o.size LB.o));have aC:=lH ho;clear ho ht;refine kL t ?_;clear t K;refine tWs 8 50 ?_;refine rD 9 (fun K t=> ?_);have q1:=aI 1 a3;have f1:=a3.o.free 1;have ql:=a3.o.lt;go_simp;refine kL t ?_;clear t K;refine dN ?_ _;clear O;clear q1 f1 ql;have ac:=ae.o;have V:World.grownBy bf (bf.setCell ⟨gF,1,none⟩ (.slice B2 (q+1) b2)) (some gF):=grownBy_set _ _ _ _;have hF:=a3.o.set 1 (.slice B2 (q+1) b2);have hO:=aC.o.other V a3.o dC;have Z:=aD.o.other V oM;have hB:=ah.o.grown V ah.o.size (by first | (simp;done) | (simp;omega));have ap:i<5:=by have:=ab.o;have:=a1.o;omega
       go_wp2_with fail
       go_roundw
       case rel=>exact⟨i+1,q+1,upd d q ((i:Nat):Int),upd f q tx,B2,b2,⟨a1.o,an.o⟩,by simp,by rw[az.o];exact a8.o.more aA.o ai.o,lH hF,lH hO,aB,lH Z,lH hB⟩
       case measure=>first | (simp[intOf];done) | (simp[intOf];have:=a1.o;omega)
    ·have aG:(((i:Nat):Int)==4)=false:=by simpa using h4
     have aH:decide (((i:Nat):Int)=4)=false:=by simpa using h4
     have aJ:decide (i=4)=false:=by simp;omega
     have aK:(i==4)=false:=by simp;omega
     have H4:=lH h4;clear h4
     go_upto_region 8 with (fail)
     clear aG aH aJ aK;obtain⟨x,hx⟩:=eX (((m:Int):Rat));rw[<- hx] at X;have ai:Hid (Half 6 x):=lH (by rw[hx];exact(Half.mono (Half.int (B:=3) m (by have:=HM.o;omega)) dC));clear hx;obtain⟨aV,aY,b0,b1⟩:=aT4 r.o;have b4:=r.o.lt;go_wp2_with fail
     clear aV aY b0 b1 b4;refine(fQ _ x _ X.o).mono ?_;rintro e w5 ⟨rfl,h⟩;replace M:=rW M h;replace G:=rW G h;replace r:=rW r h;replace U:=lH (U.o.below h);replace X:=lH (X.o.below h);replace E:=bT E h;clear h;obtain⟨sg,a4⟩:=eX (sgI x.num);rw[<- a4];by_cases a6:sg=0
     ·have ak:(sg !=0)=false:=by simpa using a6
      clear a4;have ap:i<5:=by have:=ab.o;have:=a1.o;omega
      go_wp2_with fail
      go_roundw
      case rel=>exact⟨i+1,q,d,f,B,Y,⟨a1.o,an.o⟩,by simp,a8.o.skip,M,U,LB,G,E⟩
      case measure=>first | (simp[intOf];done) | (simp[intOf];have:=a1.o;omega)
     ·have ak:(sg !=0)=true:=by simpa using a6
      have aA:Hid (x≠0):=lH (by intro e;rw[e] at a4;exact a6 (a4.trans dC));clear a4
      go_upto_region 9 with (fail)
      clear ak a6;refine iC (fun w'=> w'.cell? ⟨gF,1,none⟩=some (.slice B q Y) /\ w'.cell? ⟨R,0,none⟩=some (.bool sk) /\ w'.cell? ⟨R,1,none⟩=some (.slice Ak lk ck) /\ w'.cell? ⟨R,2,none⟩=some (.bool tk) /\ w'.cell? ⟨R,3,none⟩=some (.slice Bk mk dk)) (fun i=>decide (7 <= i)) kR ?_;obtain⟨y1,a5⟩:=eX (w5.drew);rw[<- a5];have h:Below w5.heap.size w5 y1:=by rw[a5];exact(Below.refl _ _).drew
      clear a5;replace M:=rW M h;replace G:=rW G h;replace r:=rW r h;replace U:=lH (U.o.below h);replace X:=lH (X.o.below h);replace E:=bT E h;have a2:=lH h;clear h;have O:=And.intro (M.o.at_ 1 rfl) (And.intro (r.o.at_ 0 rfl) (And.intro (r.o.at_ 1 rfl) (And.intro (r.o.at_ 2 rfl) (r.o.at_ 3 rfl))));refine tKs 0 42 O ?_;refine tKs 1 43 O ?_;refine tB 2 [2,5,6] (some 44) O ?_;refine tKs 3 45 O ?_;refine rD 4 (fun K t=> ?_);go_simp;refine(jE _ x 1000000 _ X.o ((ai.o.rl dC).mono dC) (Nat.le_refl _) (ay.o.below E.o)).mono ?_;rintro e y2 ⟨rfl,h⟩;obtain⟨tx,ad⟩:∃y:ByteArray,y=eB x:=⟨_,rfl⟩
      rw[<- ad];have az:=lH ad;clear ad;replace M:=rW M h;replace G:=rW G h;replace r:=rW r h;replace U:=lH (U.o.below h);replace E:=bT E h;replace a2:=bT a2 h;clear h;clear O;have O:=And.intro (M.o.at_ 1 rfl) (And.intro (r.o.at_ 0 rfl) (And.intro (r.o.at_ 1 rfl) (And.intro (r.o.at_ 2 rfl) (r.o.at_ 3 rfl))));refine kH t O ?_;clear t K;refine tKs 5 47 O ?_;refine rD 6 (fun K t=> ?_);go_simp;obtain⟨gt,a0⟩:=eX (y2.heap.size);obtain⟨y3,a7⟩:=eX (y2.alloc (.cells #[.int .i64 i, .string tx] 126));have h:Below y2.heap.size y2 y3:=by rw[a7];exact eD _ _
      have RT:Hid (Row y3 gt 126 [.int .i64 i, .string tx]):=lH (by rw[a7,a0];exact eO _ _);have bh:Hid (w5.heap.size <= gt):=lH (by rw[a0];exact a2.o.size);rw[<- a7, <- a0];clear a7 a0;replace M:=rW M h;replace G:=rW G h;replace r:=rW r h;replace U:=lH (U.o.below h);replace E:=bT E h;clear h;clear O;have O:=And.intro (M.o.at_ 1 rfl) (And.intro (r.o.at_ 0 rfl) (And.intro (r.o.at_ 1 rfl) (And.intro (r.o.at_ 2 rfl) (r.o.at_ 3 rfl))));refine kH t O ?_;clear t K;refine rD 7 (fun K t=> ?_);rw[if_pos (by rfl)];obtain⟨iT,aM,aT,al,am⟩:=info_parts Jf;refine J7 _ (.tmp 43) (.tmp 48) 23 rfl 126 iT _ 2 24 underlying23 aM aT al am rfl dC (.slice B q Y) q (cT d f) (cT (upd d q ((i:Nat):Int)) (upd f q tx)) rfl U.o [.int .i64 i, .string tx] rfl (fun k hk j hj=>Jg k hk j hj) (fun j hj=>Jh j hj) (fun y hy=>by simp only[List.mem_cons,List.not_mem_nil,or_false] at hy;rcases hy with rfl | rfl <;> rfl) gt RT.o rfl (by have:=a8.o.few;have:=ab.o;have:=a1.o;unfold maxLen;omega) ?_;intro va y4 ho ht;obtain⟨B2,b2,rfl,_,_⟩:=ho.shape;have a3:=lH (M.o.turned ht (U.o.ne M.o dC));have aD:=lH (G.o.turned ht (U.o.ne G.o dC));have aB:=lH (ht.base E.o.size LB.o);have ah:=lH (E.o.trans (ht.below (B:=w.heap.size) E.o.size LB.o));have aC:=lH ho;clear ho ht;refine kL t ?_;clear t K;refine tWs 8 50 ?_;refine rD 9 (fun K t=> ?_);have q1:=aI 1 a3;have f1:=a3.o.free 1;have ql:=a3.o.lt;go_simp;refine kL t ?_;clear t K;refine dN ?_ _;clear O;clear q1 f1 ql;have ac:=ae.o;have V:World.grownBy y4 (y4.setCell ⟨gF,1,none⟩ (.slice B2 (q+1) b2)) (some gF):=grownBy_set _ _ _ _;have hF:=a3.o.set 1 (.slice B2 (q+1) b2);have hO:=aC.o.other V a3.o dC;have Z:=aD.o.other V oM;have hB:=ah.o.grown V ah.o.size (by first | (simp;done) | (simp;omega));have ap:i<5:=by have:=ab.o;have:=a1.o;omega
      go_wp2_with fail
      go_roundw
      case rel=>exact⟨i+1,q+1,upd d q ((i:Nat):Int),upd f q tx,B2,b2,⟨a1.o,an.o⟩,by simp,by rw[az.o];exact a8.o.more aA.o ai.o,lH hF,lH hO,aB,lH Z,lH hB⟩
      case measure=>first | (simp[intOf];done) | (simp[intOf];have:=a1.o;omega)
   ·have ag:((i:Nat):Int)<(n:Nat):=oM
    have aP:decide (((i:Nat):Int)<(n:Nat))=true:=decide_eq_true ag;have aO:¬((i:Nat):Int)<(l:Nat):=oM
    have bu:decide (((i:Nat):Int)<(l:Nat))=false:=decide_eq_false aO;obtain⟨aU,aX⟩:=aT2 M.o;have b3:=M.o.lt;obtain⟨aW,aE,aZ,aF⟩:=aF2 G.o;have b5:=G.o.lt;go_wp2_with fail
    clear aW aZ aE aF b5 aU aX b3;have V:World.grownBy wr ((wr.setCell ⟨w.heap.size+1,0,none⟩ (.string tc)).setCell ⟨w.heap.size+1,1,none⟩ (.slice B q Y)) (some (w.heap.size+1)):=iP _ _ _ _ _ _;have Z:=(G.o.set 0 (.string tc)).set 1 (.slice B q Y);have hT:=U.o.ttn.other V G.o dC;have hB:=E.o.grown V E.o.size (by first | (simp;done) | (simp;omega));obtain⟨wE,aS⟩:=eX ((wr.setCell ⟨w.heap.size+1,0,none⟩ (.string tc)).setCell ⟨w.heap.size+1,1,none⟩ (.slice B q Y));rw[<- aS] at Z hT hB ⊢;have k0:=Z.at_ 0 rfl;have k1:=Z.at_ 1 rfl;refine bodyPost_ret (v:= .agg #[.string tc, .slice B q Y]) (by simp[results,results65,go_sem,k0,k1]) rfl ?_;exact⟨⟨tc,q,d,f⟩,B,Y,rfl,hT,a8.o.ok b6.o.1 tc,b8.o,hB⟩
  ·have ag:¬((i:Nat):Int)<(n:Nat):=oM
   have aP:decide (((i:Nat):Int)<(n:Nat))=false:=decide_eq_false ag;obtain⟨aU,aX⟩:=aT2 M.o;have b3:=M.o.lt;obtain⟨aW,aE,aZ,aF⟩:=aF2 G.o;have b5:=G.o.lt;go_wp2_with fail
   clear aW aZ aE aF b5 aU aX b3;have V:World.grownBy wr ((wr.setCell ⟨w.heap.size+1,0,none⟩ (.string tc)).setCell ⟨w.heap.size+1,1,none⟩ (.slice B q Y)) (some (w.heap.size+1)):=iP _ _ _ _ _ _;have Z:=(G.o.set 0 (.string tc)).set 1 (.slice B q Y);have hT:=U.o.ttn.other V G.o dC;have hB:=E.o.grown V E.o.size (by first | (simp;done) | (simp;omega));obtain⟨wE,aS⟩:=eX ((wr.setCell ⟨w.heap.size+1,0,none⟩ (.string tc)).setCell ⟨w.heap.size+1,1,none⟩ (.slice B q Y));rw[<- aS] at Z hT hB ⊢;have k0:=Z.at_ 0 rfl;have k1:=Z.at_ 1 rfl;refine bodyPost_ret (v:= .agg #[.string tc, .slice B q Y]) (by simp[results,results65,go_sem,k0,k1]) rfl ?_;exact⟨⟨tc,q,d,f⟩,B,Y,rfl,hT,a8.o.ok b6.o.1 tc,b8.o,hB⟩
end Go.Proofs.YtokagbahdkfagaaGreatDoor
