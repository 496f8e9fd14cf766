/- Parts of this proof: LCorIn. -/
import Derived.Test.YtokagbahdkfagaaGreatDoorMAE
import Derived.Test.YtokagbahdkfagaaGreatDoorMCG
import Derived.Test.YtokagbahdkfagaaGreatDoorMBL
import Derived.Test.YtokagbahdkfagaaGreatDoorMAY
namespace Go.Proofs.YtokagbahdkfagaaGreatDoor
open Go.Proofs.Tryz
open Go.RowKit
open Lp (RL upd eH)
theorem Mo(a:Rat):nJ a a=0:=by
 have h:¬a<a:=by grind
 unfold nJ;rw[if_neg h,if_pos rfl]
theorem Lr{P:Prb}{F:Frm}{g:Int}(E:POk P)(h:TOk (P.n:Nat) F)(r:g=1 \/ g= -1){j:Nat}(t:j<P.n):RL 11 (L6 P F g j):=by
 have G:=E.dim j t;rw[Lc h r];split
 ·exact rM (k:=11) oM dC
 ·exact rM (k:=11) oM dC
theorem Mq{n:Nat}{P:Prb}{F:Frm}{j:Nat}{E t:Int}(G:TOk (n:Nat) F)(r:E=sgI (iw F F.N j).num)(h:t=if 0<E then P.a j+P.u j else P.a j+P.l j):L6 P F 1 j=((t:Int):Rat):=by
 rw[Lc G (.inl rfl),h, <- r]
 rcases Lg (iw F F.N j) with ⟨_,e⟩ | ⟨_,e⟩ | ⟨_,e⟩ <;> rw[r,e]
 ·rw[if_pos rfl,if_pos dC]
 ·rw[if_neg dC,if_neg dC]
 ·rw[if_neg dC,if_neg dC]
theorem Mr{n:Nat}{P:Prb}{F:Frm}{j:Nat}{t lv:Int}(E:TOk (n:Nat) F)(r:t=sgI (iw F F.N j).num)(h:lv=if t<0 then P.a j+P.u j else P.a j+P.l j):L6 P F (-1) j=((lv:Int):Rat):=by
 rw[Lc E (.inr rfl),h, <- r]
 rcases Lg (iw F F.N j) with ⟨_,e⟩ | ⟨_,e⟩ | ⟨_,e⟩ <;> rw[r,e]
 ·rw[if_neg dC,if_neg dC]
 ·rw[if_neg dC,if_neg dC]
 ·rw[if_pos rfl,if_pos dC]
theorem LW(P:Prb)(F:Frm)(g:Int):uI F (fun j=>eB (L6 P F g j))=eB (fw F (L6 P F g) F.N):=by
 unfold uI;rw[show(fun j=>qof (eB (L6 P F g j)))=L6 P F g from funext fun j=>zo _]
theorem LZ{P:Prb}{F:Frm}(r:POk P){K:Nat}(hF:∀j,RL K (iw F F.N j)):∀k,k <= P.n -> RL (1+k* (K+12)) (L9 P F k):=by
 intro k
 induction k with
 | zero=>intro _;show RL _ 0;exact Lp.RL.zero.mono oM
 | succ k t=>
  intro G;have E:=r.dim k oM;have h1:RL K (if iw F F.N k<0 then -iw F F.N k else iw F F.N k):=Ls (hF k);have h:RL 11 ((P.u k-P.l k:Int):Rat):=rM (k:=11) oM dC;rw[L9];exact((t oM).add (h1.mul h)).mono (by rw[Nat.succ_mul];omega)
set_option maxRecDepth 100000 in
set_option maxHeartbeats 12800000 in
theorem Ms{em:Nat}(P:Prb)(F:Frm)(A C XA XB:Option Addr)(cA cC af ag gP gK gW:Nat)(w W w9:World)(hP:ChP em P)(aK:IX P.n F)(aN:TOk (P.n:Nat) F)(aM:Row W gP 58 [.slice A P.n cA, .slice C P.m cC])(aL:PIn W (.slice A P.n cA) (.slice C P.m cC) P)
  (aO:TS W (.slice XA P.n af) P.n (fun j=>eB (L6 P F 1 j))) (aP:TS W (.slice XB P.n ag) P.n (fun j=>eB (L6 P F (-1) j))) (aG:RB W gK P.n (iw F F.N)) (aF:AtQ w9 gW (L9 P F 0)) (aJ:W.heap.size <= gW) (aH:w.heap.size <= gW) (hW:Below W.heap.size W w9) (hB:Below w.heap.size w w9) (hT:Tab w)
  (aW aX g5 cU d7 dl dQ aY fl fL g3 b8 bj bv bI bV c8 cm cz cB cE cG cH cI cJ cK cL cM cN cO cP cQ cR cS cV cW cX cY cZ d0 d3 d4 d5 d6 d8 d9 db dc de df dh di dj dk dm dn dq ds dt du dy dz dB dD dE dF dG dH dI dJ dK dM dO dP dR dS dT dW dX dY g6 g7 g8 g9 ga gb gc gd ge gf gg gh gi gj en eo ep er es et ev ew ex ey ez eA eC eE eI eJ eK eL eM eN eR eS eU eV eW f4 f5 f7 f8 f9 fa fb fc fd ff fg fh fi fj fk fm fn fp fr fs ft fv fx fy fz fN fR fS fT fW fX fY g0 g1 g2 g4 aZ b0 b1 b2 b3 b4 b5 b6 b7 b9 ba bb bc bd be bf bg bh bi bk bl bm bn bo bp bq br bs bu bw bx bz bA bB bC bE bF bG bH bJ bK bL bM bO bP bQ bR bS bU bW bX bY bZ c0 c3 c4 c5 c6 c7 c9 cb cc ce cf ch ci cj ck cl cn co cq ct cu cv cy:Value) (R:Act -> World -> Prop) (hQ:∀ (hX h4 hm hD hU hY hZ i0 i1 i2 i3 i4 i5 i6 i7 i8 i9 ia id gk gl gn gp gq gs gt gv gw gx gC gD gE gF gH gI gL gN gO gQ gR gS gT gV gY gZ h0 h1 h2 h3 h5 h6 h7 h8 h9 hc he hf hk hl hn ho hq hs ht hu hw hx hy hC hE hF hG hI hJ hL hM hO hR hS hV:Value) (w':World),AtQ w' gW (L9 P F P.n) -> Below W.heap.size W w' -> Below w.heap.size w w' -> R ⟨(aW::aX::hX:: .pointer (some ⟨gP,0,none⟩)::cU::d7::dl:: .slice XA P.n af::dQ:: .slice XB P.n ag::aY:: .slice (some ⟨gK,0,none⟩) P.n P.n:: .pointer (some ⟨gW,0,none⟩)::h4::hm::hD::hU::b8::bj::bv::bI::bV::c8::cm::cz::cB::cE::cG::cH::cI::cJ::cK::cL::cM::cN::cO::cP::cQ::cR::cS::cV::cW::cX::cY::cZ::d0::d3::d4::d5::d6::d8::d9::db::dc::de::df::dh::di::dj::dk::dm::dn::dq::ds::dt::du::dy::dz::dB::dD::dE::dF::dG::dH::dI::dJ::dK::dM::dO::dP::dR::dS::dT::dW::dX::dY::hY::hZ::i0::i1::i2::i3::i4::i5::i6::i7::i8::i9::ia::id::gk::gl::gn::gp::gq::gs::gt::gv::gw::gx::gC::gD::gE::gF::gH::gI::gL::gN::gO::gQ::gR::gS::gT::gV::gY::gZ::h0::h1::h2::h3::h5::h6::h7::h8::h9::hc::he::hf::hk::hl::hn::ho::hq::hs::ht::hu::hw::hx::hy::hC::hE::hF::hG::hI::hJ::hL::hM::hO::hR::hS::hV::aZ::b0::b1::b2::b3::b4::b5::b6::b7::b9::ba::bb::bc::bd::be::bf::bg::bh::bi::bk::bl::bm::bn::bo::bp::bq::br::bs::bu::bw::bx::bz::bA::bB::bC::bE::bF::bG::bH::bJ::bK::bL::bM::bO::bP::bQ::bR::bS::bU::bW::bX::bY::bZ::c0::c3::c4::c5::c6::c7::c9::cb::cc::ce::cf::ch::ci::cj::ck::cl::cn::co::cq::ct::cu::cv::cy:: []).toArray,[]⟩ w'):
  Code.wp prog (cdR (cdL (cdR (cdR (cdR (cdR (cdR (cdB (cdL (cdR (cdB (cdB (cdR (cdL (cdR (cdR (cdR (cdR (cdR (Tryz.f6.body.getD .skip)))))))))))))))))))) (Lm R) ⟨(aW::aX::g5:: .pointer (some ⟨gP,0,none⟩)::cU::d7::dl:: .slice XA P.n af::dQ:: .slice XB P.n ag::aY:: .slice (some ⟨gK,0,none⟩) P.n P.n:: .pointer (some ⟨gW,0,none⟩):: .int .i64 0::fl::fL::g3::b8::bj::bv::bI::bV::c8::cm::cz::cB::cE::cG::cH::cI::cJ::cK::cL::cM::cN::cO::cP::cQ::cR::cS::cV::cW::cX::cY::cZ::d0::d3::d4::d5::d6::d8::d9::db::dc::de::df::dh::di::dj::dk::dm::dn::dq::ds::dt::du::dy::dz::dB::dD::dE::dF::dG::dH::dI::dJ::dK::dM::dO::dP::dR::dS::dT::dW::dX::dY::g6::g7::g8::g9::ga::gb::gc::gd::ge::gf::gg::gh::gi::gj::en::eo::ep::er::es::et::ev::ew::ex::ey::ez::eA::eC::eE::eI::eJ::eK::eL::eM::eN::eR::eS::eU::eV::eW::f4::f5::f7::f8::f9::fa::fb::fc::fd::ff::fg::fh::fi::fj::fk::fm::fn::fp::fr::fs::ft::fv::fx::fy::fz::fN::fR::fS::fT::fW::fX::fY::g0::g1::g2::g4::aZ::b0::b1::b2::b3::b4::b5::b6::b7::b9::ba::bb::bc::bd::be::bf::bg::bh::bi::bk::bl::bm::bn::bo::bp::bq::br::bs::bu::bw::bx::bz::bA::bB::bC::bE::bF::bG::bH::bJ::bK::bL::bM::bO::bP::bQ::bR::bS::bU::bW::bX::bY::bZ::c0::c3::c4::c5::c6::c7::c9::cb::cc::ce::cf::ch::ci::cj::ck::cl::cn::co::cq::ct::cu::cv::cy:: []).toArray,[]⟩ w9:=by
 have HP:=lH hP;have e4:=lH aK;have aC:=lH aN;have RP:=lH aM;have e5:=lH aL;have e9:=lH aO;have ea:=lH aP;have ae:=lH aG;have O:=lH aF;have e2:=lH aJ;have e1:=lH aH;have t:=lH hW;have M:=lH hB;have aB:=lH hT;have e6:=lH hQ;clear hP aK aN aM aL aO aP aG aF aJ aH hW hB hT hQ;have ay:Hid (POk P):=lH (zw HP.o.check);have ax:Hid (P.n <= 5):=lH HP.o.n5
 conv=>arg 2;whnf
 go_wp2_with fail
 go_loopw [13] (fun iv wr=>∃ (j:Nat),j <= P.n /\ iv= .int .i64 j /\ Hid (AtQ wr gW (L9 P F j)) /\ Hid (Below W.heap.size W wr) /\ Hid (Below w.heap.size w wr)) (fun iv _=>P.n-(intOf iv).toNat)
 case atStart=>exact⟨0,Nat.zero_le _,rfl,O,t,M⟩
 case round=>
  clear O t M;obtain⟨j,hj,rfl,O,t,M⟩:=hrel;by_cases im:((j:Nat):Int)<(P.n:Nat)
  ·have Y:j<P.n:=oM
   have a5:=lH Y;have a1:=lH (ay.o.dim j Y);have ad:Hid (∀i,RL 20 (iw F F.N i)):=lH (fun i=>uE (fun i hi=>ig (e4.o.size i hi) dC) dC F.N (Nat.le_refl _) i);obtain⟨gA,oA,rfl,hA⟩:=e9.o.at_ oM;have e7:Hid (W.cell? ⟨gA,oA+j,none⟩=some (.string (eB (L6 P F 1 j)))):=lH (hA j Y);clear hA;obtain⟨gB,oB,rfl,hB⟩:=ea.o.at_ oM;have e8:Hid (W.cell? ⟨gB,oB+j,none⟩=some (.string (eB (L6 P F (-1) j)))):=lH (hB j Y);clear hB;obtain⟨ij,ip,rfl,a9⟩:=e5.o.1.at_ oM;have ej:=(RP.o.below t.o RP.o.lt).at_ 0 rfl;have el:=(RP.o.below t.o RP.o.lt).lt;have aV:=cell_below t.o (a9 j Y).1;have ef:=cell_below t.o (a9 j Y).2.1;have eg:=cell_below t.o (a9 j Y).2.2.1;have eh:=cell_below t.o (a9 j Y).2.2.2;have ei:=eF aV;clear a9;obtain⟨y3,ac⟩:=eX (wr.alloc (.cells #[.string (P.s j), .int .i64 (P.a j), .int .i64 (P.l j), .int .i64 (P.u j)] 76));obtain⟨gX,ah⟩:=eX (wr.heap.size);have ab:Below wr.heap.size wr y3:=by rw[ac];exact eD _ _
   have G:Hid (Row y3 gX 76 [.string (P.s j), .int .i64 (P.a j), .int .i64 (P.l j), .int .i64 (P.u j)]):=lH (by rw[ac,ah];exact eO _ _);replace O:=lH (O.o.below ab);replace M:=bT M ab;replace t:=lH (t.o.trans (ab.mono t.o.size));clear ab
   go_upto_region 19 with (fail)
   clear aV ef eg eh ei ej el;rw[<- ac, <- ah];clear ac ah
   go_cut [15,16] from 86 to 160 (fun va vb X=>va= .int .i64 (P.a j+P.l j) /\ vb= .int .i64 (P.a j+P.l j) /\ Hid (AtQ X gW (L9 P F j)) /\ Hid (Row X gX 76 [.string (P.s j), .int .i64 (P.a j), .int .i64 (P.l j), .int .i64 (P.u j)]) /\ Hid (Below W.heap.size W X) /\ Hid (Below w.heap.size w X))
   case first=>
    refine iC (fun w'=> w'.cell? ⟨gX,1,none⟩=some (.int .i64 (P.a j)) /\ w'.cell? ⟨gX,2,none⟩=some (.int .i64 (P.l j))) (fun i=>false) kR ?_;obtain⟨y1,a0⟩:=eX (y3.drew);rw[<- a0];have r:Below y3.heap.size y3 y1:=by rw[a0];exact(Below.refl _ _).drew
    clear a0;replace G:=rW G r;replace O:=lH (O.o.below r);replace t:=lH (t.o.trans (r.mono t.o.size));replace M:=bT M r;have Z:=lH r;clear r;have E:=And.intro (G.o.at_ 1 rfl) (G.o.at_ 2 rfl);refine tKs 0 97 E ?_;refine tKs 1 98 E ?_;refine tKs 2 99 E ?_;refine tKs 3 100 E ?_;refine jd (i:=4) (v:= .int .i64 (P.a j+P.l j)) (some 101) rfl (by rfl) kR kR kR kR (fun _ _ _ h=>h) (Or.inl ⟨by rfl,?_⟩) E ?_
    ·(intro w' a8;clear a8;go_simp;rw[IntKind.wrap_i64];have:=a1.o;omega)
    simp only[Act.put,List.setIfInBounds_toArray,List.set_cons_zero,List.set_cons_succ];refine tKs 5 102 E ?_;refine tKs 6 103 E ?_;refine tKs 7 104 E ?_;refine tKs 8 105 E ?_;refine jd (i:=9) (v:= .int .i64 (P.a j+P.l j)) (some 106) rfl (by rfl) kR kR kR kR (fun _ _ _ h=>h) (Or.inl ⟨by rfl,?_⟩) E ?_
    ·(intro w' a8;clear a8;go_simp;rw[IntKind.wrap_i64];have:=a1.o;omega)
    simp only[Act.put,List.setIfInBounds_toArray,List.set_cons_zero,List.set_cons_succ];refine tKs 10 15 E ?_;refine tKs 11 16 E ?_;refine dN ?_ _;clear E;go_wp2_with fail
    go_meet
    exact⟨rfl,rfl,O,G,t,M⟩
   case rest=>
    clear O G t M;obtain⟨rfl,rfl,O,G,t,M⟩:=hcut;obtain⟨y5,rfl⟩:=eX (wc)
    go_upto_region 20 with (fail)
    obtain⟨sz,aR⟩:=eX (sgI (iw F F.N j).num);have aa:=lH aR;clear aR;obtain⟨sx,Ax,lx,cx,tx,Bx,mx,dx,a2,a3⟩:=(ae.o.below t.o).fK Y;have T:=lH a2;have Vx:=lH a3;clear a2 a3;obtain⟨ao,ap,aq,ar⟩:=T.o;have au:=T.o.lt
    go_upto_if 112 with (go_at_call 31;refine(fQ _ (iw F F.N j) _ Vx.o).mono ?_;rintro e y6 ⟨rfl,r⟩;rw[<- aa.o])
    clear Vx T ao ap aq ar au;replace t:=lH (t.o.trans (r.mono t.o.size));replace G:=rW G r;replace O:=lH (O.o.below r);replace M:=bT M r;clear r
    go_cut [15] from 86 to 160 (fun va X=>∃hv:Int,va= .int .i64 hv /\ Hid (hv=if 0<sz then P.a j+P.u j else P.a j+P.l j) /\ Hid (AtQ X gW (L9 P F j)) /\ Hid (Row X gX 76 [.string (P.s j), .int .i64 (P.a j), .int .i64 (P.l j), .int .i64 (P.u j)]) /\ Hid (Below W.heap.size W X) /\ Hid (Below w.heap.size w X))
    case first=>
     by_cases hz:0<sz
     ·have al:=aI 1 G;have am:=aI 3 G;have an:=G.o.lt;have HZ:=lH hz;have ai:IntKind.i64.wrap (P.a j+P.u j)=P.a j+P.u j:=by rw[IntKind.wrap_i64];have:=a1.o;omega
      go_wp2_with fail
      clear ai al am an
      go_meet
      exact⟨_,rfl,lH (by rw[if_pos (by have:=HZ.o;omega)]),O,G,t,M⟩
     ·have HZ:=lH hz;go_wp2_with fail
      go_meet
      exact⟨_,rfl,lH (by rw[if_neg (by have:=HZ.o;omega)]),O,G,t,M⟩
    case rest=>
     clear O G t M;obtain⟨hv,rfl,aD,O,G,t,M⟩:=hcut;obtain⟨j2,rfl⟩:=eX (wc)
     go_upto_region 22 with (fail)
     obtain⟨sx,Ax,lx,cx,tx,Bx,mx,dx,a2,a3⟩:=(ae.o.below t.o).fK Y;have T:=lH a2;have Vx:=lH a3;clear a2 a3;obtain⟨ao,ap,aq,ar⟩:=T.o;have au:=T.o.lt
     go_upto_if 123 with (go_at_call 31;refine(fQ _ (iw F F.N j) _ Vx.o).mono ?_;rintro e y7 ⟨rfl,r⟩;rw[<- aa.o])
     clear Vx T ao ap aq ar au;replace t:=lH (t.o.trans (r.mono t.o.size));replace G:=rW G r;replace O:=lH (O.o.below r);replace M:=bT M r;clear r
     go_cut [16] from 86 to 160 (fun va X=>∃lv:Int,va= .int .i64 lv /\ Hid (lv=if sz<0 then P.a j+P.u j else P.a j+P.l j) /\ Hid (AtQ X gW (L9 P F j)) /\ Hid (Row X gX 76 [.string (P.s j), .int .i64 (P.a j), .int .i64 (P.l j), .int .i64 (P.u j)]) /\ Hid (Below W.heap.size W X) /\ Hid (Below w.heap.size w X))
     case first=>
      by_cases hz:sz<0
      ·have al:=aI 1 G;have am:=aI 3 G;have an:=G.o.lt;have HZ:=lH hz;have ai:IntKind.i64.wrap (P.a j+P.u j)=P.a j+P.u j:=by rw[IntKind.wrap_i64];have:=a1.o;omega
       go_wp2_with fail
       clear ai al am an
       go_meet
       exact⟨_,rfl,lH (by rw[if_pos (by have:=HZ.o;omega)]),O,G,t,M⟩
      ·have HZ:=lH hz;go_wp2_with fail
       go_meet
       exact⟨_,rfl,lH (by rw[if_neg (by have:=HZ.o;omega)]),O,G,t,M⟩
     case rest=>
      clear O G t M;obtain⟨lv,rfl,aE,O,G,t,M⟩:=hcut;obtain⟨aw,rfl⟩:=eX (wc);have dZ:Hid (L6 P F 1 j=((hv:Int):Rat)):=lH (Mq aC.o aa.o aD.o);have e0:Hid (L6 P F (-1) j=((lv:Int):Rat)):=lH (Mr aC.o aa.o aE.o);have a4:Hid ((-1000000 <= hv /\ hv <= 1000000) /\ (-1000000 <= lv /\ lv <= 1000000)):=lH (by have:=HP.o.dim j a5.o;rw[aD.o,aE.o];constructor <;> split <;> omega)
      go_upto_region 24 with (fail)
      obtain⟨t1,aS⟩:∃y:ByteArray,y=eB ((hv:Int):Rat):=⟨_,rfl⟩
      obtain⟨t2,aT⟩:∃y:ByteArray,y=eB ((lv:Int):Rat):=⟨_,rfl⟩
      skip
      have az:=lH aS;have aA:=lH aT;clear aS aT;have a6:Hid (W.cell? ⟨gA,oA+j,none⟩=some (.string t1)):=lH (by rw[az.o, <- dZ.o];exact e7.o);have a7:Hid (W.cell? ⟨gB,oB+j,none⟩=some (.string t2)):=lH (by rw[aA.o, <- e0.o];exact e8.o);refine iC (fun w'=> w'.cell? ⟨gA,oA+j,none⟩=some (.string t1) /\ w'.cell? ⟨gB,oB+j,none⟩=some (.string t2)) (fun i=>false) kR ?_;obtain⟨ie,a0⟩:=eX (aw.drew);rw[<- a0];have r:Below aw.heap.size aw ie:=by rw[a0];exact(Below.refl _ _).drew
      clear a0;replace G:=rW G r;replace O:=lH (O.o.below r);replace t:=lH (t.o.trans (r.mono t.o.size));replace M:=bT M r;have Z:=lH r;clear r;have E:=And.intro (cell_below t.o a6.o) (cell_below t.o a7.o);refine tKs 0 129 E ?_;refine tKs 1 130 E ?_;refine tKs 2 131 E ?_;refine tKs 3 132 E ?_;refine tKs 4 133 E ?_;refine rD 5 (fun K V=> ?_);go_simp;refine(nL (hv) (by have:=a4.o;omega) (by have:=a4.o;omega) _).mono ?_;rintro e iu ⟨ir,rfl,aj,r⟩;obtain⟨s1,A1,l1,c1,t1,B1,m1,d1,rfl⟩:=aj.shape;have eb:=lH aj;clear aj;replace G:=rW G r;replace O:=lH (O.o.below r);replace t:=lH (t.o.trans (r.mono t.o.size));replace M:=bT M r;replace Z:=bT Z r;clear r;clear E;have E:=And.intro (cell_below t.o a6.o) (cell_below t.o a7.o);refine kH V E ?_;clear V K;refine rD 6 (fun K V=> ?_);go_simp;refine(jE _ ((hv:Int):Rat) 20 _ eb.o ((rM (k:=11) (by have:=a4.o;omega) dC).mono dC) dC (aB.o.below M.o)).mono ?_;rintro e ix ⟨rfl,r⟩;rw[<- az.o];replace G:=rW G r;replace O:=lH (O.o.below r);replace t:=lH (t.o.trans (r.mono t.o.size));replace M:=bT M r;replace Z:=bT Z r;clear r;clear E;have E:=And.intro (cell_below t.o a6.o) (cell_below t.o a7.o);refine kH V E ?_;clear V K;refine tKs 7 136 E ?_;refine tKs 8 137 E ?_;refine tKs 9 138 E ?_;refine tKs 10 139 E ?_;refine tKs 11 140 E ?_;refine tKs 12 141 E ?_;refine tKs 13 142 E ?_;refine rD 14 (fun K V=> ?_);go_simp;refine(nL (lv) (by have:=a4.o;omega) (by have:=a4.o;omega) _).mono ?_;rintro e iz ⟨it,rfl,ak,r⟩;obtain⟨s2,A2,l2,c2,t2,B2,m2,d2,rfl⟩:=ak.shape;have ec:=lH ak;clear ak;replace G:=rW G r;replace O:=lH (O.o.below r);replace t:=lH (t.o.trans (r.mono t.o.size));replace M:=bT M r;replace Z:=bT Z r;clear r;clear E;have E:=And.intro (cell_below t.o a6.o) (cell_below t.o a7.o);refine kH V E ?_;clear V K;refine rD 15 (fun K V=> ?_);go_simp;refine(jE _ ((lv:Int):Rat) 20 _ ec.o ((rM (k:=11) (by have:=a4.o;omega) dC).mono dC) dC (aB.o.below M.o)).mono ?_;rintro e ih ⟨rfl,r⟩;rw[<- aA.o];replace G:=rW G r;replace O:=lH (O.o.below r);replace t:=lH (t.o.trans (r.mono t.o.size));replace M:=bT M r;replace Z:=bT Z r;clear r;clear E;have E:=And.intro (cell_below t.o a6.o) (cell_below t.o a7.o);refine kH V E ?_;clear V K;refine tKs 16 145 E ?_;refine tKs 17 146 E ?_;refine dN ?_ _;clear E
      go_upto_region 26 with (fail)
      clear Z;obtain⟨y8,rfl⟩:=eX (ih);obtain⟨sw,Aw,lw,cw,tw,Bw,mw,dw,ro,aQ⟩:=O.o;have U:=lH ro;have VW:=lH aQ;clear ro aQ O;obtain⟨sx,Ax,lx,cx,tx,Bx,mx,dx,a2,a3⟩:=(ae.o.below t.o).fK Y;have T:=lH a2;have Vx:=lH a3;clear a2 a3;refine iC (fun w'=> w'.cell? ⟨gW,0,none⟩=some (.bool sw) /\ w'.cell? ⟨gW,1,none⟩=some (.slice Aw lw cw) /\ w'.cell? ⟨gW,2,none⟩=some (.bool tw) /\ w'.cell? ⟨gW,3,none⟩=some (.slice Bw mw dw) /\ w'.cell? ⟨gK,j*4,none⟩=some (.bool sx) /\ w'.cell? ⟨gK,j*4+1,none⟩=some (.slice Ax lx cx) /\ w'.cell? ⟨gK,j*4+2,none⟩=some (.bool tx) /\ w'.cell? ⟨gK,j*4+3,none⟩=some (.slice Bx mx dx) /\ w'.cell? ⟨gX,3,none⟩=some (.int .i64 (P.u j)) /\ w'.cell? ⟨gX,2,none⟩=some (.int .i64 (P.l j))) (fun i=>decide (14 <= i)) kR ?_;obtain⟨ii,a0⟩:=eX (y8.drew);rw[<- a0];have r:Below y8.heap.size y8 ii:=by rw[a0];exact(Below.refl _ _).drew
      clear a0;replace G:=rW G r;replace U:=rW U r;replace VW:=lH (VW.o.below r);replace Vx:=lH (Vx.o.below r);replace T:=lH (T.o.below r);replace t:=lH (t.o.trans (r.mono t.o.size));replace M:=bT M r;have Z:=lH r;clear r;have E:=And.intro (U.o.at_ 0 rfl) (And.intro (U.o.at_ 1 rfl) (And.intro (U.o.at_ 2 rfl) (And.intro (U.o.at_ 3 rfl) (And.intro (T.o.1) (And.intro (T.o.2.1) (And.intro (T.o.2.2.1) (And.intro (T.o.2.2.2) (And.intro (G.o.at_ 3 rfl) (G.o.at_ 2 rfl)))))))));refine tKs 0 147 E ?_;refine tKs 1 148 E ?_;refine tKs 2 149 E ?_;refine tKs 3 150 E ?_;refine tKs 4 151 E ?_;refine tKs 6 153 E ?_;refine tKs 7 154 E ?_;refine tKs 8 155 E ?_;refine tKs 9 156 E ?_;refine jd (i:=10) (v:= .int .i64 (P.u j-P.l j)) (some 157) rfl (by rfl) kR kR kR kR (fun _ _ _ h=>h) (Or.inl ⟨by rfl,?_⟩) E ?_
      ·(intro w' a8;clear a8;go_simp;rw[IntKind.wrap_i64];have:=a1.o;omega)
      simp only[Act.put,List.setIfInBounds_toArray,List.set_cons_zero,List.set_cons_succ];refine rD 5 (fun K V=> ?_);go_simp;refine(Mj _ (iw F F.N j) _ Vx.o).mono ?_;rintro e iI ⟨va,rfl,ha,r⟩;obtain⟨sa,Aa,la,ca,ta,Ba,ma,da,rfl⟩:=ha.shape;have VA:=lH ha;clear ha;replace G:=rW G r;replace U:=rW U r;replace VW:=lH (VW.o.below r);replace T:=lH (T.o.below r);replace t:=lH (t.o.trans (r.mono t.o.size));replace M:=bT M r;clear r;clear E;have E:=And.intro (U.o.at_ 0 rfl) (And.intro (U.o.at_ 1 rfl) (And.intro (U.o.at_ 2 rfl) (And.intro (U.o.at_ 3 rfl) (And.intro (T.o.1) (And.intro (T.o.2.1) (And.intro (T.o.2.2.1) (And.intro (T.o.2.2.2) (And.intro (G.o.at_ 3 rfl) (G.o.at_ 2 rfl)))))))));refine kH V E ?_;clear V K;refine rD 11 (fun K V=> ?_);go_simp;refine(nL (P.u j-P.l j) (by have:=a1.o;omega) (by have:=a1.o;omega) _).mono ?_;rintro e iS ⟨vd,rfl,hd,r⟩;obtain⟨sd,Ad,ld,cd,td,Bd,md,dd,rfl⟩:=hd.shape;have VD:=lH hd;clear hd;replace G:=rW G r;replace U:=rW U r;replace VW:=lH (VW.o.below r);replace T:=lH (T.o.below r);replace t:=lH (t.o.trans (r.mono t.o.size));replace VA:=lH (VA.o.below r);replace M:=bT M r;clear r;clear E;have E:=And.intro (U.o.at_ 0 rfl) (And.intro (U.o.at_ 1 rfl) (And.intro (U.o.at_ 2 rfl) (And.intro (U.o.at_ 3 rfl) (And.intro (T.o.1) (And.intro (T.o.2.1) (And.intro (T.o.2.2.1) (And.intro (T.o.2.2.2) (And.intro (G.o.at_ 3 rfl) (G.o.at_ 2 rfl)))))))));refine kH V E ?_;clear V K;refine rD 12 (fun K V=> ?_);go_simp;refine(mO _ _ (La (iw F F.N j)) ((P.u j-P.l j:Int):Rat) _ VA.o VD.o ((Ls (ad.o j)).mono dC) ((rM (k:=11) (by have:=a1.o;omega) dC).mono dC)).mono ?_;rintro e j0 ⟨vp,rfl,hp,r⟩;obtain⟨sp,Ap,lp,cp,tp,Bp,mp,dp,rfl⟩:=hp.shape;have VP:=lH hp;clear hp;replace G:=rW G r;replace U:=rW U r;replace VW:=lH (VW.o.below r);replace T:=lH (T.o.below r);replace t:=lH (t.o.trans (r.mono t.o.size));replace M:=bT M r;clear r;clear E;have E:=And.intro (U.o.at_ 0 rfl) (And.intro (U.o.at_ 1 rfl) (And.intro (U.o.at_ 2 rfl) (And.intro (U.o.at_ 3 rfl) (And.intro (T.o.1) (And.intro (T.o.2.1) (And.intro (T.o.2.2.1) (And.intro (T.o.2.2.2) (And.intro (G.o.at_ 3 rfl) (G.o.at_ 2 rfl)))))))));refine kH V E ?_;clear V K;refine rD 13 (fun K V=> ?_);go_simp;refine(Go.Proofs.YtokagbahdkfagaaGreatDoor.u7 _ _ (L9 P F j) (La (iw F F.N j)* ((P.u j-P.l j:Int):Rat)) _ VW.o VP.o ((LZ ay.o ad.o j (Nat.le_of_lt a5.o)).mono (by have:=a5.o;have:=ax.o;omega)) (((Ls (ad.o j)).mul (rM (k:=11) (by have:=a1.o;omega) dC)).mono dC)).mono ?_;rintro e av ⟨vr,rfl,hr,r⟩;obtain⟨sr,Ar,lr,cr,tr,Br,mr,dr,rfl⟩:=hr.shape;have VR:=lH hr;clear hr;replace G:=rW G r;replace U:=rW U r;replace T:=lH (T.o.below r);replace t:=lH (t.o.trans (r.mono t.o.size));replace M:=bT M r;clear r;clear E;have E:=And.intro (U.o.at_ 0 rfl) (And.intro (U.o.at_ 1 rfl) (And.intro (U.o.at_ 2 rfl) (And.intro (U.o.at_ 3 rfl) (And.intro (T.o.1) (And.intro (T.o.2.1) (And.intro (T.o.2.2.1) (And.intro (T.o.2.2.2) (And.intro (G.o.at_ 3 rfl) (G.o.at_ 2 rfl)))))))));refine kH V E ?_;clear V K;refine rD 14 (fun K V=> ?_);obtain⟨q0,q1,q2,q3⟩:=aT4 U.o;have f0:=U.o.free 0;have f1:=U.o.free 1;have f2:=U.o.free 2;have f3:=U.o.free 3;have ql:=U.o.lt;go_simp;clear ql q0 q1 q2 q3 f0 f1 f2 f3;have ee:=e2.o;have ed:=e1.o;have hg:World.grownBy av ((((av.setCell ⟨gW,0,none⟩ (.bool sr)).setCell ⟨gW,1,none⟩ (.slice Ar lr cr)).setCell ⟨gW,2,none⟩ (.bool tr)).setCell ⟨gW,3,none⟩ (.slice Br mr dr)) (some gW):=gJ _ _ _ _ _ _ _ _ _ _;have hA:=AtQ.mk (U.o.iJ (x:= .bool sr) (y:= .slice Ar lr cr) (z:= .bool tr) (u:= .slice Br mr dr)) (VR.o.other hg U.o gM);have hH:=t.o.grown hg t.o.size (by first | (simp;done) | (simp;omega));have hB:=M.o.grown hg M.o.size (by first | (simp;done) | (simp;omega));obtain⟨j1,aU⟩:=eX (((((av.setCell ⟨gW,0,none⟩ (.bool sr)).setCell ⟨gW,1,none⟩ (.slice Ar lr cr)).setCell ⟨gW,2,none⟩ (.bool tr)).setCell ⟨gW,3,none⟩ (.slice Br mr dr)));rw[<- aU] at hA hH hB ⊢;clear aU hg ee ed t M;have O:=lH hA;have t:=lH hH;have M:=lH hB;clear hA hH hB;refine kL V ?_;clear V K;refine dN ?_ _;clear E;have Y:=a5.o;have io:=ax.o;go_wp2_with fail
      go_roundw
      case rel=>exact⟨j+1,a5.o,by simp,O,t,M⟩
      case measure=>exact mZ
  ·have e3:Hid (j=P.n):=lH oM;rw[e3.o] at O;go_wp2_with fail
   exact e6.o _ _ _ _ _ _ _ _ _ _ _ _ _ _ _ _ _ _ _ _ _ _ _ _ _ _ _ _ _ _ _ _ _ _ _ _ _ _ _ _ _ _ _ _ _ _ _ _ _ _ _ _ _ _ _ _ _ _ _ _ _ _ _ _ _ _ _ _ _ _ _ _ _ _ _ _ _ _ _ _ _ O.o t.o M.o
end Go.Proofs.YtokagbahdkfagaaGreatDoor
