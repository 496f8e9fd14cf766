/- Parts of this proof: SGiven. -/
import Derived.Test.YtokagbahdkfagaaGreatDoorMAR
namespace Go.Proofs.YtokagbahdkfagaaGreatDoor
open Go.Proofs.Tryz
open Go.RowKit
open Lp (upd)
set_option maxRecDepth 100000 in
set_option maxHeartbeats 3200000 in
theorem ul(s:ByteArray)(w:World)(hs:s.size <= 400)(hg:fF w):
  Calls prog 45 #[.string s] w fun e w'=>pU w' s.data.toList e /\ Below w.heap.size w w':=by
 have a4:=lH hg;clear hg;obtain⟨W,hW,r,O⟩:=eN1 w [.bool false, .slice none 0 0, .bool false, .slice none 0 0] 40;go_enter func45,ntmps45;go_wp2_with fail
 rw[<- hW];clear hW;refine(yz s 400 _ dC hs (a4.o.below O.o)).mono ?_;rintro e w1 ⟨T,a0⟩;replace r:=rW r a0;replace O:=bT O a0;clear a0
 rcases T with ⟨h0,rfl⟩ | ⟨q,v,h0,hl,rfl,t⟩
 ·have X:=lH h0;clear h0;obtain⟨cc,a1⟩:=eX (fo s.data.toList);rw[<- a1];have a3:=lH a1;clear a1;obtain⟨C,Z,E,f1,G,f2,M,f3⟩:=aF4 r.o;have kl:=r.o.lt;go_wp2_with fail
  clear kl C Z E f1 G f2 M f3;have h:=r.o.iJ (x:= .bool false) (y:= .slice none 0 0) (z:= .bool false) (u:= .slice none 0 0);have T:=ic r.o dC (Nat.le_refl _) O.o (eP.jo _);obtain⟨t,R⟩:=T;obtain⟨wE,a2⟩:=eX (((((w1.setCell ⟨w.heap.size,0,none⟩ (.bool false)).setCell ⟨w.heap.size,1,none⟩ (.slice none 0 0)).setCell ⟨w.heap.size,2,none⟩ (.bool false)).setCell ⟨w.heap.size,3,none⟩ (.slice none 0 0)));rw[<- a2] at h R t ⊢;have C:=h.at_ 0 rfl;have E:=h.at_ 1 rfl;have G:=h.at_ 2 rfl;have M:=h.at_ 3 rfl;refine bodyPost_ret (v:= .tuple #[.agg #[.bool false, .slice none 0 0, .bool false, .slice none 0 0], .int .i64 (cc:Nat)]) (by simp[results,results45,go_sem,C,E,G,M]) rfl ?_;exact⟨.inl ⟨X.o,by rw[a3.o]⟩,R⟩
 ·obtain⟨sv,U,lv,Y,tv,V,mv,dv,rfl⟩:=t.shape;have X:=lH h0;have HL:=lH hl;have HV:=lH t;clear h0 hl t;obtain⟨C,Z,E,f1,G,f2,M,f3⟩:=aF4 r.o;have kl:=r.o.lt;go_wp2_with fail
  clear kl C Z E f1 G f2 M f3;have h:=r.o.iJ (x:= .bool sv) (y:= .slice U lv Y) (z:= .bool tv) (u:= .slice V mv dv);have T:=ic r.o dC (Nat.le_refl _) O.o HV.o;obtain⟨t,R⟩:=T;obtain⟨wE,a2⟩:=eX (((((w1.setCell ⟨w.heap.size,0,none⟩ (.bool sv)).setCell ⟨w.heap.size,1,none⟩ (.slice U lv Y)).setCell ⟨w.heap.size,2,none⟩ (.bool tv)).setCell ⟨w.heap.size,3,none⟩ (.slice V mv dv)));rw[<- a2] at h R t ⊢;have C:=h.at_ 0 rfl;have E:=h.at_ 1 rfl;have G:=h.at_ 2 rfl;have M:=h.at_ 3 rfl;refine bodyPost_ret (v:= .tuple #[.agg #[.bool sv, .slice U lv Y, .bool tv, .slice V mv dv], .int .i64 0]) (by simp[results,results45,go_sem,C,E,G,M]) rfl ?_;exact⟨.inr ⟨q,_,X.o,HL.o,rfl,t⟩,R⟩
set_option maxRecDepth 100000 in
set_option maxHeartbeats 3200000 in
theorem Fx(s:ByteArray)(M:Nat)(w:World)(hM:M<s.size)(hs:s.size <= 65536)(h:fF w):
  Calls prog 85 #[.string s, .int .i64 (M:Nat)] w fun e w'=>e= .returned (.tuple #[.agg #[.bool false, .slice none 0 0, .bool false, .slice none 0 0], .int .i64 5]) /\ Below w.heap.size w w':=by
 have hcut:=fun w h=>yu s w hs h
 obtain⟨x,X⟩:∃x:ByteArray,x=⟨(fM s.data.toList).toArray⟩:=⟨_,rfl⟩
 obtain⟨y,Y⟩:∃x:ByteArray,x=⟨(fZ s.data.toList).toArray⟩:=⟨_,rfl⟩
 obtain⟨z,Z⟩:∃z:Bool,z=decide (fO s.data.toList≠ []):=⟨_,rfl⟩
 rw[<- X, <- Y, <- Z] at hcut;have a0:=lH hcut;have a1:=lH h;have a3:decide (((M:Nat):Int)<((s.size:Nat):Int))=true:=decide_eq_true oM;have a4:decide (M<s.size)=true:=decide_eq_true oM;clear hcut X Y Z h;obtain⟨W,V,C,r⟩:=eN1 w [.bool false, .slice none 0 0, .bool false, .slice none 0 0] 40;go_enter func85,ntmps85;go_wp2_with fail
 rw[<- V];clear V;refine(a0.o _ (a1.o.below r.o)).mono ?_;rintro e w1 ⟨rfl,E⟩;replace C:=rW C E;replace r:=bT r E;clear E;obtain⟨G,f0,O,f1,R,f2,T,f3⟩:=aF4 C.o;have kl:=C.o.lt;go_wp2_with fail
 clear kl G f0 O f1 R f2 T f3;have h:=gJ w1 w.heap.size 0 1 2 3 (.bool false) (.slice none 0 0) (.bool false) (.slice none 0 0);have t:=(((C.o.set 0 (.bool false)).set 1 (.slice none 0 0)).set 2 (.bool false)).set 3 (.slice none 0 0);have U:=r.o.grown h r.o.size (by first | (simp;done) | (simp;omega));obtain⟨wE,a2⟩:=eX (((((w1.setCell ⟨w.heap.size,0,none⟩ (.bool false)).setCell ⟨w.heap.size,1,none⟩ (.slice none 0 0)).setCell ⟨w.heap.size,2,none⟩ (.bool false)).setCell ⟨w.heap.size,3,none⟩ (.slice none 0 0)));rw[<- a2] at t U ⊢;have G:=t.at_ 0 rfl;have O:=t.at_ 1 rfl;have R:=t.at_ 2 rfl;have T:=t.at_ 3 rfl;refine bodyPost_ret (v:= .tuple #[.agg #[.bool false, .slice none 0 0, .bool false, .slice none 0 0], .int .i64 5]) (by simp[results,results85,go_sem,G,O,R,T]) rfl ?_;exact⟨rfl,U⟩
set_option maxRecDepth 100000 in
set_option maxHeartbeats 3200000 in
theorem Fy(s:ByteArray)(w:World)(U:400<s.size)(X:s.size <= 65536)(C:fF w):
  Calls prog 45 #[.string s] w fun e w'=>e= .returned (.tuple #[.agg #[.bool false, .slice none 0 0, .bool false, .slice none 0 0], .int .i64 5]) /\ Below w.heap.size w w':=by
 have HM:=lH U;have HS:=lH X;have Z:=lH C;clear U X C;obtain⟨W,V,t,h⟩:=eN1 w [.bool false, .slice none 0 0, .bool false, .slice none 0 0] 40;go_enter func45,ntmps45;go_wp2_with fail
 rw[<- V];clear V;refine(Fx s 400 _ HM.o HS.o (Z.o.below h.o)).mono ?_;rintro e Y ⟨rfl,E⟩;replace t:=rW t E;replace h:=bT h E;clear E;obtain⟨G,f0,M,f1,O,f2,R,f3⟩:=aF4 t.o;have kl:=t.o.lt;go_wp2_with fail
 clear kl G f0 M f1 O f2 R f3;have C:=gJ Y w.heap.size 0 1 2 3 (.bool false) (.slice none 0 0) (.bool false) (.slice none 0 0);have r:=(((t.o.set 0 (.bool false)).set 1 (.slice none 0 0)).set 2 (.bool false)).set 3 (.slice none 0 0);have T:=h.o.grown C h.o.size (by first | (simp;done) | (simp;omega));obtain⟨wE,a0⟩:=eX (((((Y.setCell ⟨w.heap.size,0,none⟩ (.bool false)).setCell ⟨w.heap.size,1,none⟩ (.slice none 0 0)).setCell ⟨w.heap.size,2,none⟩ (.bool false)).setCell ⟨w.heap.size,3,none⟩ (.slice none 0 0)));rw[<- a0] at r T ⊢;have G:=r.at_ 0 rfl;have M:=r.at_ 1 rfl;have O:=r.at_ 2 rfl;have R:=r.at_ 3 rfl;refine bodyPost_ret (v:= .tuple #[.agg #[.bool false, .slice none 0 0, .bool false, .slice none 0 0], .int .i64 5]) (by simp[results,results45,go_sem,G,M,O,R]) rfl ?_;exact⟨rfl,T⟩
set_option maxRecDepth 100000 in
set_option maxHeartbeats 3200000 in
theorem Fz(s:ByteArray)(w:World)(hs:s.size <= 400)(hg:fF w):
  Calls prog 57 #[.string s] w fun e w'=>pU w' s.data.toList e /\ Below w.heap.size w w':=by
 have a4:=lH hg;clear hg;obtain⟨W,hW,r,O⟩:=eN1 w [.bool false, .slice none 0 0, .bool false, .slice none 0 0] 40;have a5:¬(400:Int)<((s.size:Nat):Int):=oM
 have a6:¬400<s.size:=oM
 go_enter func57,ntmps57;go_wp2_with fail
 rw[<- hW];clear hW;refine(ul s _ hs (a4.o.below O.o)).mono ?_;rintro e w1 ⟨T,a0⟩;replace r:=rW r a0;replace O:=bT O a0;clear a0
 rcases T with ⟨h0,rfl⟩ | ⟨q,v,h0,hl,rfl,t⟩
 ·have X:=lH h0;clear h0;obtain⟨cc,a1⟩:=eX (fo s.data.toList);rw[<- a1];have a3:=lH a1;clear a1;obtain⟨C,Z,E,f1,G,f2,M,f3⟩:=aF4 r.o;have kl:=r.o.lt;go_wp2_with fail
  clear kl C Z E f1 G f2 M f3;have h:=r.o.iJ (x:= .bool false) (y:= .slice none 0 0) (z:= .bool false) (u:= .slice none 0 0);have T:=ic r.o dC (Nat.le_refl _) O.o (eP.jo _);obtain⟨t,R⟩:=T;obtain⟨wE,a2⟩:=eX (((((w1.setCell ⟨w.heap.size,0,none⟩ (.bool false)).setCell ⟨w.heap.size,1,none⟩ (.slice none 0 0)).setCell ⟨w.heap.size,2,none⟩ (.bool false)).setCell ⟨w.heap.size,3,none⟩ (.slice none 0 0)));rw[<- a2] at h R t ⊢;have C:=h.at_ 0 rfl;have E:=h.at_ 1 rfl;have G:=h.at_ 2 rfl;have M:=h.at_ 3 rfl;refine bodyPost_ret (v:= .tuple #[.agg #[.bool false, .slice none 0 0, .bool false, .slice none 0 0], .int .i64 (cc:Nat)]) (by simp[results,results57,go_sem,C,E,G,M]) rfl ?_;exact⟨.inl ⟨X.o,by rw[a3.o]⟩,R⟩
 ·obtain⟨sv,U,lv,Y,tv,V,mv,dv,rfl⟩:=t.shape;have X:=lH h0;have HL:=lH hl;have HV:=lH t;clear h0 hl t;obtain⟨C,Z,E,f1,G,f2,M,f3⟩:=aF4 r.o;have kl:=r.o.lt;go_wp2_with fail
  clear kl C Z E f1 G f2 M f3;have h:=r.o.iJ (x:= .bool sv) (y:= .slice U lv Y) (z:= .bool tv) (u:= .slice V mv dv);have T:=ic r.o dC (Nat.le_refl _) O.o HV.o;obtain⟨t,R⟩:=T;obtain⟨wE,a2⟩:=eX (((((w1.setCell ⟨w.heap.size,0,none⟩ (.bool sv)).setCell ⟨w.heap.size,1,none⟩ (.slice U lv Y)).setCell ⟨w.heap.size,2,none⟩ (.bool tv)).setCell ⟨w.heap.size,3,none⟩ (.slice V mv dv)));rw[<- a2] at h R t ⊢;have C:=h.at_ 0 rfl;have E:=h.at_ 1 rfl;have G:=h.at_ 2 rfl;have M:=h.at_ 3 rfl;refine bodyPost_ret (v:= .tuple #[.agg #[.bool sv, .slice U lv Y, .bool tv, .slice V mv dv], .int .i64 0]) (by simp[results,results57,go_sem,C,E,G,M]) rfl ?_;exact⟨.inr ⟨q,_,X.o,HL.o,rfl,t⟩,R⟩
set_option maxRecDepth 100000 in
set_option maxHeartbeats 3200000 in
theorem FB(s:ByteArray)(w:World)(X:400<s.size):
  Calls prog 57 #[.string s] w fun e w'=>e= .returned (.tuple #[.agg #[.bool false, .slice none 0 0, .bool false, .slice none 0 0], .int .i64 5]) /\ Below w.heap.size w w':=by
 have Y:(400:Int)<((s.size:Nat):Int):=oM
 obtain⟨W,G,h,M⟩:=eN1 w [.bool false, .slice none 0 0, .bool false, .slice none 0 0] 40;go_enter func57,ntmps57;go_wp2_with fail
 rw[<- G];clear G;obtain⟨r,O,t,R,C,T,E,U⟩:=aF4 h.o;have V:=h.o.lt;go_wp2_with fail
 clear V r O t R C T E U;obtain⟨r,t,C,E⟩:=aT4 h.o;refine bodyPost_ret (v:= .tuple #[.agg #[.bool false, .slice none 0 0, .bool false, .slice none 0 0], .int .i64 5]) (by simp[results,results57,go_sem,r,t,C,E]) rfl ?_;exact⟨rfl,M.o⟩
def gm(l:List UInt8):Nat:=if 400<l.length then 5 else fo l
def lF(w':World)(l:List UInt8)(e:Ending):Prop:=
 (gm l≠0 /\ e= .returned (.tuple #[.agg #[.bool false, .slice none 0 0, .bool false, .slice none 0 0], .int .i64 (gm l:Nat)])) \/
 ∃q v,gm l=0 /\ l=fB q /\ e= .returned (.tuple #[v, .int .i64 0]) /\ eP w' v q
theorem pV(s:ByteArray)(w:World)(C:fF w):
  Calls prog 57 #[.string s] w fun e w'=>lF w' s.data.toList e /\ Below w.heap.size w w':=by
 have t:s.data.toList.length=s.size:=by rw[Array.length_toList];rfl
 by_cases h:400<s.size
 ·refine(FB s w h).mono ?_;rintro e w' ⟨rfl,r⟩;have:gm s.data.toList=5:=by unfold gm;rw[t,if_pos h]
  exact⟨.inl ⟨by rw[this];decide,by rw[this];rfl⟩,r⟩
 ·refine(Fz s w oM C).mono ?_;rintro e w' ⟨E,r⟩;have:gm s.data.toList=fo s.data.toList:=by unfold gm;rw[t,if_neg h]
  refine⟨?_,r⟩;unfold lF;rw[this];exact E
theorem um(s:ByteArray)(w:World)(G:s.size <= 65536)(t:fF w):
  Calls prog 45 #[.string s] w fun e w'=>lF w' s.data.toList e /\ Below w.heap.size w w':=by
 have C:s.data.toList.length=s.size:=by rw[Array.length_toList];rfl
 by_cases h:400<s.size
 ·refine(Fy s w h G t).mono ?_;rintro e w' ⟨rfl,r⟩;have:gm s.data.toList=5:=by unfold gm;rw[C,if_pos h]
  exact⟨.inl ⟨by rw[this];decide,by rw[this];rfl⟩,r⟩
 ·refine(ul s w oM t).mono ?_;rintro e w' ⟨E,r⟩;have:gm s.data.toList=fo s.data.toList:=by unfold gm;rw[C,if_neg h]
  refine⟨?_,r⟩;unfold lF;rw[this];exact E
set_option maxRecDepth 100000 in
set_option maxHeartbeats 6400000 in
theorem FC(va:Value)(n:Nat)(s:Nat -> ByteArray)(w:World)(R:TS w va n s)(hn:n <= 1000000000)(hs:∀j,j<n -> (s j).size <= 400)(t:fF w):
  Calls prog 98 #[va, .func (.func 45) #[] #[]] w fun e w'=>nP w.heap.size w' n s e /\ Below w.heap.size w w':=by
 obtain⟨A,c,rfl,ak,am⟩:=R.shape;have HA:=lH R;have HS:=lH hs;have ad:=lH t;clear R hs t;go_enter func98,ntmps98
 go_wp2_with (at_make;refine oh _ rfl (.tmp 11) (.tmp 11) rfl _ _ n rfl rfl rfl rfl oM ?_)
 intro w1 a2 Y ah;have W:=lH a2;have X:=lH Y;clear a2 Y ah;go_wp2_with fail
 go_loopw [15] (fun V wr=>∃ (k:Nat) (f:Nat -> Rat),k <= n /\ V= .int .i64 k /\ Hid (∀j,j<k -> (s j).data.toList=fB (f j)) /\ RB wr w.heap.size n f /\ Below w.heap.size w wr)
  (fun V _=>n-(intOf V).toNat)
 case atStart=>exact⟨0,_,Nat.zero_le _,rfl,lH (fun j hj=>absurd hj oM),W.o,X.o⟩
 case round=>
  clear W X;obtain⟨k,f,hk,rfl,hf,Z,a0⟩:=hrel;have M:=lH hf.o;have h:=lH Z;have r:=lH a0;clear hf Z a0;by_cases an:((k:Nat):Int)<(n:Nat)
  ·have C:k<n:=oM
   obtain⟨gA,oA,rfl,a1⟩:=HA.o.at_ oM;have kc:=cell_below r.o (a1 k C);have aj:=eF kc;clear a1;go_wp2_with fail
   clear kc aj;refine(ul (s k) _ (HS.o k C) (ad.o.below r.o)).mono ?_;rintro e w2 ⟨hr,T⟩;replace h:=lH (h.o.below T);replace r:=bT r T;clear T;obtain⟨sy,Ay,ly,cy,ty,By,my,dy,ae,ai⟩:=h.o.fK C;obtain⟨a7,a8,a9,aa⟩:=ae;have ab:=h.o.lt;have a3:=h.o.free (k*4);have a4:=h.o.free (k*4+1);have a5:=h.o.free (k*4+2);have a6:=h.o.free (k*4+3);clear ai
   rcases hr with ⟨h0,rfl⟩ | ⟨q,v,h0,hl,rfl,U⟩
   ·have H0:=lH h0;obtain⟨O,E⟩:=eX (fo (s k).data.toList);rw[<- E];have af:O≠0:=by rw[E];exact h0
    have ag:¬((O:Nat):Int)=0:=oM
    have al:(((O:Nat):Int) !=0)=true:=by simpa using ag
    have ac:=lH E;clear E h0 af;have t:=gJ w2 w.heap.size (k*4) (k*4+1) (k*4+2) (k*4+3) (.bool false) (.slice none 0 0) (.bool false) (.slice none 0 0);have G:=lH (r.o.grown t r.o.size (by first | (simp;done) | (simp;omega)));clear t;go_wp2_with fail
    clear a7 a8 a9 aa ab a3 a4 a5 a6;go_returns;exact⟨.inl ⟨k,C,fun i hi=>by rw[M.o i hi];exact nC _,H0.o,by rw[ac.o];rfl⟩,G.o⟩
   ·obtain⟨sv,Av,lv,cv,tv,Bv,mv,dv,rfl⟩:=U.shape;have HL:=lH hl;have BN:=lH (h.o.set C U);have t:=gJ w2 w.heap.size (k*4) (k*4+1) (k*4+2) (k*4+3) (.bool sv) (.slice Av lv cv) (.bool tv) (.slice Bv mv dv);have G:=lH (r.o.grown t r.o.size (by first | (simp;done) | (simp;omega)));clear t h0 hl U;go_wp2_with fail
    clear a7 a8 a9 aa ab a3 a4 a5 a6;go_roundw
    case rel=>
     refine⟨k+1,upd f k q,by omega,by simp,lH (fun j hj=> ?_),BN.o,G.o⟩;by_cases e:j=k
     ·subst e;rw[Lp.upd_same];exact HL.o
     ·rw[Lp.eQ _ _ e];exact M.o j oM
    case measure=>exact mZ
  ·obtain rfl:n=k:=oM
   go_wp2_with fail
   go_returns;exact⟨.inr ⟨_,f,Nat.le_refl _,rfl,h.o,M.o⟩,r.o⟩
set_option maxRecDepth 100000 in
set_option maxHeartbeats 3200000 in
theorem FD(E:Value)(n:Nat)(s:Nat -> ByteArray)(w:World)(M:TS w E n s)(X:n <= 1000000000)(T:∀j,j<n -> (s j).size <= 400)(R:fF w):
  Calls prog 97 #[E] w fun e w'=>nP w.heap.size w' n s e /\ Below w.heap.size w w':=by
 have U:=lH (FC E n s w M X T R);clear M T R;go_enter func97,ntmps97;go_wp2_with fail
 refine U.o.mono ?_;rintro e w1 ⟨Y,O⟩;have G:=lH O;clear O
 rcases Y with ⟨j,W,h1,h,rfl⟩ | ⟨g,f,h0,rfl,h1,h⟩
 ·have r:=lH h1;have t:=lH h;obtain⟨Z,C⟩:=eX (fo (s j).data.toList);rw[<- C];have V:=lH C;clear C h1 h;go_wp2_with fail
  go_returns;exact⟨.inl ⟨j,W,r.o,t.o,by rw[<- V.o];rfl⟩,G.o⟩
 ·have r:=lH h1;have t:=lH h;clear h1 h;go_wp2_with fail
  go_returns;exact⟨.inr ⟨g,f,h0,rfl,r.o,t.o⟩,G.o⟩
end Go.Proofs.YtokagbahdkfagaaGreatDoor
