/- Parts of this proof: FrameC. -/
import Derived.Test.YtdefghfjhgmpfaaGreatDoorMBA
namespace Go.Proofs.YtdefghfjhgmpfaaGreatDoor
open Go.Proofs.Tryz
open Go.ChangeShapes Go.WideShapes Go.ChangeAt Go.RowKit Go.Joins
set_option maxRecDepth 100000 in
theorem Kh{W:World}{base:Nat}{v:Value}{H:Type}{enc:TypeId × Value -> H}{d:DataW H}{ps:List MemPlace}(a1:Value.okWide prog W .any base 84 v)(Z:DataW.Trod enc prog W 0 (fun _=>true) true 84 v d ps):
  ∃x y s,v= .agg #[.int .u8 x, .int .u8 y, .string s] /\ (0 <= x /\ x <= 255) /\ 0 <= y /\ y <= 255:=by
 obtain⟨cs,rfl,G⟩:=okWide_struct underlying84 a1;have Y:prog.cellsOf 84=3:=by kernel_rfl
 rw[Y] at G;obtain⟨l⟩:=cs
 match l,G with
 | [c0,E,F],_=>
  obtain⟨fuel,h⟩:=Z;obtain⟨xs,n,_,_,hl,a0,h⟩:=DataW.trod_struct underlying84 h
  match xs,a0 with
  | [y0,y1,y2],_=>
   obtain⟨x,M,_,b0⟩:=DataW.trod_int underlying5 (h 0 _ rfl);obtain⟨y,R,_,t⟩:=DataW.trod_int underlying5 (h 1 _ rfl);obtain⟨s,U,_,_⟩:=DataW.trod_string underlying30 (h 2 _ rfl);have O:c0= .int .u8 x:=by have: [c0]= [Value.int .u8 x]:=M;simpa using this
   have T:E= .int .u8 y:=by have: [E]= [Value.int .u8 y]:=R;simpa using this
   have X:F= .string s:=by have: [F]= [Value.string s]:=U;simpa using this
   subst O T X;simp only[Lit.wf,Bool.and_eq_true,decide_eq_true_eq] at b0 t;exact⟨x,y,s,rfl,b0,t⟩
set_option maxRecDepth 100000 in
theorem NE{W:World}{base:Nat}{v:Value}{H:Type}{enc:TypeId × Value -> H}{d:DataW H}{F:List MemPlace}(E:Value.okWide prog W .any base 5 v)(h:DataW.Trod enc prog W 0 (fun _=>true) true 5 v d F):∃x,v= .int .u8 x /\ 0 <= x /\ x <= 255:=by
 obtain⟨x,rfl⟩:=okWide_int underlying5 E;obtain⟨fuel,t⟩:=h;obtain⟨y,e,_,b0⟩:=DataW.trod_int underlying5 t;have e':x=y:=by have: [Value.int .u8 x]= [Value.int .u8 y]:=e;simpa using this
 subst e';simp only[Lit.wf,Bool.and_eq_true,decide_eq_true_eq] at b0;exact⟨x,rfl,b0⟩
end Go.Proofs.YtdefghfjhgmpfaaGreatDoor
