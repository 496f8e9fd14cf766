/- Parts of this proof: FrameC. -/
import Derived.Test.YtdefghfjhgmpfaaGreatDoorMBA
namespace Go.Proofs.YtdefghfjhgmpfaaGreatDoor
open Go.Proofs.Tryz
open Go.ChangeShapes Go.WideShapes Go.ChangeAt Go.RowKit Go.Joins
set_option maxRecDepth 100000 in
theorem Kh{W:World}{base:Nat}{v:Value}{H:Type}{enc:TypeId × Value -> H}{d:DataW H}{Z:List MemPlace}(Y:Value.okWide prog W .any base 84 v)(V:DataW.Trod enc prog W 0 (fun _=>true) true 84 v d Z):
  ∃x y s,v= .agg #[.int .u8 x, .int .u8 y, .string s] /\ (0 <= x /\ x <= 255) /\ 0 <= y /\ y <= 255:=by
 obtain⟨cs,rfl,E⟩:=okWide_struct underlying84 Y;have U:prog.cellsOf 84=3:=by kernel_rfl
 rw[U] at E;obtain⟨l⟩:=cs
 match l,E with
 | [c0,t,C],_=>
  obtain⟨fuel,h⟩:=V;obtain⟨xs,n,_,_,hl,X,h⟩:=DataW.trod_struct underlying84 h
  match xs,X with
  | [y0,y1,y2],_=>
   obtain⟨x,F,_,b0⟩:=DataW.trod_int underlying5 (h 0 _ rfl);obtain⟨y,M,_,r⟩:=DataW.trod_int underlying5 (h 1 _ rfl);obtain⟨s,R,_,_⟩:=DataW.trod_string underlying30 (h 2 _ rfl);have G:c0= .int .u8 x:=by have: [c0]= [Value.int .u8 x]:=F;simpa using this
   have O:t= .int .u8 y:=by have: [t]= [Value.int .u8 y]:=M;simpa using this
   have T:C= .string s:=by have: [C]= [Value.string s]:=R;simpa using this
   subst G O T;simp only[Lit.wf,Bool.and_eq_true,decide_eq_true_eq] at b0 r;exact⟨x,y,s,rfl,b0,r⟩
end Go.Proofs.YtdefghfjhgmpfaaGreatDoor
