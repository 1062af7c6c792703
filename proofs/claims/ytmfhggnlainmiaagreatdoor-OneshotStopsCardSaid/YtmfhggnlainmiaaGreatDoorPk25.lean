/- Part 25. -/
import Derived.Test.YtmfhggnlainmiaaGreatDoorPk11
set_option linter.unusedVariables false
namespace Go.Proofs.YtmfhggnlainmiaaGreatDoor
section
open Go.ChangeShapes Go.WideShapes Go.RowKit Go.ChangeAt
set_option maxRecDepth 100000 in
theorem zi5 {H:Type} {enc:TypeId×Value→H} {W:World} {fuel:Nat} {v:Value} {x:DataW H×List MemPlace} (hv:∃cs,v=.agg cs∧cs.size=Tryz.prog.cellsOf 24)
 (h:DataW.trod enc Tryz.prog W 0 (fun _=>true) true fuel 24 v.cells.toList=some x):∃l:zc,v=lmV l∧LimsI l:=by
 obtain⟨cs,rfl,hs⟩:=hv;have h5:Tryz.prog.cellsOf 24=5:=by kernel_rfl
 have h1:Tryz.prog.cellsOf 3=1:=by kernel_rfl
 rw[h5] at hs;obtain⟨l⟩:=cs;have hs':l.length=5:=hs;have h':DataW.trod enc Tryz.prog W 0 (fun _=>true) true fuel 24 l=some x:=h;obtain⟨xs,n,-,-,-,hxl,hf⟩:=DataW.trod_struct Tryz.underlying24 h'
 match xs,hxl,l,hs' with
 | [y0,y1,y2,y3,y4],_,[v0,v1,v2,v3,v4],_=>
  have g0:=hf 0 _ rfl;have g1:=hf 1 _ rfl;have g2:=hf 2 _ rfl;have g3:=hf 3 _ rfl;have g4:=hf 4 _ rfl;simp[h1] at g0 g1 g2 g3 g4;obtain⟨z0,e0,_,w0⟩:=DataW.trod_int Tryz.underlying3 g0;obtain⟨z1,e1,_,w1⟩:=DataW.trod_int Tryz.underlying3 g1;obtain⟨z2,e2,_,w2⟩:=DataW.trod_int Tryz.underlying3 g2;obtain⟨z3,e3,_,w3⟩:=DataW.trod_int Tryz.underlying3 g3;obtain⟨z4,e4,_,w4⟩:=DataW.trod_int Tryz.underlying3 g4;simp only[List.cons.injEq,and_true] at e0 e1 e2 e3 e4;subst e0 e1 e2 e3 e4;exact⟨(z0,z1,z2,z3,z4),rfl,⟨bounds_i64 w0,bounds_i64 w1,bounds_i64 w2,bounds_i64 w3,bounds_i64 w4⟩⟩
