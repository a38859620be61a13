/-
  ReadGw: arguments that can be read as data stand as typed values. Printed by a program.
-/
import Derived.Test.YtjpmdkgonlmddaaGreatDoorTy
import Derived.Test.YtjpmdkgonlmddaaGreatDoorAbK
import Derived.Test.YtjpmdkgonlmddaaGreatDoorProg
set_option linter.unusedVariables false
set_option maxRecDepth 20000
namespace Go.T
open Go Go.Ab Go.Proofs
theorem ZiT {B n:Nat} {cells:List AV} (h:WT Tryz.prog B n 74 cells):∃ x:Zaa,cells=Zaa.c x∧Zaa.ok B x:=by
  obtain ⟨n',h⟩:=ZiS Tryz.underlying74 h
  obtain ⟨a0,b0,e0,h0,a1,b1,e1,h1,ez⟩:=h
  obtain ⟨x0,f0,o0⟩:=ZgQ Tryz.underlying2 h0
  obtain ⟨x1,f1,o1⟩:=Zlm Tryz.underlying9 h1
  refine ⟨⟨x0,x1⟩,?_,o0,o1,trivial⟩
  subst ez;subst f1;subst e1;subst f0;subst e0
  rfl
theorem ZhS {B n:Nat} {cells:List AV} (h:WT Tryz.prog B n 24 cells):∃ x:Zad,cells=Zad.c x∧Zad.ok B x:=by
  obtain ⟨n',h⟩:=ZiS Tryz.underlying24 h
  obtain ⟨a0,b0,e0,h0,a1,b1,e1,h1,a2,b2,e2,h2,a3,b3,e3,h3,a4,b4,e4,h4,a5,b5,e5,h5,a6,b6,e6,h6,a7,b7,e7,h7,a8,b8,e8,h8,a9,b9,e9,h9,ez⟩:=h
  obtain ⟨x0,f0,o0⟩:=ZgQ Tryz.underlying3 h0
  obtain ⟨x1,f1,o1⟩:=ZgQ Tryz.underlying3 h1
  obtain ⟨x2,f2,o2⟩:=ZgQ Tryz.underlying3 h2
  obtain ⟨x3,f3,o3⟩:=ZgQ Tryz.underlying2 h3
  obtain ⟨x4,f4,o4⟩:=ZgQ Tryz.underlying2 h4
  obtain ⟨x5,f5,o5⟩:=ZgQ Tryz.underlying2 h5
  obtain ⟨x6,f6,o6⟩:=ZgQ Tryz.underlying2 h6
  obtain ⟨x7,f7,o7⟩:=Znh Tryz.underlying4 h7
  obtain ⟨x8,f8,o8⟩:=rd_sl Tryz.underlying22 (fun _ _ h=>ZiT h) h8
  obtain ⟨x9,f9,o9⟩:=Zlm Tryz.underlying9 h9
  refine ⟨⟨x0,x1,x2,x3,x4,x5,x6,x7,x8,x9⟩,?_,o0,o1,o2,o3,o4,o5,o6,o7,o8,o9,trivial⟩
  subst ez;subst f9;subst e9;subst f8;subst e8;subst f7;subst e7;subst f6;subst e6;subst f5;subst e5;subst f4;subst e4;subst f3;subst e3;subst f2;subst e2;subst f1;subst e1;subst f0;subst e0
  rfl
end Go.T
