/-
  ReadMvE: arguments that can be read as data stand as typed values. Printed by a program.
-/
import Derived.Test.YthohllgoneadhaaGreatDoorTy
import Derived.Test.YthohllgoneadhaaGreatDoorAbJ
import Derived.Test.YthohllgoneadhaaGreatDoorProg
set_option linter.unusedVariables false
set_option maxRecDepth 20000
namespace Go.T
open Go Go.Ab Go.Proofs
theorem ZiJ {B n:Nat} {cells:List AV} (h:WT Tryz.prog B n 79 cells):∃ x:Zaf,cells=Zaf.c x∧Zaf.ok B x:=by
  obtain ⟨n',h⟩:=ZfS Tryz.underlying79 h
  obtain ⟨a0,b0,e0,h0,a1,b1,e1,h1,a2,b2,e2,h2,a3,b3,e3,h3,a4,b4,e4,h4,a5,b5,e5,h5,a6,b6,e6,h6,a7,b7,e7,h7,ez⟩:=h
  obtain ⟨x0,f0,o0⟩:=ZjU Tryz.underlying9 h0
  obtain ⟨x1,f1,o1⟩:=ZjU Tryz.underlying9 h1
  obtain ⟨x2,f2,o2⟩:=ZjU Tryz.underlying9 h2
  obtain ⟨x3,f3,o3⟩:=ZjU Tryz.underlying9 h3
  obtain ⟨x4,f4,o4⟩:=Zex Tryz.underlying3 h4
  obtain ⟨x5,f5,o5⟩:=Zex Tryz.underlying2 h5
  obtain ⟨x6,f6,o6⟩:=ZpW Tryz.underlying4 h6
  obtain ⟨x7,f7,o7⟩:=Zex Tryz.underlying2 h7
  refine ⟨⟨x0,x1,x2,x3,x4,x5,x6,x7⟩,?_,o0,o1,o2,o3,o4,o5,o6,o7,trivial⟩
  subst ez;subst f7;subst e7;subst f6;subst e6;subst f5;subst e5;subst f4;subst e4;subst f3;subst e3;subst f2;subst e2;subst f1;subst e1;subst f0;subst e0
  rfl
theorem Zi8 {B n:Nat} {cells:List AV} (h:WT Tryz.prog B n 58 cells):∃ x:Zam,cells=Zam.c x∧Zam.ok B x:=by
  obtain ⟨n',h⟩:=ZfS Tryz.underlying58 h
  obtain ⟨a0,b0,e0,h0,a1,b1,e1,h1,a2,b2,e2,h2,ez⟩:=h
  obtain ⟨x0,f0,o0⟩:=Zex Tryz.underlying48 h0
  obtain ⟨x1,f1,o1⟩:=Zex Tryz.underlying2 h1
  obtain ⟨x2,f2,o2⟩:=rd_sl Tryz.underlying22 (fun _ _ h=>ZiJ h) h2
  refine ⟨⟨x0,x1,x2⟩,?_,o0,o1,o2,trivial⟩
  subst ez;subst f2;subst e2;subst f1;subst e1;subst f0;subst e0
  rfl
theorem ZkT {B n:Nat} {cells:List AV} (h:WT Tryz.prog B n 81 cells):∃ x:Zac,cells=Zac.c x∧Zac.ok B x:=by
  obtain ⟨n',h⟩:=ZfS Tryz.underlying81 h
  obtain ⟨a0,b0,e0,h0,a1,b1,e1,h1,a2,b2,e2,h2,ez⟩:=h
  obtain ⟨x0,f0,o0⟩:=Zex Tryz.underlying3 h0
  obtain ⟨x1,f1,o1⟩:=Zex Tryz.underlying2 h1
  obtain ⟨x2,f2,o2⟩:=Zi8 h2
  refine ⟨⟨x0,x1,x2⟩,?_,o0,o1,o2,trivial⟩
  subst ez;subst f2;subst e2;subst f1;subst e1;subst f0;subst e0
  rfl
theorem ZkU {B n:Nat} {cells:List AV} (h:WT Tryz.prog B n 28 cells):∃ x:Zap,cells=Zap.c x∧Zap.ok B x:=by
  obtain ⟨n',h⟩:=ZfS Tryz.underlying28 h
  obtain ⟨a0,b0,e0,h0,a1,b1,e1,h1,a2,b2,e2,h2,a3,b3,e3,h3,a4,b4,e4,h4,a5,b5,e5,h5,a6,b6,e6,h6,a7,b7,e7,h7,ez⟩:=h
  obtain ⟨x0,f0,o0⟩:=Zex Tryz.underlying3 h0
  obtain ⟨x1,f1,o1⟩:=Zex Tryz.underlying3 h1
  obtain ⟨x2,f2,o2⟩:=Zex Tryz.underlying3 h2
  obtain ⟨x3,f3,o3⟩:=Zex Tryz.underlying3 h3
  obtain ⟨x4,f4,o4⟩:=Zex Tryz.underlying3 h4
  obtain ⟨x5,f5,o5⟩:=Zex Tryz.underlying3 h5
  obtain ⟨x6,f6,o6⟩:=Zex Tryz.underlying2 h6
  obtain ⟨x7,f7,o7⟩:=ZjU Tryz.underlying9 h7
  refine ⟨⟨x0,x1,x2,x3,x4,x5,x6,x7⟩,?_,o0,o1,o2,o3,o4,o5,o6,o7,trivial⟩
  subst ez;subst f7;subst e7;subst f6;subst e6;subst f5;subst e5;subst f4;subst e4;subst f3;subst e3;subst f2;subst e2;subst f1;subst e1;subst f0;subst e0
  rfl
theorem ZgA {B n:Nat} {cells:List AV} (h:WT Tryz.prog B n 47 cells):∃ x:Zar,cells=Zar.c x∧Zar.ok B x:=by
  obtain ⟨n',h⟩:=ZfS Tryz.underlying47 h
  obtain ⟨a0,b0,e0,h0,a1,b1,e1,h1,ez⟩:=h
  obtain ⟨x0,f0,o0⟩:=Zex Tryz.underlying3 h0
  obtain ⟨x1,f1,o1⟩:=ZkU h1
  refine ⟨⟨x0,x1⟩,?_,o0,o1,trivial⟩
  subst ez;subst f1;subst e1;subst f0;subst e0
  rfl
end Go.T
