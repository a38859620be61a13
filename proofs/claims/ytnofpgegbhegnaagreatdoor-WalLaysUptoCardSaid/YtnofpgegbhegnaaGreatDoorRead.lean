/-
  ReadWa: arguments that can be read as data stand as typed values. Printed by a program.
-/
import Derived.Test.YtnofpgegbhegnaaGreatDoorTy
import Derived.Test.YtnofpgegbhegnaaGreatDoorAbRead
import Derived.Test.YtnofpgegbhegnaaGreatDoorProg
set_option linter.unusedVariables false
set_option maxRecDepth 20000
namespace Go.T
open Go Go.Ab Go.Proofs
theorem rd_matinslaw10_Do {B n : Nat} {cells : List AV} (h : WT Tryz.prog B n 33 cells) : ∃ x : matinslaw10_Do, cells = matinslaw10_Do.c x ∧ matinslaw10_Do.ok B x := by
  obtain ⟨n', h⟩ := rd_struct Tryz.underlying33 h
  obtain ⟨a0, b0, e0, h0, a1, b1, e1, h1, a2, b2, e2, h2, a3, b3, e3, h3, a4, b4, e4, h4, a5, b5, e5, h5, ez⟩ := h
  obtain ⟨x0, f0, o0⟩ := rd_int Tryz.underlying3 h0
  obtain ⟨x1, f1, o1⟩ := rd_sl Tryz.underlying31 (fun _ _ h => rd_int Tryz.underlying5 h) h1
  obtain ⟨x2, f2, o2⟩ := rd_sl Tryz.underlying27 (fun _ _ h => rd_sl Tryz.underlying31 (fun _ _ h => rd_int Tryz.underlying5 h) h) h2
  obtain ⟨x3, f3, o3⟩ := rd_int Tryz.underlying3 h3
  obtain ⟨x4, f4, o4⟩ := rd_int Tryz.underlying3 h4
  obtain ⟨x5, f5, o5⟩ := rd_str Tryz.underlying9 h5
  refine ⟨⟨x0, x1, x2, x3, x4, x5⟩, ?_, o0, o1, o2, o3, o4, o5, trivial⟩
  subst ez; subst f5; subst e5; subst f4; subst e4; subst f3; subst e3; subst f2; subst e2; subst f1; subst e1; subst f0; subst e0
  rfl
end Go.T
