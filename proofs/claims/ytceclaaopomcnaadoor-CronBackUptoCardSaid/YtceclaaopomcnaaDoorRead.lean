/-
  ReadCr: arguments that can be read as data stand as typed values. Printed by a program.
-/
import Derived.Test.YtceclaaopomcnaaDoorTy
import Derived.Test.YtceclaaopomcnaaDoorAbRead
import Derived.Test.YtceclaaopomcnaaDoorProg
set_option linter.unusedVariables false
set_option maxRecDepth 20000
namespace Go.T
open Go Go.Ab Go.Proofs
theorem rd_api_Cron {B n : Nat} {cells : List AV} (h : WT Tryd.prog B n 24 cells) : ∃ x : api_Cron, cells = api_Cron.c x ∧ api_Cron.ok B x := by
  obtain ⟨n', h⟩ := rd_struct Tryd.underlying24 h
  obtain ⟨a0, b0, e0, h0, a1, b1, e1, h1, a2, b2, e2, h2, a3, b3, e3, h3, a4, b4, e4, h4, a5, b5, e5, h5, a6, b6, e6, h6, ez⟩ := h
  obtain ⟨x0, f0, o0⟩ := rd_int Tryd.underlying22 h0
  obtain ⟨x1, f1, o1⟩ := rd_int Tryd.underlying22 h1
  obtain ⟨x2, f2, o2⟩ := rd_int Tryd.underlying22 h2
  obtain ⟨x3, f3, o3⟩ := rd_int Tryd.underlying22 h3
  obtain ⟨x4, f4, o4⟩ := rd_int Tryd.underlying22 h4
  obtain ⟨x5, f5, o5⟩ := rd_bool Tryd.underlying4 h5
  obtain ⟨x6, f6, o6⟩ := rd_bool Tryd.underlying4 h6
  refine ⟨⟨x0, x1, x2, x3, x4, x5, x6⟩, ?_, o0, o1, o2, o3, o4, o5, o6, trivial⟩
  subst ez; subst f6; subst e6; subst f5; subst e5; subst f4; subst e4; subst f3; subst e3; subst f2; subst e2; subst f1; subst e1; subst f0; subst e0
  rfl
theorem rd_api_Civil {B n : Nat} {cells : List AV} (h : WT Tryd.prog B n 34 cells) : ∃ x : api_Civil, cells = api_Civil.c x ∧ api_Civil.ok B x := by
  obtain ⟨n', h⟩ := rd_struct Tryd.underlying34 h
  obtain ⟨a0, b0, e0, h0, a1, b1, e1, h1, a2, b2, e2, h2, a3, b3, e3, h3, a4, b4, e4, h4, a5, b5, e5, h5, ez⟩ := h
  obtain ⟨x0, f0, o0⟩ := rd_int Tryd.underlying3 h0
  obtain ⟨x1, f1, o1⟩ := rd_int Tryd.underlying3 h1
  obtain ⟨x2, f2, o2⟩ := rd_int Tryd.underlying3 h2
  obtain ⟨x3, f3, o3⟩ := rd_int Tryd.underlying3 h3
  obtain ⟨x4, f4, o4⟩ := rd_int Tryd.underlying3 h4
  obtain ⟨x5, f5, o5⟩ := rd_int Tryd.underlying3 h5
  refine ⟨⟨x0, x1, x2, x3, x4, x5⟩, ?_, o0, o1, o2, o3, o4, o5, trivial⟩
  subst ez; subst f5; subst e5; subst f4; subst e4; subst f3; subst e3; subst f2; subst e2; subst f1; subst e1; subst f0; subst e0
  rfl
end Go.T
