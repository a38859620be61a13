/-
  ReadJw: arguments that can be read as data stand as typed values. Printed by a program.
-/
import Derived.Test.YtklegekpcdmdbaaGreatDoorTy
import Derived.Test.YtklegekpcdmdbaaGreatDoorAbRead
import Derived.Test.YtklegekpcdmdbaaGreatDoorProg
set_option linter.unusedVariables false
set_option maxRecDepth 20000
namespace Go.T
open Go Go.Ab Go.Proofs
theorem rd_api_Cmd {B n : Nat} {cells : List AV} (h : WT Tryz.prog B n 24 cells) : ∃ x : api_Cmd, cells = api_Cmd.c x ∧ api_Cmd.ok B x := by
  obtain ⟨n', h⟩ := rd_struct Tryz.underlying24 h
  obtain ⟨a0, b0, e0, h0, a1, b1, e1, h1, a2, b2, e2, h2, a3, b3, e3, h3, a4, b4, e4, h4, a5, b5, e5, h5, a6, b6, e6, h6, a7, b7, e7, h7, ez⟩ := h
  obtain ⟨x0, f0, o0⟩ := rd_int Tryz.underlying3 h0
  obtain ⟨x1, f1, o1⟩ := rd_int Tryz.underlying3 h1
  obtain ⟨x2, f2, o2⟩ := rd_int Tryz.underlying2 h2
  obtain ⟨x3, f3, o3⟩ := rd_str Tryz.underlying9 h3
  obtain ⟨x4, f4, o4⟩ := rd_str Tryz.underlying9 h4
  obtain ⟨x5, f5, o5⟩ := rd_str Tryz.underlying9 h5
  obtain ⟨x6, f6, o6⟩ := rd_str Tryz.underlying9 h6
  obtain ⟨x7, f7, o7⟩ := rd_int Tryz.underlying2 h7
  refine ⟨⟨x0, x1, x2, x3, x4, x5, x6, x7⟩, ?_, o0, o1, o2, o3, o4, o5, o6, o7, trivial⟩
  subst ez; subst f7; subst e7; subst f6; subst e6; subst f5; subst e5; subst f4; subst e4; subst f3; subst e3; subst f2; subst e2; subst f1; subst e1; subst f0; subst e0
  rfl
theorem rd_api_Job {B n : Nat} {cells : List AV} (h : WT Tryz.prog B n 55 cells) : ∃ x : api_Job, cells = api_Job.c x ∧ api_Job.ok B x := by
  obtain ⟨n', h⟩ := rd_struct Tryz.underlying55 h
  obtain ⟨a0, b0, e0, h0, a1, b1, e1, h1, a2, b2, e2, h2, a3, b3, e3, h3, a4, b4, e4, h4, a5, b5, e5, h5, a6, b6, e6, h6, a7, b7, e7, h7, ez⟩ := h
  obtain ⟨x0, f0, o0⟩ := rd_str Tryz.underlying9 h0
  obtain ⟨x1, f1, o1⟩ := rd_str Tryz.underlying9 h1
  obtain ⟨x2, f2, o2⟩ := rd_str Tryz.underlying9 h2
  obtain ⟨x3, f3, o3⟩ := rd_str Tryz.underlying9 h3
  obtain ⟨x4, f4, o4⟩ := rd_int Tryz.underlying3 h4
  obtain ⟨x5, f5, o5⟩ := rd_int Tryz.underlying2 h5
  obtain ⟨x6, f6, o6⟩ := rd_bool Tryz.underlying4 h6
  obtain ⟨x7, f7, o7⟩ := rd_int Tryz.underlying2 h7
  refine ⟨⟨x0, x1, x2, x3, x4, x5, x6, x7⟩, ?_, o0, o1, o2, o3, o4, o5, o6, o7, trivial⟩
  subst ez; subst f7; subst e7; subst f6; subst e6; subst f5; subst e5; subst f4; subst e4; subst f3; subst e3; subst f2; subst e2; subst f1; subst e1; subst f0; subst e0
  rfl
theorem rd_api_Result {B n : Nat} {cells : List AV} (h : WT Tryz.prog B n 28 cells) : ∃ x : api_Result, cells = api_Result.c x ∧ api_Result.ok B x := by
  obtain ⟨n', h⟩ := rd_struct Tryz.underlying28 h
  obtain ⟨a0, b0, e0, h0, a1, b1, e1, h1, a2, b2, e2, h2, ez⟩ := h
  obtain ⟨x0, f0, o0⟩ := rd_int Tryz.underlying25 h0
  obtain ⟨x1, f1, o1⟩ := rd_int Tryz.underlying2 h1
  obtain ⟨x2, f2, o2⟩ := rd_sl Tryz.underlying26 (fun _ _ h => rd_api_Job h) h2
  refine ⟨⟨x0, x1, x2⟩, ?_, o0, o1, o2, trivial⟩
  subst ez; subst f2; subst e2; subst f1; subst e1; subst f0; subst e0
  rfl
theorem rd_api_Seen {B n : Nat} {cells : List AV} (h : WT Tryz.prog B n 286 cells) : ∃ x : api_Seen, cells = api_Seen.c x ∧ api_Seen.ok B x := by
  obtain ⟨n', h⟩ := rd_struct Tryz.underlying286 h
  obtain ⟨a0, b0, e0, h0, a1, b1, e1, h1, a2, b2, e2, h2, ez⟩ := h
  obtain ⟨x0, f0, o0⟩ := rd_int Tryz.underlying3 h0
  obtain ⟨x1, f1, o1⟩ := rd_int Tryz.underlying2 h1
  obtain ⟨x2, f2, o2⟩ := rd_api_Result h2
  refine ⟨⟨x0, x1, x2⟩, ?_, o0, o1, o2, trivial⟩
  subst ez; subst f2; subst e2; subst f1; subst e1; subst f0; subst e0
  rfl
theorem rd_api_Shard {B n : Nat} {cells : List AV} (h : WT Tryz.prog B n 37 cells) : ∃ x : api_Shard, cells = api_Shard.c x ∧ api_Shard.ok B x := by
  obtain ⟨n', h⟩ := rd_struct Tryz.underlying37 h
  obtain ⟨a0, b0, e0, h0, a1, b1, e1, h1, a2, b2, e2, h2, a3, b3, e3, h3, a4, b4, e4, h4, a5, b5, e5, h5, a6, b6, e6, h6, ez⟩ := h
  obtain ⟨x0, f0, o0⟩ := rd_int Tryz.underlying3 h0
  obtain ⟨x1, f1, o1⟩ := rd_int Tryz.underlying2 h1
  obtain ⟨x2, f2, o2⟩ := rd_int Tryz.underlying3 h2
  obtain ⟨x3, f3, o3⟩ := rd_str Tryz.underlying9 h3
  obtain ⟨x4, f4, o4⟩ := rd_str Tryz.underlying9 h4
  obtain ⟨x5, f5, o5⟩ := rd_sl Tryz.underlying26 (fun _ _ h => rd_api_Job h) h5
  obtain ⟨x6, f6, o6⟩ := rd_sl Tryz.underlying35 (fun _ _ h => rd_api_Seen h) h6
  refine ⟨⟨x0, x1, x2, x3, x4, x5, x6⟩, ?_, o0, o1, o2, o3, o4, o5, o6, trivial⟩
  subst ez; subst f6; subst e6; subst f5; subst e5; subst f4; subst e4; subst f3; subst e3; subst f2; subst e2; subst f1; subst e1; subst f0; subst e0
  rfl
theorem rd_api_Order {B n : Nat} {cells : List AV} (h : WT Tryz.prog B n 39 cells) : ∃ x : api_Order, cells = api_Order.c x ∧ api_Order.ok B x := by
  obtain ⟨n', h⟩ := rd_struct Tryz.underlying39 h
  obtain ⟨a0, b0, e0, h0, a1, b1, e1, h1, a2, b2, e2, h2, a3, b3, e3, h3, a4, b4, e4, h4, a5, b5, e5, h5, a6, b6, e6, h6, a7, b7, e7, h7, ez⟩ := h
  obtain ⟨x0, f0, o0⟩ := rd_int Tryz.underlying3 h0
  obtain ⟨x1, f1, o1⟩ := rd_int Tryz.underlying3 h1
  obtain ⟨x2, f2, o2⟩ := rd_int Tryz.underlying2 h2
  obtain ⟨x3, f3, o3⟩ := rd_int Tryz.underlying3 h3
  obtain ⟨x4, f4, o4⟩ := rd_int Tryz.underlying2 h4
  obtain ⟨x5, f5, o5⟩ := rd_str Tryz.underlying9 h5
  obtain ⟨x6, f6, o6⟩ := rd_api_Cmd h6
  obtain ⟨x7, f7, o7⟩ := rd_api_Shard h7
  refine ⟨⟨x0, x1, x2, x3, x4, x5, x6, x7⟩, ?_, o0, o1, o2, o3, o4, o5, o6, o7, trivial⟩
  subst ez; subst f7; subst e7; subst f6; subst e6; subst f5; subst e5; subst f4; subst e4; subst f3; subst e3; subst f2; subst e2; subst f1; subst e1; subst f0; subst e0
  rfl
theorem rd_api_Event {B n : Nat} {cells : List AV} (h : WT Tryz.prog B n 41 cells) : ∃ x : api_Event, cells = api_Event.c x ∧ api_Event.ok B x := by
  obtain ⟨n', h⟩ := rd_struct Tryz.underlying41 h
  obtain ⟨a0, b0, e0, h0, a1, b1, e1, h1, a2, b2, e2, h2, a3, b3, e3, h3, ez⟩ := h
  obtain ⟨x0, f0, o0⟩ := rd_int Tryz.underlying3 h0
  obtain ⟨x1, f1, o1⟩ := rd_int Tryz.underlying3 h1
  obtain ⟨x2, f2, o2⟩ := rd_api_Order h2
  obtain ⟨x3, f3, o3⟩ := rd_api_Result h3
  refine ⟨⟨x0, x1, x2, x3⟩, ?_, o0, o1, o2, o3, trivial⟩
  subst ez; subst f3; subst e3; subst f2; subst e2; subst f1; subst e1; subst f0; subst e0
  rfl
theorem rd_api_Call {B n : Nat} {cells : List AV} (h : WT Tryz.prog B n 30 cells) : ∃ x : api_Call, cells = api_Call.c x ∧ api_Call.ok B x := by
  obtain ⟨n', h⟩ := rd_struct Tryz.underlying30 h
  obtain ⟨a0, b0, e0, h0, a1, b1, e1, h1, a2, b2, e2, h2, a3, b3, e3, h3, a4, b4, e4, h4, a5, b5, e5, h5, ez⟩ := h
  obtain ⟨x0, f0, o0⟩ := rd_int Tryz.underlying3 h0
  obtain ⟨x1, f1, o1⟩ := rd_int Tryz.underlying2 h1
  obtain ⟨x2, f2, o2⟩ := rd_api_Cmd h2
  obtain ⟨x3, f3, o3⟩ := rd_int Tryz.underlying3 h3
  obtain ⟨x4, f4, o4⟩ := rd_int Tryz.underlying3 h4
  obtain ⟨x5, f5, o5⟩ := rd_api_Result h5
  refine ⟨⟨x0, x1, x2, x3, x4, x5⟩, ?_, o0, o1, o2, o3, o4, o5, trivial⟩
  subst ez; subst f5; subst e5; subst f4; subst e4; subst f3; subst e3; subst f2; subst e2; subst f1; subst e1; subst f0; subst e0
  rfl
end Go.T
