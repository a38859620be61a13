/-
  The law MoverTells (layer 20) answers true for every map, shard, result and shard that it is called with, and leaves them as they read; condition: what it reads is together of bulk at most 1048576 (the form '..UptoSaid').
-/
import Derived.Test.YtndnfbggelcpiaaLawE
import Derived.Test.YtndnfbggelcpiaaCertB
import Derived.Test.YtndnfbggelcpiaaRead
import Derived.Test.YtndnfbggelcpiaaRows
import Derived.WalkKit
import Derived.ProofKit
import Derived.OpenShut
import Derived.JoinedCond
namespace Go.Proofs.Ytndnfbggelcpiaa.moverTells
open Go.ChangeShapes Go.WideShapes Go.ChangeAt Go.RowKit Go.Ab Go.T
set_option linter.unusedVariables false
theorem awake_ok : matinslaw20_awake 2000000 = some true := by kernel_rfl
theorem own : ownKnob Try.prog.godebug = none := by kernel_rfl
theorem laidOut : laidOutB Try.prog = true := by kernel_rfl
theorem readable : (Try.f3.params.toList.all fun t => Try.prog.readableRec t && decide (t < Try.prog.types.size)) = true := by kernel_rfl
theorem okTypes : (Try.f3.params.toList.all fun t => okT Try.prog 12 t) = true := by kernel_rfl
mutual
theorem bulk1 {H : Type} : ∀ d : DataW H, Rows.uptoBulk d = bulk d
  | .lit l => by cases l <;> simp [Rows.uptoBulk, bulk]
  | .nil => by simp [Rows.uptoBulk, bulk]
  | .ptr d => by simp [Rows.uptoBulk, bulk, bulk1 d]
  | .slice es ss => by simp [Rows.uptoBulk, bulk, bulk2 es, bulk2 ss]
  | .agg ps => by simp [Rows.uptoBulk, bulk, bulk2 ps]
  | .iface _ d => by simp [Rows.uptoBulk, bulk, bulk1 d]
  | .map es => by simp [Rows.uptoBulk, bulk, bulk3 es]
  | .held _ => by simp [Rows.uptoBulk, bulk]
theorem bulk2 {H : Type} : ∀ l : List (DataW H), Rows.uptoBulkAll l = bulkAll l
  | [] => by simp [Rows.uptoBulkAll, bulkAll]
  | d :: r => by simp [Rows.uptoBulkAll, bulkAll, bulk1 d, bulk2 r]
theorem bulk3 {H : Type} : ∀ l : List (Lit × DataW H), Rows.uptoBulkEntries l = bulkEntries l
  | [] => by simp [Rows.uptoBulkEntries, bulkEntries]
  | (x, d) :: r => by cases x <;> simp [Rows.uptoBulkEntries, bulkEntries, Rows.uptoBulkEntry, bulkEntry, bulk1 d, bulk3 r]
end
theorem contract (H : Type) (enc : TypeId × Value → H) (W : World) (base : Nat) (args : Array Value) (ds gs : List (DataW H)) (before : List MemPlace)
    (hval : ∀ (j : Nat) t v, Try.f3.params[j]? = some t → args[j]? = some v → Value.okWide Try.prog W .any base t v)
    (hW : DataW.Whole enc Try.prog Try.f3.params.toList Rows.moverTellsSpec.vars false W args.toList ds gs before) (hk : Rows.uptoSmall H (ds ++ gs) = true) :
    Calls Try.prog 3 args W fun e W' => ∃ v, e = .returned v ∧ Rows.moverTellsSpec.post enc Try.prog Try.f3 false true false false W args v W' := by
  have hW' := hW
  obtain ⟨p, q, hA, hV, rfl, hfz, hnd⟩ := hW
  obtain ⟨rfl, rfl⟩ := trodVars_none hV
  have hb : bulkAll ds ≤ 1048576 := by
    have := of_decide_eq_true hk
    rw [List.append_nil, bulk2] at this
    exact this
  obtain ⟨xs, hxs, hx⟩ := read_args (n := 12) (B := 1048576) (by unfold LIM; omega) Try.f3.params.toList args.toList ds p okTypes (fun j t v a b => hval j t v (by simpa using a) (by simpa using b)) hA hb
  have hA2 := hA
  rw [Try.params3] at hA2
  obtain ⟨v0, vs0, d0, ds0, p0, q0, hargs, rfl, hp0, h0, hA2⟩ := trodAll_cons hA2
  obtain ⟨v1, vs1, d1, ds1, p1, q1, rfl, rfl, rfl, h1, hA2⟩ := trodAll_cons hA2
  obtain ⟨v2, vs2, d2, ds2, p2, q2, rfl, rfl, rfl, h2, hA2⟩ := trodAll_cons hA2
  obtain ⟨v3, vs3, d3, ds3, p3, q3, rfl, rfl, rfl, h3, hA2⟩ := trodAll_cons hA2
  obtain ⟨-, rfl, -⟩ := trodAll_nil hA2
  rw [Try.params3] at hxs
  obtain ⟨x0, r0, rfl, w0, x1, r1, rfl, w1, x2, r2, rfl, w2, x3, r3, rfl, w3, rfl⟩ := hxs
  obtain ⟨c0, rfl, u0⟩ := rd_arg Try.underlying26 w0
  obtain ⟨a0, rfl, o0⟩ := rd_api_Atlas u0
  obtain ⟨c1, rfl, u1⟩ := rd_arg Try.underlying30 w1
  obtain ⟨a1, rfl, o1⟩ := rd_api_Shard u1
  obtain ⟨c2, rfl, u2⟩ := rd_arg Try.underlying33 w2
  obtain ⟨a2, rfl, o2⟩ := rd_api_Result u2
  obtain ⟨c3, rfl, u3⟩ := rd_arg Try.underlying30 w3
  obtain ⟨a3, rfl, o3⟩ := rd_api_Shard u3
  exact law_done (tb := 4) laidOut readable rfl hW' (fun S g row h => by cases h) hx (matinslaw20_MoverTells_FC 2000000 a0 a1 a2 a3 true (MoverTells_true (by omega) awake_ok o0 o1 o3)) rfl rfl rfl rfl Try.underlying4
set_option maxRecDepth 100000 in
theorem lifted (os : Go.Os) (started : os.Started) (H : Type) (enc : TypeId × Value → H) (F : Stop.Interp) :
    ReturnsInHanded {} Try.checked os 3 .any ((Rows.OpenSpec.upto Rows.moverTellsSpec).pre6 enc Try.prog Try.f3 Rows.moverTellsUptoRow.domain false) (((Rows.OpenSpec.upto Rows.moverTellsSpec).at F).post enc Try.prog Try.f3 false true false false) := by
  refine returnsInHanded_of_cond (C := Try.checked) (s := Rows.OpenSpec.upto Rows.moverTellsSpec) (k := Rows.uptoSmall) rfl own started (by kernel_rfl) Try.func3
    (OpenSpec.witness (enc := enc) (C := Try.checked) (s := Rows.OpenSpec.upto Rows.moverTellsSpec) (k := Rows.uptoSmall) rfl false ⟨#[], #[.agg #[.int IntKind.i64 0, .int IntKind.i64 0, .slice none 0 0, .int IntKind.i64 0, .int IntKind.i64 0, .int IntKind.i64 0, .int IntKind.i64 0, .int IntKind.i64 0, .int IntKind.i64 0, .int IntKind.i64 0, .string ⟨#[]⟩], .agg #[.int IntKind.i64 0, .int IntKind.i64 0, .int IntKind.i64 0, .string ⟨#[]⟩, .string ⟨#[]⟩, .slice none 0 0, .slice none 0 0], .agg #[.int IntKind.i64 0, .int IntKind.i64 0, .slice none 0 0], .agg #[.int IntKind.i64 0, .int IntKind.i64 0, .int IntKind.i64 0, .string ⟨#[]⟩, .string ⟨#[]⟩, .slice none 0 0, .slice none 0 0]], []⟩ 12 (by kernel_rfl) (by kernel_rfl) (by kernel_rfl)
      (x := ([.agg [.lit (.int IntKind.i64 0), .lit (.int IntKind.i64 0), .nil, .agg [.lit (.int IntKind.i64 0), .lit (.int IntKind.i64 0), .lit (.int IntKind.i64 0), .lit (.int IntKind.i64 0), .lit (.int IntKind.i64 0), .lit (.int IntKind.i64 0), .lit (.int IntKind.i64 0), .lit (.string [])]], .agg [.lit (.int IntKind.i64 0), .lit (.int IntKind.i64 0), .lit (.int IntKind.i64 0), .lit (.string []), .lit (.string []), .nil, .nil], .agg [.lit (.int IntKind.i64 0), .lit (.int IntKind.i64 0), .nil], .agg [.lit (.int IntKind.i64 0), .lit (.int IntKind.i64 0), .lit (.int IntKind.i64 0), .lit (.string []), .lit (.string []), .nil, .nil]], [], [])) (by kernel_rfl) rfl (by kernel_rfl)) ?_
  intro W base args ds gs before hval hW _ hk _
  exact contract H enc W base args ds gs before hval hW hk
theorem over : Rows.moverTellsUptoRow.holds Try.pinned (Rows.OpenSpec.upto Rows.moverTellsSpec) :=
  OpenClaim.holds_of_cond 3 Try.f3 rfl rfl rfl rfl rfl rfl rfl ⟨rfl, rfl, rfl, rfl, rfl⟩ rfl rfl rfl rfl rfl (by kernel_rfl) Try.func3 (by kernel_rfl)
    (of_decide_eq_true (by kernel_rfl)) (by unfold Func.isWrapper; first | (rw [if_pos (by decide +kernel)]; kernel_rfl) | (rw [if_neg (by decide +kernel)]; exact ⟨rfl, rfl⟩))
    (fun os started H enc _ F => lifted os started H enc F)
theorem proved : Rows.MoverTellsUptoSaid := over
end Go.Proofs.Ytndnfbggelcpiaa.moverTells
