/-
  The law CronBack (layer 6) answers true for every expression and every text that it is called with, and leaves them as they read; condition: what it reads is together of bulk at most 1048576 (the form '..UptoSaid'); its row lists package variables, and the card ties them to the program's text.
-/
import Derived.Test.YtceclaaopomcnaaDoorLCronX
import Derived.Test.YtceclaaopomcnaaDoorCertA
import Derived.Test.YtceclaaopomcnaaDoorRead
import Derived.Test.YtceclaaopomcnaaDoorAbLaid
import Derived.Test.YtceclaaopomcnaaDoorCards
import Derived.Test.YtceclaaopomcnaaDoorTie
import Derived.WalkKit
import Derived.ProofKit
import Derived.OpenShut
import Derived.JoinedCond
import Derived.LaidMore
import Derived.Lay
import Derived.SevenTiedAt
import Derived.Deep.DeepHandedRow
namespace Go.Proofs.YtceclaaopomcnaaDoor.cronBack
open Go.ChangeShapes Go.WideShapes Go.ChangeAt Go.RowKit Go.Ab Go.T
set_option linter.unusedVariables false
set_option maxRecDepth 100000
def spanZ : List (Int × Int) := [(0, 59), (0, 23), (1, 31), (1, 12), (0, 7)]
theorem cells_tab {W : World} (h : laidMetH Tryd.prog Rows.cronBackUptoRow.laid W) : Lib.TabIs Tryd.prog W "math/bits.deBruijn64tab" .u8 (Lib.deBruijn64tab.map Int.ofNat) :=
  Lib.tabIs_of_head (rest := []) (g := 1) (t := 77) (e := 5) (n := 64) (by kernel_rfl) (by kernel_rfl) (by kernel_rfl) (by kernel_rfl) (by kernel_rfl) (by kernel_rfl)
    (laid_head h (d := Lib.tabData .u8 (Lib.deBruijn64tab.map Int.ofNat)) (by kernel_rfl) rfl)
theorem gok {W : World} (h : laidMetH Tryd.prog Rows.cronBackUptoRow.laid W) (hsh : W.ShapedOpen Tryd.prog) : ∃ ml, GOk (GM ml) (fun b => b < W.heap.size) W := by
  obtain ⟨m, hm⟩ := Tryd.laysM145.s1_3 W hsh
  refine ⟨m, fun g row hg => ?_⟩
  unfold GM at hg
  split at hg
  · injection hg with hg
    subst hg
    have key := pairs_cells (name := "matins/cron.spans") (k := .i64) (zs := spanZ) (g := 0) (by kernel_rfl) (by kernel_rfl) Tryd.underlying54 Tryd.underlying53 rfl rfl rfl rfl Tryd.underlying3 (by kernel_rfl) (by kernel_rfl)
      (laid_head h (d := .agg (spanZ.map fun z => .agg [.lit (.int .i64 z.1), .lit (.int .i64 z.2)])) (by kernel_rfl) rfl)
    refine irep_ints [(.i64, 0), (.i64, 59), (.i64, 0), (.i64, 23), (.i64, 1), (.i64, 31), (.i64, 1), (.i64, 12), (.i64, 0), (.i64, 7)] (by simp) (fun j z hz => ?_)
    have k0 := key 0 (0, 59) rfl
    have k1 := key 1 (0, 23) rfl
    have k2 := key 2 (1, 31) rfl
    have k3 := key 3 (1, 12) rfl
    have k4 := key 4 (0, 7) rfl
    match j, hz with
    | 0, hz => obtain rfl := Option.some.inj hz; exact k0.1
    | 1, hz => obtain rfl := Option.some.inj hz; exact k0.2
    | 2, hz => obtain rfl := Option.some.inj hz; exact k1.1
    | 3, hz => obtain rfl := Option.some.inj hz; exact k1.2
    | 4, hz => obtain rfl := Option.some.inj hz; exact k2.1
    | 5, hz => obtain rfl := Option.some.inj hz; exact k2.2
    | 6, hz => obtain rfl := Option.some.inj hz; exact k3.1
    | 7, hz => obtain rfl := Option.some.inj hz; exact k3.2
    | 8, hz => obtain rfl := Option.some.inj hz; exact k4.1
    | 9, hz => obtain rfl := Option.some.inj hz; exact k4.2
    | j + 10, hz => simp at hz
  · injection hg with hg
    subst hg
    have hT := cells_tab h
    have e : (Lib.deBruijn64tab.map fun (n : Nat) => AV.int .u8 (n : Int)) = (Lib.deBruijn64tab.map fun (n : Nat) => (IntKind.u8, (n : Int))).map fun z => AV.int z.1 z.2 := by rw [List.map_map]; rfl
    rw [e]
    refine irep_ints _ (by decide) (fun j z hz => ?_)
    rw [List.getElem?_map, Option.map_eq_some_iff] at hz
    obtain ⟨n, hn, rfl⟩ := hz
    have hj := (List.getElem?_eq_some_iff.1 hn).1
    have := hT.cell (g := 1) (by kernel_rfl) j (by simpa using hj)
    rw [this]
    simp [List.getD_eq_getElem?_getD, hn]
  · injection hg with hg
    subst hg
    exact irep_ints [(.i64, m)] (by simp) (fun j z hz => by
      cases j with
      | zero => simp at hz; subst hz; exact hm
      | succ j => simp at hz)
  · cases hg
theorem own : ownKnob Tryd.prog.godebug = none := by kernel_rfl
theorem laidOut : laidOutB Tryd.prog = true := by kernel_rfl
theorem readable : (Tryd.f3.params.toList.all fun t => Tryd.prog.readableRec t && decide (t < Tryd.prog.types.size)) = true := by kernel_rfl
theorem okTypes : (Tryd.f3.params.toList.all fun t => okT Tryd.prog 12 t) = true := by kernel_rfl
mutual
theorem bulk1 {H : Type} : ∀ d : DataW H, Rows.uptoBulk d = bulk d
  | .lit l => by cases l <;> simp [Rows.uptoBulk, bulk]
  | .nil => by simp [Rows.uptoBulk, bulk]
  | .ptr d => by simp [Rows.uptoBulk, bulk, bulk1 d]
  | .slice es ss => by simp [Rows.uptoBulk, bulk, bulk2 es, bulk2 ss]
  | .agg ps => by simp [Rows.uptoBulk, bulk, bulk2 ps]
  | .iface _ d => by simp [Rows.uptoBulk, bulk, bulk1 d]
  | .map es => by simp [Rows.uptoBulk, bulk, bulk3 es]
  | .held _ => by simp [Rows.uptoBulk, bulk]
theorem bulk2 {H : Type} : ∀ l : List (DataW H), Rows.uptoBulkAll l = bulkAll l
  | [] => by simp [Rows.uptoBulkAll, bulkAll]
  | d :: r => by simp [Rows.uptoBulkAll, bulkAll, bulk1 d, bulk2 r]
theorem bulk3 {H : Type} : ∀ l : List (Lit × DataW H), Rows.uptoBulkEntries l = bulkEntries l
  | [] => by simp [Rows.uptoBulkEntries, bulkEntries]
  | (x, d) :: r => by cases x <;> simp [Rows.uptoBulkEntries, bulkEntries, Rows.uptoBulkEntry, bulkEntry, bulk1 d, bulk3 r]
end
theorem contract (H : Type) (enc : TypeId × Value → H) (W : World) (base : Nat) (args : Array Value) (ds gs : List (DataW H)) (before : List MemPlace)
    (hval : ∀ (j : Nat) t v, Tryd.f3.params[j]? = some t → args[j]? = some v → Value.okWide Tryd.prog W .any base t v)
    (hW : DataW.Whole enc Tryd.prog Tryd.f3.params.toList Rows.cronBackSpec.vars false W args.toList ds gs before) (hk : Rows.uptoSmall H (ds ++ gs) = true) (hL : laidMetH Tryd.prog Rows.cronBackUptoRow.laid W) (hsh : W.ShapedOpen Tryd.prog) :
    Calls Tryd.prog 3 args W fun e W' => ∃ v, e = .returned v ∧ Rows.cronBackSpec.post enc Tryd.prog Tryd.f3 false true false false W args v W' := by
  obtain ⟨ml, hgok⟩ := gok hL hsh
  have hW' := hW
  obtain ⟨p, q, hA, hV, rfl, hfz, hnd⟩ := hW
  obtain ⟨rfl, rfl⟩ := trodVars_none hV
  have hb : bulkAll ds ≤ 1048576 := by
    have := of_decide_eq_true hk
    rw [List.append_nil, bulk2] at this
    exact this
  obtain ⟨xs, hxs, hx⟩ := read_args (n := 12) (B := 1048576) (by unfold LIM; omega) Tryd.f3.params.toList args.toList ds p okTypes (fun j t v a b => hval j t v (by simpa using a) (by simpa using b)) hA hb
  have hA2 := hA
  rw [Tryd.params3] at hA2
  obtain ⟨v0, vs0, d0, ds0, p0, q0, hargs, rfl, hp0, h0, hA2⟩ := trodAll_cons hA2
  obtain ⟨v1, vs1, d1, ds1, p1, q1, rfl, rfl, rfl, h1, hA2⟩ := trodAll_cons hA2
  obtain ⟨-, rfl, -⟩ := trodAll_nil hA2
  rw [Tryd.params3] at hxs
  obtain ⟨x0, r0, rfl, w0, x1, r1, rfl, w1, rfl⟩ := hxs
  obtain ⟨c0, rfl, u0⟩ := rd_arg Tryd.underlying24 w0
  obtain ⟨a0, rfl, o0⟩ := rd_api_Cron u0
  obtain ⟨a1, e1, o1⟩ := rd_str Tryd.underlying9 (show WT Tryd.prog 1048576 12 9 [x1] from w1)
  obtain rfl : x1 = _ := List.head_eq_of_cons_eq e1
  exact law_done (tb := 4) laidOut readable rfl hW' hgok hx (matinslaw06_CronBack_FC (ml := ml) 4000000 a0 a1 true (CronBack_true a0 a1 o0)) rfl rfl rfl rfl Tryd.underlying4
set_option maxRecDepth 100000 in
theorem laid_met (os : Os) : laidMet Tryd.prog Rows.cronBackUptoRow.laid ((World.laidAll Tryd.prog os Rows.cronBackUptoRow.laid).forCall (fun _ _ => 0) ⟨#[], #[.agg #[.int IntKind.u64 0, .int IntKind.u64 0, .int IntKind.u64 0, .int IntKind.u64 0, .int IntKind.u64 0, .bool false, .bool false], .string ⟨#[]⟩], []⟩).memory :=
  laidMet_laidAll _ (by kernel_rfl) (by kernel_rfl)
set_option maxRecDepth 100000 in
theorem reads (os : Os) {H : Type} (enc : TypeId × Value → H) : ∃ places, DataW.whole enc Tryd.prog ((World.laidAll Tryd.prog os Rows.cronBackUptoRow.laid).forCall (fun _ _ => 0) ⟨#[], #[.agg #[.int IntKind.u64 0, .int IntKind.u64 0, .int IntKind.u64 0, .int IntKind.u64 0, .int IntKind.u64 0, .bool false, .bool false], .string ⟨#[]⟩], []⟩).memory Tryd.f3.params.toList Rows.cronBackSpec.vars false #[.agg #[.int IntKind.u64 0, .int IntKind.u64 0, .int IntKind.u64 0, .int IntKind.u64 0, .int IntKind.u64 0, .bool false, .bool false], .string ⟨#[]⟩].toList 12 = some ([.agg [.lit (.int IntKind.u64 0), .lit (.int IntKind.u64 0), .lit (.int IntKind.u64 0), .lit (.int IntKind.u64 0), .lit (.int IntKind.u64 0), .lit (.bool false), .lit (.bool false)], .lit (.string [])], [], places) :=
  ⟨[], by kernel_rfl⟩
set_option maxRecDepth 100000 in
theorem lifted (os : Go.Os) (started : os.Started) (H : Type) (enc : TypeId × Value → H) (F : Stop.Interp) :
    ReturnsInHanded {} Tryd.checked os 3 .any ((Rows.OpenSpec.upto Rows.cronBackSpec).preRow enc Tryd.prog Tryd.f3 Rows.cronBackUptoRow.domain false Rows.cronBackUptoRow.laid) (((Rows.OpenSpec.upto Rows.cronBackSpec).at F).post enc Tryd.prog Tryd.f3 false true false false) := by
  obtain ⟨places, hx⟩ := reads os enc
  refine returnsInHanded_of_row (C := Tryd.checked) (s := Rows.OpenSpec.upto Rows.cronBackSpec) own started (by kernel_rfl) Tryd.func3
    (witness_row_at (enc := enc) (C := Tryd.checked) false (World.laidAll Tryd.prog os Rows.cronBackUptoRow.laid) #[.agg #[.int IntKind.u64 0, .int IntKind.u64 0, .int IntKind.u64 0, .int IntKind.u64 0, .int IntKind.u64 0, .bool false, .bool false], .string ⟨#[]⟩] (World.laidAll_os _ _ _) (by kernel_rfl) (by kernel_rfl) (by kernel_rfl)
      (OpenSpec.preRow_of_cond 12 hx (by kernel_rfl) (fun k hk => by cases hk; kernel_rfl) (by kernel_rfl) (laid_met os))) ?_
  intro W base args ds gs before hval hW _ hk _ hL hsh _
  exact contract H enc W base args ds gs before hval hW (hk _ rfl) hL hsh
theorem saidUpto : Rows.CronBackUptoSaid :=
  OpenClaim.holds_of_cond 3 Tryd.f3 rfl rfl rfl rfl rfl rfl rfl ⟨rfl, rfl, rfl, rfl, rfl⟩ rfl rfl rfl rfl rfl (by kernel_rfl) Tryd.func3 (by kernel_rfl)
    (of_decide_eq_true (by kernel_rfl)) (by unfold Func.isWrapper; first | (rw [if_pos (by decide +kernel)]; kernel_rfl) | (rw [if_neg (by decide +kernel)]; exact ⟨rfl, rfl⟩))
    (fun os started H enc _ F => by rw [OpenClaim.pre_eq_preRow]; exact lifted os started H enc F)
theorem plain (f : FuncId) (fn : Func) (hf : Tryd.pinned.checked.prog.funcNamed "matins/matinslaw06.CronBack" = some f) (hfn : Tryd.pinned.checked.prog.funcs[f]? = some fn) :
    Rows.cronBackUptoCard.stood.looks = Tryd.pinned.checked.prog.looks [] ∧ ∀ (j : Nat) t, fn.params[j]? = some t → Tryd.pinned.checked.prog.wantsStandIn t = false := by
  obtain rfl : f = 3 := Option.some.inj ((show Tryd.prog.funcNamed "matins/matinslaw06.CronBack" = some 3 by kernel_rfl).symm.trans hf) |>.symm
  obtain rfl : fn = Tryd.f3 := (Option.some.inj (Tryd.func3.symm.trans hfn)).symm
  refine ⟨by kernel_rfl, fun j t ht => ?_⟩
  rw [Tryd.params3] at ht
  have hm : t ∈ [24, 9] := by simpa using Array.mem_of_getElem? ht
  have hall : ([24, 9].all fun u => !Tryd.prog.wantsStandIn u) = true := by kernel_rfl
  exact (show Tryd.prog.wantsStandIn t = false by simpa using List.all_eq_true.1 hall t hm)
theorem cardUpto : Rows.CronBackUptoCardSaid :=
  Claim7.holds_tied_plain_at .later [] _ _ _ _ saidUpto (fun _ h => by cases h) (by kernel_rfl) (fun _ h => by cases h) cronBackUpto_row_tie rfl ⟨rfl, rfl⟩ (by kernel_rfl) rfl plain (by kernel_rfl)
end Go.Proofs.YtceclaaopomcnaaDoor.cronBack
