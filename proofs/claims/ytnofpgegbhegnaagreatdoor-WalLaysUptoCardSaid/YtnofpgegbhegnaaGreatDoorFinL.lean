/-
  The law WalLays (layer 10) answers true for every script, every list of records, every keep and every torn that it is called with, and leaves them as they read; condition: what it reads is together of bulk at most 1048576 (the form '..UptoSaid'); its row lists package variables, and the card ties them to the program's text.
-/
import Derived.Test.YtnofpgegbhegnaaGreatDoorLWalR
import Derived.Test.YtnofpgegbhegnaaGreatDoorCertB
import Derived.Test.YtnofpgegbhegnaaGreatDoorRead
import Derived.Test.YtnofpgegbhegnaaGreatDoorAbLaid
import Derived.Test.YtnofpgegbhegnaaGreatDoorAbGok
import Derived.Test.YtnofpgegbhegnaaGreatDoorCards
import Derived.Test.YtnofpgegbhegnaaGreatDoorTie
import Derived.WalkKit
import Derived.ProofKit
import Derived.OpenShut
import Derived.JoinedCond
import Derived.LaidMore
import Derived.Lay
import Derived.SevenTiedAt
import Derived.Deep.DeepHandedRow
namespace Go.Proofs.YtnofpgegbhegnaaGreatDoor.walLays
open Go.ChangeShapes Go.WideShapes Go.ChangeAt Go.RowKit Go.Ab Go.T
set_option linter.unusedVariables false
set_option maxRecDepth 100000
theorem cells_pow {W : World} (h : laidMetH Tryz.prog Rows.walLaysUptoRow.laid W) : Lib.TabIs Tryz.prog W "internal/strconv.uint64pow10" .u64 Lib.pow10Tab :=
  Lib.tabIs_of_head (rest := []) (g := 2) (t := 170) (e := 106) (n := 20) (by kernel_rfl) (by kernel_rfl) (by kernel_rfl) (by kernel_rfl) (by kernel_rfl) (by kernel_rfl)
    (laid_head h (d := Lib.tabData .u64 Lib.pow10Tab) (by kernel_rfl) rfl)
theorem cells_tab {W : World} (h : laidMetH Tryz.prog Rows.walLaysUptoRow.laid W) : Lib.TabIs Tryz.prog W "math/bits.deBruijn64tab" .u8 (Lib.deBruijn64tab.map Int.ofNat) :=
  Lib.tabIs_of_head (rest := []) (g := 4) (t := 181) (e := 5) (n := 64) (by kernel_rfl) (by kernel_rfl) (by kernel_rfl) (by kernel_rfl) (by kernel_rfl) (by kernel_rfl)
    (laid_head h (d := Lib.tabData .u8 (Lib.deBruijn64tab.map Int.ofNat)) (by kernel_rfl) rfl)
theorem gok {W : World} (h : laidMetH Tryz.prog Rows.walLaysUptoRow.laid W) (hsh : W.ShapedOpen Tryz.prog) : ∃ ml, GOk (GM ml) (fun b => b < W.heap.size) W := by
  obtain ⟨e0, hv0, hi0, ho0⟩ := err_laid (g := 0) (tp := 176) (te := 178) (ts := 9) (laid_head h (name := "strconv.ErrSyntax") (d := .iface "*errors.errorString" (.ptr (.agg [.lit (.string [105, 110, 118, 97, 108, 105, 100, 32, 115, 121, 110, 116, 97, 120])]))) (by kernel_rfl) rfl) (by kernel_rfl) (by kernel_rfl) Tryz.underlying77 (by kernel_rfl) (by kernel_rfl) Tryz.underlying176 Tryz.underlying178 rfl rfl Tryz.underlying9 (by kernel_rfl) (by kernel_rfl)
  obtain ⟨e1, hv1, hi1, ho1⟩ := err_laid (g := 1) (tp := 176) (te := 178) (ts := 9) (laid_head h (name := "strconv.ErrRange") (d := .iface "*errors.errorString" (.ptr (.agg [.lit (.string [118, 97, 108, 117, 101, 32, 111, 117, 116, 32, 111, 102, 32, 114, 97, 110, 103, 101])]))) (by kernel_rfl) rfl) (by kernel_rfl) (by kernel_rfl) Tryz.underlying77 (by kernel_rfl) (by kernel_rfl) Tryz.underlying176 Tryz.underlying178 rfl rfl Tryz.underlying9 (by kernel_rfl) (by kernel_rfl)
  refine ⟨⟨0, e0, e1, hi0, hi1⟩, fun g row hg => ?_⟩
  unfold GM at hg
  split at hg
  · injection hg with hg
    subst hg
    exact grow_con hv0 (by kernel_rfl) ho0
  · injection hg with hg
    subst hg
    exact grow_con hv1 (by kernel_rfl) ho1
  · injection hg with hg
    subst hg
    exact grow_tab (cells_pow h) (by kernel_rfl) (by decide) (shaped_row (g := 2) (t := 170) (zero := Array.replicate 20 (.int .u64 0)) hsh (of_decide_eq_true (by kernel_rfl)) (by kernel_rfl) (by kernel_rfl))
  · injection hg with hg
    subst hg
    have e : (Lib.deBruijn64tab.map fun (n : Nat) => AV.int .u8 (n : Int)) = (Lib.deBruijn64tab.map Int.ofNat).map fun z => AV.int .u8 z := by rw [List.map_map]; rfl
    rw [e]
    exact grow_tab (cells_tab h) (by kernel_rfl) (by decide) (shaped_row (g := 4) (t := 181) (zero := Array.replicate 64 (.int .u8 0)) hsh (of_decide_eq_true (by kernel_rfl)) (by kernel_rfl) (by kernel_rfl))
  · cases hg
theorem own : ownKnob Tryz.prog.godebug = none := by kernel_rfl
theorem laidOut : laidOutB Tryz.prog = true := by kernel_rfl
theorem readable : (Tryz.f5.params.toList.all fun t => Tryz.prog.readableRec t && decide (t < Tryz.prog.types.size)) = true := by kernel_rfl
theorem okTypes : (Tryz.f5.params.toList.all fun t => okT Tryz.prog 12 t) = true := by kernel_rfl
mutual
theorem bulk1 {H : Type} : ∀ d : DataW H, Rows.uptoBulk d = bulk d
  | .lit l => by cases l <;> simp [Rows.uptoBulk, bulk]
  | .nil => by simp [Rows.uptoBulk, bulk]
  | .ptr d => by simp [Rows.uptoBulk, bulk, bulk1 d]
  | .slice es ss => by simp [Rows.uptoBulk, bulk, bulk2 es, bulk2 ss]
  | .agg ps => by simp [Rows.uptoBulk, bulk, bulk2 ps]
  | .iface _ d => by simp [Rows.uptoBulk, bulk, bulk1 d]
  | .map es => by simp [Rows.uptoBulk, bulk, bulk3 es]
  | .held _ => by simp [Rows.uptoBulk, bulk]
theorem bulk2 {H : Type} : ∀ l : List (DataW H), Rows.uptoBulkAll l = bulkAll l
  | [] => by simp [Rows.uptoBulkAll, bulkAll]
  | d :: r => by simp [Rows.uptoBulkAll, bulkAll, bulk1 d, bulk2 r]
theorem bulk3 {H : Type} : ∀ l : List (Lit × DataW H), Rows.uptoBulkEntries l = bulkEntries l
  | [] => by simp [Rows.uptoBulkEntries, bulkEntries]
  | (x, d) :: r => by cases x <;> simp [Rows.uptoBulkEntries, bulkEntries, Rows.uptoBulkEntry, bulkEntry, bulk1 d, bulk3 r]
end
theorem contract (H : Type) (enc : TypeId × Value → H) (W : World) (base : Nat) (args : Array Value) (ds gs : List (DataW H)) (before : List MemPlace)
    (hval : ∀ (j : Nat) t v, Tryz.f5.params[j]? = some t → args[j]? = some v → Value.okWide Tryz.prog W .any base t v)
    (hW : DataW.Whole enc Tryz.prog Tryz.f5.params.toList Rows.walLaysSpec.vars false W args.toList ds gs before) (hk : Rows.uptoSmall H (ds ++ gs) = true) (hL : laidMetH Tryz.prog Rows.walLaysUptoRow.laid W) (hsh : W.ShapedOpen Tryz.prog) :
    Calls Tryz.prog 5 args W fun e W' => ∃ v, e = .returned v ∧ Rows.walLaysSpec.post enc Tryz.prog Tryz.f5 false true false false W args v W' := by
  obtain ⟨ml, hgok⟩ := gok hL hsh
  have hW' := hW
  obtain ⟨p, q, hA, hV, rfl, hfz, hnd⟩ := hW
  obtain ⟨rfl, rfl⟩ := trodVars_none hV
  have hb : bulkAll ds ≤ 1048576 := by
    have := of_decide_eq_true hk
    rw [List.append_nil, bulk2] at this
    exact this
  obtain ⟨xs, hxs, hx⟩ := read_args (n := 12) (B := 1048576) (by unfold LIM; omega) Tryz.f5.params.toList args.toList ds p okTypes (fun j t v a b => hval j t v (by simpa using a) (by simpa using b)) hA hb
  have hA2 := hA
  rw [Tryz.params5] at hA2
  obtain ⟨v0, vs0, d0, ds0, p0, q0, hargs, rfl, hp0, h0, hA2⟩ := trodAll_cons hA2
  obtain ⟨v1, vs1, d1, ds1, p1, q1, rfl, rfl, rfl, h1, hA2⟩ := trodAll_cons hA2
  obtain ⟨v2, vs2, d2, ds2, p2, q2, rfl, rfl, rfl, h2, hA2⟩ := trodAll_cons hA2
  obtain ⟨v3, vs3, d3, ds3, p3, q3, rfl, rfl, rfl, h3, hA2⟩ := trodAll_cons hA2
  obtain ⟨-, rfl, -⟩ := trodAll_nil hA2
  rw [Tryz.params5] at hxs
  obtain ⟨x0, r0, rfl, w0, x1, r1, rfl, w1, x2, r2, rfl, w2, x3, r3, rfl, w3, rfl⟩ := hxs
  obtain ⟨a0, e0, o0⟩ := rd_sl Tryz.underlying22 (fun _ _ h => rd_matinslaw10_Do h) (show WT Tryz.prog 1048576 12 22 [x0] from w0)
  obtain rfl : x0 = _ := List.head_eq_of_cons_eq e0
  obtain ⟨a1, e1, o1⟩ := rd_sl Tryz.underlying27 (fun _ _ h => rd_sl Tryz.underlying31 (fun _ _ h => rd_int Tryz.underlying5 h) h) (show WT Tryz.prog 1048576 12 27 [x1] from w1)
  obtain rfl : x1 = _ := List.head_eq_of_cons_eq e1
  obtain ⟨a2, e2, o2⟩ := rd_int Tryz.underlying3 (show WT Tryz.prog 1048576 12 3 [x2] from w2)
  obtain rfl : x2 = _ := List.head_eq_of_cons_eq e2
  obtain ⟨a3, e3, o3⟩ := rd_int Tryz.underlying3 (show WT Tryz.prog 1048576 12 3 [x3] from w3)
  obtain rfl : x3 = _ := List.head_eq_of_cons_eq e3
  exact law_done (tb := 4) laidOut readable rfl hW' hgok hx (matinslaw10_WalLays_FC (ml := ml) 4000000 a0 a1 a2 a3 true (WalLays_true a0 a1 a2 a3 o0 o1)) rfl rfl rfl rfl Tryz.underlying4
set_option maxRecDepth 100000 in
theorem laid_met (os : Os) : laidMet Tryz.prog Rows.walLaysUptoRow.laid ((World.laidAll Tryz.prog os Rows.walLaysUptoRow.laid).forCall (fun _ _ => 0) ⟨#[], #[.slice none 0 0, .slice none 0 0, .int IntKind.i64 0, .int IntKind.i64 0], []⟩).memory :=
  laidMet_laidAll _ (by kernel_rfl) (by kernel_rfl)
set_option maxRecDepth 100000 in
theorem reads (os : Os) {H : Type} (enc : TypeId × Value → H) : ∃ places, DataW.whole enc Tryz.prog ((World.laidAll Tryz.prog os Rows.walLaysUptoRow.laid).forCall (fun _ _ => 0) ⟨#[], #[.slice none 0 0, .slice none 0 0, .int IntKind.i64 0, .int IntKind.i64 0], []⟩).memory Tryz.f5.params.toList Rows.walLaysSpec.vars false #[.slice none 0 0, .slice none 0 0, .int IntKind.i64 0, .int IntKind.i64 0].toList 12 = some ([.nil, .nil, .lit (.int IntKind.i64 0), .lit (.int IntKind.i64 0)], [], places) :=
  ⟨[], by kernel_rfl⟩
set_option maxRecDepth 100000 in
theorem lifted (os : Go.Os) (started : os.Started) (H : Type) (enc : TypeId × Value → H) (F : Stop.Interp) :
    ReturnsInHanded {} Tryz.checked os 5 .any ((Rows.OpenSpec.upto Rows.walLaysSpec).preRow enc Tryz.prog Tryz.f5 Rows.walLaysUptoRow.domain false Rows.walLaysUptoRow.laid) (((Rows.OpenSpec.upto Rows.walLaysSpec).at F).post enc Tryz.prog Tryz.f5 false true false false) := by
  obtain ⟨places, hx⟩ := reads os enc
  refine returnsInHanded_of_row (C := Tryz.checked) (s := Rows.OpenSpec.upto Rows.walLaysSpec) own started (by kernel_rfl) Tryz.func5
    (witness_row_at (enc := enc) (C := Tryz.checked) false (World.laidAll Tryz.prog os Rows.walLaysUptoRow.laid) #[.slice none 0 0, .slice none 0 0, .int IntKind.i64 0, .int IntKind.i64 0] (World.laidAll_os _ _ _) (by kernel_rfl) (by kernel_rfl) (by kernel_rfl)
      (OpenSpec.preRow_of_cond 12 hx (by kernel_rfl) (fun k hk => by cases hk; kernel_rfl) (by kernel_rfl) (laid_met os))) ?_
  intro W base args ds gs before hval hW _ hk _ hL hsh _
  exact contract H enc W base args ds gs before hval hW (hk _ rfl) hL hsh
theorem saidUpto : Rows.WalLaysUptoSaid :=
  OpenClaim.holds_of_cond 5 Tryz.f5 rfl rfl rfl rfl rfl rfl rfl ⟨rfl, rfl, rfl, rfl, rfl⟩ rfl rfl rfl rfl rfl (by kernel_rfl) Tryz.func5 (by kernel_rfl)
    (of_decide_eq_true (by kernel_rfl)) (by unfold Func.isWrapper; first | (rw [if_pos (by decide +kernel)]; kernel_rfl) | (rw [if_neg (by decide +kernel)]; exact ⟨rfl, rfl⟩))
    (fun os started H enc _ F => by rw [OpenClaim.pre_eq_preRow]; exact lifted os started H enc F)
theorem plain (f : FuncId) (fn : Func) (hf : Tryz.pinned.checked.prog.funcNamed "matins/matinslaw10.WalLays" = some f) (hfn : Tryz.pinned.checked.prog.funcs[f]? = some fn) :
    Rows.walLaysUptoCard.stood.looks = Tryz.pinned.checked.prog.looks [] ∧ ∀ (j : Nat) t, fn.params[j]? = some t → Tryz.pinned.checked.prog.wantsStandIn t = false := by
  obtain rfl : f = 5 := Option.some.inj ((show Tryz.prog.funcNamed "matins/matinslaw10.WalLays" = some 5 by kernel_rfl).symm.trans hf) |>.symm
  obtain rfl : fn = Tryz.f5 := (Option.some.inj (Tryz.func5.symm.trans hfn)).symm
  refine ⟨by kernel_rfl, fun j t ht => ?_⟩
  rw [Tryz.params5] at ht
  have hm : t ∈ [22, 27, 3, 3] := by simpa using Array.mem_of_getElem? ht
  have hall : ([22, 27, 3, 3].all fun u => !Tryz.prog.wantsStandIn u) = true := by kernel_rfl
  exact (show Tryz.prog.wantsStandIn t = false by simpa using List.all_eq_true.1 hall t hm)
theorem cardUpto : Rows.WalLaysUptoCardSaid :=
  Claim7.holds_tied_plain_at .later [] _ _ _ _ saidUpto (fun _ h => by cases h) (by kernel_rfl) (fun _ h => by cases h) walLaysUpto_row_tie rfl ⟨rfl, rfl⟩ (by kernel_rfl) rfl plain (by kernel_rfl)
end Go.Proofs.YtnofpgegbhegnaaGreatDoor.walLays
