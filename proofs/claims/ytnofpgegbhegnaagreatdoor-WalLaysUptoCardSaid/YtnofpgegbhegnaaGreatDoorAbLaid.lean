/-
  AbLaid: package variables that a row lists, as trees.
-/
import Derived.Test.YtnofpgegbhegnaaGreatDoorAbShelf
import Derived.OpenShut
import Derived.LaidMore
import Derived.ChangeSame
import Derived.LaidSub
import Derived.Lib.LaidTab
namespace Go.Ab
open Go Go.RowKit Go.Proofs
variable {P : Program} {w : World}

/-- a row of numbers at a variable's place -/
theorem irep_ints {g : Nat} (zs : List (IntKind × Int)) (hne : zs ≠ []) (h : ∀ j z, zs[j]? = some z → w.cell? ⟨g, j, none⟩ = some (.int z.1 z.2)) :
    IRep (fun b => b < w.heap.size) w (.rp (zs.map fun z => .int z.1 z.2) 0) (.pointer (some ⟨g, 0, none⟩)) := by
  have hg : g < w.heap.size := by
    cases zs with
    | nil => exact absurd rfl hne
    | cons z r =>
      have := h 0 z rfl
      unfold World.cell? at this
      cases hh : w.heap[g]? with
      | none => simp [hh] at this
      | some o => exact (Array.getElem?_eq_some_iff.1 hh).1
  have := IRep.rp (S := fun b => b < w.heap.size) (w := w) (zs.map fun z => AV.int z.1 z.2) 0 g 0 (zs.map fun z => Value.int z.1 z.2) hg (by simp) (fun j v hv => ?_) (fun j x v hx hv => ?_)
  · exact this
  · rw [List.getElem?_map, Option.map_eq_some_iff] at hv
    obtain ⟨z, hz, rfl⟩ := hv
    refine ⟨?_, rfl⟩
    rw [Nat.zero_add]
    exact h j z hz
  · rw [List.getElem?_map, Option.map_eq_some_iff] at hv hx
    obtain ⟨z, hz, rfl⟩ := hv
    obtain ⟨z', hz', rfl⟩ := hx
    rw [hz] at hz'
    cases hz'
    exact .int _ _

/-- one variable of those that a row lists, brought to the head -/
theorem laid_head {l : List (String × DataW Unit)} {name : String} {d : DataW Unit} (h : laidMetH P l w) (hf : (l.filter fun x => x.1 == name) = [(name, d)]) (hh : d.handleName? = none) : laidMet P [(name, d)] w := by
  have := h.filter fun x => x.1 == name
  rw [hf] at this
  obtain ⟨h1, _⟩ := laidMetH_iff.1 this
  simpa [hh] using h1

/-- an array of pairs of numbers -/
theorem pairs_cells {name : String} {k : IntKind} {zs : List (Int × Int)} {g : Nat} {t e ti : TypeId} {n : Nat} {f0 f1 : Field}
    (hg : P.globalNamed name = some g) (hty : (P.globals[g]?).map (·.type) = some t) (ht : P.underlying t = some (.array n e)) (he : P.underlying e = some (.struct #[f0, f1])) (h0 : f0.type = ti) (h1 : f1.type = ti)
    (o0 : f0.offset = 0) (o1 : f1.offset = 1) (hi : P.underlying ti = some (.int k)) (hce : P.cellsOf e = 2) (hci : P.cellsOf ti = 1)
    (h : laidMet P [(name, .agg (zs.map fun z => .agg [.lit (.int k z.1), .lit (.int k z.2)]))] w) :
    ∀ i z, zs[i]? = some z → w.cell? ⟨g, 2 * i, none⟩ = some (.int k z.1) ∧ w.cell? ⟨g, 2 * i + 1, none⟩ = some (.int k z.2) := by
  obtain ⟨ps, ⟨g', t', cs, fuel, p, q, hg', ht', hvar, hd, _, _⟩, _⟩ := h
  obtain rfl := Option.some.inj (hg.symm.trans hg')
  obtain rfl := Option.some.inj (hty.symm.trans ht')
  obtain ⟨xs, m, _, ex, _, hl, hel⟩ := DataW.trod_array ht hd
  have e3 := (DataW.agg.inj (Prod.mk.inj ex).1)
  intro i z hz
  have hin : i < n := by
    rw [← hl]
    have : (xs.map (·.1)).length = zs.length := by rw [← e3]; simp
    have h2 := (List.getElem?_eq_some_iff.1 hz).1
    simp at this; omega
  have hE := hel i hin
  rw [hce] at hE
  have e4 : (xs.map (·.1))[i]? = some (.agg [.lit (.int k z.1), .lit (.int k z.2)]) := by rw [← e3, List.getElem?_map, hz]; rfl
  rw [List.getElem?_map, Option.map_eq_some_iff] at e4
  obtain ⟨x, hx, hx2⟩ := e4
  rw [hx] at hE
  obtain ⟨y0, y1, n', rfl, hlen, a0, a1⟩ := Go.ChangeShapes.trod_struct2 he hE
  rw [o0, h0, hci] at a0
  rw [o1, h1, hci] at a1
  obtain ⟨z0, b1, rfl, _⟩ := DataW.trod_int hi a0
  obtain ⟨z1, b2, rfl, _⟩ := DataW.trod_int hi a1
  simp only [DataW.agg.injEq, List.cons.injEq, DataW.lit.injEq, Lit.int.injEq, true_and, and_true] at hx2
  obtain ⟨rfl, rfl⟩ := hx2
  have c0 : cs.toList[i * 2]? = some (.int k z.1) := by
    have := congrArg (·[0]?) b1
    simpa [List.getElem?_take, List.getElem?_drop] using this
  have c1 : cs.toList[i * 2 + 1]? = some (.int k z.2) := by
    have := congrArg (·[0]?) b2
    simpa [List.getElem?_take, List.getElem?_drop] using this
  refine ⟨?_, ?_⟩
  · rw [World.var?_cell hg hvar, Nat.mul_comm]; simpa using c0
  · rw [World.var?_cell hg hvar, Nat.mul_comm]; simpa using c1
end Go.Ab
