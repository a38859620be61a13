/-
  AbGoes: what a step leaves; values, boxes; places of lists.
-/
import Derived.Test.YtnofpgegbhegnaaGreatDoorAbStepOk
namespace Go.Ab

/-- what a step leaves -/
def Goes (C : Cx) (un : Nat → Prop) (id : Nat) (o : Oper) (f : FS) (v : AV) (U : List (Nat × Option AO)) (next : Act → World → Prop) : Prop :=
  ∀ S' ι' a' w', Inv C S' ι' (fun x => un x ∧ ¬ (id ≤ x ∧ x < id + W)) (f.upd o.dst v U) a' w' → next a' w'

section
variable {C : Cx} {S : Nat → Prop} {w : World} {ι : Imap} {P : Program} {un : Nat → Prop} {f : FS} {a : Act} {id : Nat} {o : Oper}
  {next : Act → World → Prop} {Q : Exit → Act → World → Prop}

theorem Inv.goes {v : AV} {U : List (Nat × Option AO)} {S' : Nat → Prop} {ι' : Imap} {un' : Nat → Prop} {w' : World} {v' : Value}
    (hn : Goes C un id o f v U next) (h : Inv C S' ι' un' { f with os := updO f.os U } a w') (hu : ∀ x, un x ∧ ¬ (id ≤ x ∧ x < id + W) → un' x)
    (hv : Rep S' w' ι' v v') (hd : ∀ d, o.dst = some d → C.N.lo ≤ d ∧ d < C.N.n) : next (a.put o.dst v') w' := by
  refine hn S' ι' _ w' ?_
  have := (h.put (dst := o.dst) hv hd).less hu
  have e : ({ f with os := updO f.os U } : FS).put o.dst v = f.upd o.dst v U := by
    unfold FS.upd; cases o.dst <;> rfl
  rw [e] at this
  exact this

theorem Inv.goes0 {v : AV} {v' : Value} (hn : Goes C un id o f v [] next) (h : Inv C S ι un f a w)
    (hv : Rep S w ι v v') (hd : ∀ d, o.dst = some d → C.N.lo ≤ d ∧ d < C.N.n) : next (a.put o.dst v') w :=
  Inv.goes hn (U := []) (S' := S) (ι' := ι) (un' := un) h (fun _ hx => hx.1) hv hd

/-- an operation that gives a value and leaves the world -/
theorem value_ok {v : AV} {v' : Value} (hn : Goes C un id o f v [] next) (h : Inv C S ι un f a w) (hd : ∀ d, o.dst = some d → C.N.lo ≤ d ∧ d < C.N.n)
    (hrun : (execOp a.eval o).run P w = .ok (.value v') w) (hv : Rep S w ι v v') : o.wp P a w next Q := by
  unfold Oper.wp
  rw [hrun, Oper.upon_value]
  exact Inv.goes0 hn h hv hd

/-- a new box -/
theorem box_ok {cs : List AV} {blk : Obj} {vs : Array Value} {t : TypeId} (hn : Goes C un id o f (.ptr id 0 0) [(id, some (.rows false [cs]))] next)
    (h : Inv C S ι un f a w) (hd : ∀ d, o.dst = some d → C.N.lo ≤ d ∧ d < C.N.n) (hid : ∀ x, id ≤ x → x < id + W → un x)
    (hb : blk = .cells vs t) (hvs : RepL S w ι cs vs.toList) (hone : ∀ v, v ∈ vs.toList → v.oneCell' = true) (hrun : (execOp a.eval o).run P w = .ok (.value (.pointer (some ⟨w.heap.size, 0, none⟩))) (w.alloc blk)) :
    o.wp P a w next Q := by
  unfold Oper.wp
  rw [hrun, Oper.upon_value]
  subst hb
  have hlen := hvs.1
  simp only [Array.length_toList] at hlen
  obtain ⟨ι', hle, hι', hinv⟩ := h.alloc (hid id (Nat.le_refl _) (by simp [W])) (.cells vs t) ⟨w.heap.size, 0, cs.length, cs.length, 1⟩ rfl (.rows false [cs]) rfl (fun _ h => foot_one rfl h) (fun ι' hle hι' => by
    refine .inr ⟨_, fun _ => vs.toList, hι', rfl, fun j => ⟨fun hj => ?_, fun _ => by simp⟩, ⟨by simp, fun i hi => by simp; omega, fun i j v hi hv => ?_⟩, fun i r hr => ?_⟩
    · simp only at hj
      refine ⟨vs[j]'(by omega), ?_⟩
      simp only [cellOf]; rw [World.cell?_alloc_new]; exact Array.getElem?_eq_getElem (by omega)
    · simp only [List.length_singleton] at hi
      have : i = 0 := by omega
      subst this
      simp only [Nat.zero_mul, Nat.zero_add, cellOf]
      rw [World.cell?_alloc_new]
      exact ⟨by simpa using hv, hone v (List.mem_of_getElem? hv)⟩
    · have : i = 0 := by have := lt_of_get hr; simp at this; omega
      subst this
      simp only [List.getElem?_cons_zero, Option.some.injEq] at hr
      subst hr
      simp only [Bool.false_eq_true, if_false]
      exact hvs.mono (fun _ x => x) (fun b hb => old_alloc w _ b (h.sb b hb)) hle)
  refine Inv.goes hn hinv (fun x hx => ⟨hx.1, fun e => hx.2 ⟨by omega, by subst e; simp [W]⟩⟩) ?_ hd
  have := Rep.ptr (S := S) (w := w.alloc (.cells vs t)) (ι := ι') id 0 0 _ hι'
  simpa using this

theorem cells_one {cs : List AV} {vs : List Value} (h : RepL S w ι cs vs) (hc : cs.all isCell = true) : ∀ v, v ∈ vs → v.oneCell' = true := by
  intro v hv
  obtain ⟨j, hj⟩ := List.getElem?_of_mem hv
  have hjc : j < cs.length := by rw [h.1]; exact lt_of_get hj
  exact (h.2 j _ v (List.getElem?_eq_getElem hjc) hj).cell (List.all_eq_true.1 hc _ (List.getElem_mem hjc))

theorem zeroA_run {t : TypeId} {cs : List AV} (h : zeroA P t = some cs) :
    ∃ z, (zeroValue t).run P w = .ok z w ∧ RepL S w ι cs z.cells.toList ∧ ∀ v, v ∈ z.cells.toList → v.oneCell' = true := by
  unfold zeroA at h
  split at h
  · cases h
  · rename_i i hi
    split at h
    · rename_i z hz
      have h9 := cellsOfAV_rep (S := S) (w := w) (ι := ι) h (.imm _ _ (ofVal_rep z))
      exact ⟨z, by simp [zeroValue, typeInfo, hi, hz], h9.1, cells_one h9.1 h9.2⟩
    · cases h

theorem indexAt_ok {t e : TypeId} {ab : Addr} {len cap : Nat} {k : IntKind} {n : Int} {b : Bool} {sz : Nat} (ht : P.underlying t = some (.slice e)) (hk : kindT P e = some (b, sz))
    (h0 : 0 ≤ n) (h1 : n < len) (hs : ab.spot = none) : (Instr.indexAt t (.slice (some ab) len cap) (.int k n)).run P w = .ok (.pointer (some ⟨ab.block, ab.off + n.toNat * sz, none⟩)) w := by
  have hel : P.elem t = e := by simp [Program.elem, ht]
  have := run_indexAt_slice (P := P) w t ab len cap k n (by rw [hel]; exact ht)
  rw [this, hel, if_pos ⟨h0, h1⟩, (kindT_run hk w).2]
  obtain ⟨bl, of, sp⟩ := ab
  simp only at hs
  subst hs
  simp only [Result.andThen_ok, add_plain]

theorem indexArr_ok {t e : TypeId} {bl of len : Nat} {k : IntKind} {n : Int} {b : Bool} {sz : Nat} (ht : P.underlying t = some (.array len e)) (hk : kindT P e = some (b, sz))
    (h0 : 0 ≤ n) (h1 : n < len) : (Instr.indexAt t (.pointer (some ⟨bl, of, none⟩)) (.int k n)).run P w = .ok (.pointer (some ⟨bl, of + n.toNat * sz, none⟩)) w := by
  have hel : P.elem t = e := by simp [Program.elem, ht]
  have hal : P.arrayLen t = len := by simp [Program.arrayLen, ht]
  have := run_indexAt_array (P := P) w t ⟨bl, of, none⟩ k n (by rw [hel, hal]; exact ht)
  rw [this, hel, hal, if_pos ⟨h0, h1⟩, (kindT_run hk w).2]
  simp only [Result.andThen_ok, add_plain]

/-- a slice of the function's own: where it lies -/
theorem osl_inv {o' off len room : Nat} {v : Value} (h : Rep S w ι (.osl o' off len room) v) :
    (∃ l a cap, ι o' = some (some l) ∧ v = .slice (some a) len cap ∧ len ≤ room ∧ room ≤ cap ∧ l.base + (off + cap) * l.esz ≤ l.size ∧ len ≤ LIM ∧ off + room ≤ l.cnt ∧
      (cap ≠ 0 → a = ⟨l.blk, l.base + off * l.esz, none⟩)) ∨ (ι o' = some none ∧ off = 0 ∧ len = 0 ∧ room = 0 ∧ ∃ a, v = .slice a 0 0) := by
  cases h with
  | imm _ _ h => cases h
  | osl _ _ _ _ cap a l h h1 h2 h3 h4 h5 ha => exact .inl ⟨l, a, cap, h, rfl, h1, h2, h3, h4, h5, ha⟩
  | oslv _ a h => exact .inr ⟨h, rfl, rfl, rfl, a, rfl⟩
theorem osw_inv {o' z : Nat} {v : Value} (h : Rep S w ι (.osw o' z) v) :
    (∃ l a cap, ι o' = some (some l) ∧ v = .slice (some a) l.cnt cap ∧ l.cnt ≤ cap ∧ l.base + cap * l.esz ≤ l.size ∧ l.cnt ≤ LIM ∧ (l.cnt = 0 → cap ≠ 0 → l.esz = z) ∧
      (cap ≠ 0 → a = ⟨l.blk, l.base, none⟩)) ∨ (ι o' = some none ∧ ∃ a, v = .slice a 0 0) := by
  cases h with
  | imm _ _ h => cases h
  | osw _ _ cap a l h h2 h3 h4 hz ha => exact .inl ⟨l, a, cap, h, rfl, h2, h3, h4, hz, ha⟩
  | oswv _ _ a h => exact .inr ⟨h, a, rfl⟩

end
end Go.Ab
