/-
  AbPoke: a block that is no cells and no object's turns: all that is known stays.
-/
import Derived.Test.YtnofpgegbhegnaaGreatDoorAbState
import Derived.RangeFuncRecord
namespace Go.Ab

/-- the cells of the blocks in S are as they were -/
def SameC (S : Nat → Prop) (w w' : World) : Prop := ∀ b, S b → ∀ j, cellOf w' b j = cellOf w b j

theorem IRep.monoC {S : Nat → Prop} {w w' : World} (hw : SameC S w w') {x : AV} {v : Value}
    (h : IRep S w x v) : IRep S w' x v := by
  induction h with
  | int k n => exact .int k n
  | bool b => exact .bool b
  | str s => exact .str s
  | esl a => exact .esl a
  | snil => exact .snil
  | sl xs a cap sz vals hcap hlim hS hlen hcell _ ih =>
    refine .sl xs a cap sz vals hcap hlim hS hlen (fun i j v hi hv => ?_) (fun i j r x v h1 h2 h3 => ih i j r x v h1 h2 h3)
    have hn : xs ≠ [] := by intro e; subst e; simp at hi
    rw [hw _ (hS hn).1]
    exact hcell i j v hi hv
  | agg cs vs hl _ ih => exact .agg cs vs hl ih
  | tup cs vs hl _ ih => exact .tup cs vs hl ih
  | rp row off blk base vals hS hl hcell _ ih =>
    refine .rp row off blk base vals hS hl (fun j v hv => ?_) ih
    rw [hw _ hS]
    exact hcell j v hv
  | fn f cap vs hl _ ih => exact .fn f cap vs hl ih
  | con v h => exact .con v h
  | undef v => exact .undef v
  | anyb p b h => exact .anyb p b h

theorem Rep.monoC {S : Nat → Prop} {w w' : World} {ι : Imap} (hw : SameC S w w') {x : AV} {v : Value} (h : Rep S w ι x v) : Rep S w' ι x v := by
  induction h with
  | imm x v h => exact .imm x v (h.monoC hw)
  | agg cs vs hl _ ih => exact .agg cs vs hl ih
  | tup cs vs hl _ ih => exact .tup cs vs hl ih
  | fn f cap vs hl _ ih => exact .fn f cap vs hl ih
  | ptr o r c l h => exact .ptr o r c l h
  | osl o off len room cap a l h h1 h2 h3 h4 h5 ha => exact .osl o off len room cap a l h h1 h2 h3 h4 h5 ha
  | osw o z cap a l h h2 h3 h4 hz ha => exact .osw o z cap a l h h2 h3 h4 hz ha
  | oswv o z a h => exact .oswv o z a h
  | oslv o a h => exact .oslv o a h
  | mapo o l h => exact .mapo o l h

theorem RowsRep.monoC {p : Bool} {S : Nat → Prop} {w w' : World} {ι : Imap} (hw : SameC S w w') {rs : List (List AV)} {vals : Nat → List Value} (h : RowsRep p S w ι rs vals) :
    RowsRep p S w' ι rs vals := by
  intro i r hr
  have := h i r hr
  cases p
  · simp only [Bool.false_eq_true, if_false] at this ⊢; exact ⟨this.1, fun j x v a b => (this.2 j x v a b).monoC hw⟩
  · simp only [if_true] at this ⊢; exact ⟨this.1, fun j x v a b => (this.2 j x v a b).monoC hw⟩

theorem ObjOk.monoC {S : Nat → Prop} {w w' : World} {ι : Imap} {o : Nat} {x : AO} (hw : SameC S w w')
    (hb : ∀ l, ι o = some (some l) → x.live = true → ∀ b, foot w x l b → w'.heap[b]? = w.heap[b]?) (h : ObjOk S w ι o x) : ObjOk S w' ι o x := by
  cases x with
  | rows p rs =>
    rcases h with ⟨h, rfl⟩ | ⟨l, vals, h1, hc, h2, h3, h4⟩
    · exact .inl ⟨h, rfl⟩
    · have e := hb l h1 rfl _ (.inl rfl)
      refine .inr ⟨l, vals, h1, hc, fun j => ?_, ⟨h3.1, h3.2.1, fun i j v hi hv => ?_⟩, h4.monoC hw⟩
      · rw [cell_same e, frozen_same e]; exact h2 j
      · rw [cell_same e]; exact h3.2.2 i j v hi hv
  | froz rs =>
    rcases h with ⟨h, rfl⟩ | ⟨l, vals, h1, hc, h2, h3, h4⟩
    · exact .inl ⟨h, rfl⟩
    · refine .inr ⟨l, vals, h1, hc, h2, ⟨h3.1, h3.2.1, fun i j v hi hv => ?_⟩, h4.monoC hw⟩
      rw [hw _ h2]; exact h3.2.2 i j v hi hv
  | mapo p es =>
    obtain ⟨l, xs, clock, h1, h2, h3, h4⟩ := h
    refine ⟨l, xs, clock, h1, by rw [hb l h1 rfl _ (.inl rfl)]; exact h2, ⟨h3.1, fun i e x a b => ?_⟩, h4⟩
    exact ⟨(h3.2 i e x a b).1.monoC hw, (h3.2 i e x a b).2.1.monoC hw, fun hp => ((h3.2 i e x a b).2.2 hp).monoC hw⟩
  | lit rs =>
    obtain ⟨l, vals, h1, ⟨c, e', h2, h3⟩, h4, h5, h6, h7, h8⟩ := h
    have e := hb l h1 rfl _ (.inl rfl)
    exact ⟨l, vals, h1, ⟨c, e', by rw [e]; exact h2, h3⟩, h4, h5, h6, ⟨h7.1, h7.2.1, fun i j v hi hv => by rw [cell_same e]; exact h7.2.2 i j v hi hv⟩, h8.monoC hw⟩
  | fmap z fs hh =>
    obtain ⟨l, xs, clock, h1, h2, h3, h4⟩ := h
    refine ⟨l, xs, clock, h1, by rw [hb l h1 rfl _ (.inl rfl)]; exact h2, h3, h4.1, fun i e x he hx => ?_, h4.2.2⟩
    obtain ⟨g1, g2, g3⟩ := h4.2.1 i e x he hx
    refine ⟨g1.monoC hw, fun hn => ?_, fun q hq => (g3 q hq).monoC hw⟩
    rcases g2 hn with h | ⟨l2, k1, k0, k2, vals, k3, k4, k5, k6⟩
    · exact .inl h
    · have e := hb l h1 rfl _ (.inr ⟨xs, clock, i, x, h2, hx, hn, k1⟩)
      refine .inr ⟨l2, k1, k0, k2.monoC hw, vals, k3, fun j => ?_, ⟨k5.1, k5.2.1, fun i j v hi hv => ?_⟩, fun i r hr => ?_⟩
      · rw [cell_same e, frozen_same e]; exact k4 j
      · rw [cell_same e]; exact k5.2.2 i j v hi hv
      · have := k6 i r hr
        simp only [if_true] at this ⊢; exact ⟨this.1, fun j x v a b => (this.2 j x v a b).monoC hw⟩

/-- is it neither cells nor a map? -/
def plainO : Obj → Bool
  | .deferred _ => true
  | .loop _ => true
  | _ => false

theorem cell_plain {w : World} {b j : Nat} {o : Obj} (h : w.heap[b]? = some o) (ho : plainO o = true) : cellOf w b j = none := by
  simp only [cellOf, World.cell?, h]
  cases o <;> first | rfl | (simp [plainO] at ho)

theorem sameC_poke {S : Nat → Prop} {w : World} {D : Nat} {o o' : Obj} (h : w.heap[D]? = some o) (ho : plainO o = true) (ho' : plainO o' = true) : SameC S w (w.putObj D o') := by
  intro b _ j
  by_cases e : b = D
  · subst e
    rw [cell_plain h ho, cell_plain (World.putObj_heap_same (Array.getElem?_eq_some_iff.1 h).1) ho']
  · exact cell_same (World.putObj_heap_other e)

/-- the same, of other knowledge about such blocks, and of other deferred calls -/
def Cx.with (C : Cx) (dfs : List Deferred) (qb : List (Nat × Obj)) : Cx := { C with dfs := dfs, qb := qb }

/-- behind a range over a function -/
def mark (D : Nat) : Deferred := { target := .collected D, args := #[] }
def Cx.ranged (C : Cx) (D : Nat) : Cx := { C with N := { C.N with no := true }, dfs := [mark D], qb := [(D, .deferred (some []))] }
inductive Cx.to (C : Cx) : Cx → Prop
  | refl : C.to C
  | ranged (D : Nat) (h : C.N.no = false) (hO : C.Ow D) : C.to (C.ranged D)

/-- such a block turns -/
theorem Inv.poke {C : Cx} {S : Nat → Prop} {ι : Imap} {un : Nat → Prop} {f : FS} {a a' : Act} {w : World} (h : Inv C S ι un f a w) {D : Nat} {o o' : Obj} {dfs : List Deferred} {qb : List (Nat × Obj)}
    (hS : S D) (hO : C.Ow D) (hD : w.heap[D]? = some o) (ho : plainO o = true) (ho' : plainO o' = true) (ht : a'.tmps = a.tmps) (hdf : a'.defers = dfs)
    (hq : ∀ q, q ∈ qb → S q.1 ∧ (w.putObj D o').heap[q.1]? = some q.2) : Inv (C.with dfs qb) S ι un f a' (w.putObj D o') := by
  have hw : SameC S w (w.putObj D o') := sameC_poke hD ho ho'
  have hoth : ∀ o x, f.os o = some x → x.live = true → ∀ l, ι o = some (some l) → (w.putObj D o').heap[l.blk]? = w.heap[l.blk]? := fun o x hx hlv l hl =>
    World.putObj_heap_other (fun e => (h.own o x hx hlv l hl _ (.inl rfl)).2.1 (e ▸ hS))
  refine ⟨fun t => by rw [ht]; exact (h.tm t).monoC hw, by rw [ht]; exact h.sz, ⟨hdf, fun t hlt => by rw [ht]; exact h.df.2.1 t hlt, hq⟩, fun o x hx => (h.ob o x hx).monoC hw (fun l hl hlv b hb => ?_),
    fun o x hx hlv l hl b hb => ?_, fun o o' x x' hx hx' h1 h2 l l' e1 e2 b b1 b2 => h.inj o o' x x' hx hx' h1 h2 l l' e1 e2 b (foot_same (hoth o x hx h1 l e1) b1) (foot_same (hoth o' x' hx' h2 l' e2) b2), fun b hb => by rw [World.putObj_size]; exact h.sb b hb, h.sn, h.un, ⟨h.fr.os, h.fr.output, by rw [World.putObj_size]; exact h.fr.size, fun b hb hn => ?_⟩, h.fo,
    fun g row hg => ⟨(h.gv g row hg).1.monoC hw, by
      obtain ⟨cs, t, fr, e, es⟩ := (h.gv g row hg).2
      refine ⟨cs, t, fr, (World.putObj_heap_other (fun eb => ?_)).trans e, es⟩
      subst eb
      rw [hD] at e; injection e with e; subst e; simp [plainO] at ho⟩, h.s0, h.hj⟩
  · refine World.putObj_heap_other (fun e => ?_)
    subst e
    exact (h.own o x hx hlv l hl b hb).2.1 hS
  · rw [World.putObj_size]; exact h.own o x hx hlv l hl b (foot_same (hoth o x hx hlv l hl) hb)
  · rw [World.putObj_heap_other (fun e => hn (by subst e; exact hO))]; exact h.fr.old b hb hn

/-- new blocks that no object lies on -/
theorem Inv.lay {C : Cx} {S : Nat → Prop} {ι : Imap} {un : Nat → Prop} {f : FS} {a a' : Act} {w : World} (h : Inv C S ι un f a w) (o : Obj) {dfs : List Deferred} {qb : List (Nat × Obj)}
    (ht : a'.tmps = a.tmps) (hdf : a'.defers = dfs) (hq : ∀ q, q ∈ qb → (S q.1 ∨ q.1 = w.heap.size) ∧ (w.alloc o).heap[q.1]? = some q.2) :
    Inv (C.with dfs qb) (fun b => S b ∨ b = w.heap.size) ι un f a' (w.alloc o) := by
  have hw : SameOn S w (w.alloc o) := fun b hb => old_alloc w o b (h.sb b hb)
  have hs : ∀ b, S b → (S b ∨ b = w.heap.size) := fun b hb => .inl hb
  have hoth : ∀ o' x, f.os o' = some x → x.live = true → ∀ l, ι o' = some (some l) → (w.alloc o).heap[l.blk]? = w.heap[l.blk]? := fun o' x hx hlv l hl =>
    old_alloc w o _ (h.own o' x hx hlv l hl _ (.inl rfl)).2.2
  refine ⟨fun t => by rw [ht]; exact (h.tm t).mono hs hw (Imap.le_refl _), by rw [ht]; exact h.sz, ⟨hdf, fun t hlt => by rw [ht]; exact h.df.2.1 t hlt, hq⟩,
    fun o x hx => (h.ob o x hx).mono hs hw (Imap.le_refl _) (fun l hl hlv b hb => old_alloc w _ b (h.own o x hx hlv l hl b hb).2.2),
    fun o x hx hlv l hl b hb => ?_, fun o o' x x' hx hx' h1 h2 l l' e1 e2 b b1 b2 => h.inj o o' x x' hx hx' h1 h2 l l' e1 e2 b (foot_same (hoth o x hx h1 l e1) b1) (foot_same (hoth o' x' hx' h2 l' e2) b2), fun b hb => ?_, fun b hb => ?_, h.un, ⟨h.fr.os, h.fr.output, ?_, fun b hb hn => ?_⟩, h.fo,
    fun g row hg => (h.gv g row hg).mono hs hw, fun b hb => .inl (h.s0 b hb), h.hj⟩
  · have := h.own o x hx hlv l hl b (foot_same (hoth o x hx hlv l hl) hb)
    refine ⟨this.1, fun hS => ?_, by rw [World.size_alloc]; omega⟩
    rcases hS with hS | hS
    · exact this.2.1 hS
    · omega
  · rw [World.size_alloc]
    rcases hb with hb | hb
    · have := h.sb b hb; omega
    · omega
  · rcases hb with hb | hb
    · exact h.sn b hb
    · exact .inr (hb ▸ h.fo _ h.fr.size)
  · rw [World.size_alloc]; have := h.fr.size; exact Nat.le_succ_of_le this
  · rw [old_alloc w o b (Nat.lt_of_lt_of_le hb h.fr.size)]; exact h.fr.old b hb hn
end Go.Ab
