/-
  AbWrite: what a store into an object of the running function does.
-/
import Derived.Test.YtnofpgegbhegnaaGreatDoorAbState
import Derived.Deep.Upon
import Derived.Deep.MidRow
namespace Go.Ab

/-- names it no object? -/
def idFree : AV → Bool
  | .int .. | .bool _ | .str _ | .esl | .sl _ | .rp .. | .con _ | .undef | .anyb _ => true
  | .fn _ c => c.isEmpty
  | _ => false

theorem Rep.free {S : Nat → Prop} {w : World} {ι : Imap} {x : AV} {v : Value} (h : Rep S w ι x v) (hf : idFree x = true) : IRep S w x v := by
  cases h with
  | imm _ _ h => exact h
  | fn f cap vs hl h =>
    simp only [idFree, List.isEmpty_iff] at hf
    subst hf
    exact .fn f [] vs hl (fun j x v hx => by simp at hx)
  | _ => simp [idFree] at hf

theorem RepL.free {S : Nat → Prop} {w : World} {ι : Imap} {cs : List AV} {vs : List Value} (h : RepL S w ι cs vs) (hf : cs.all idFree = true) : IRepL S w cs vs :=
  ⟨h.1, fun j x v hx hv => (h.2 j x v hx hv).free (List.all_eq_true.1 hf x (List.mem_of_getElem? hx))⟩

/-- a value that names no object -/
def idFreeV : AV → Bool
  | .agg cs => cs.all idFree
  | x => idFree x
theorem Rep.freeV {S : Nat → Prop} {w : World} {ι : Imap} {x : AV} {v : Value} (h : Rep S w ι x v) (hf : idFreeV x = true) : IRep S w x v := by
  cases x with
  | agg cs =>
    obtain ⟨vs, rfl, hL⟩ := h.agg_inv
    have := hL.free hf
    exact .agg _ _ (by simpa using this.1) (fun j x v hx hv => this.2 j x v hx (by simpa using hv))
  | _ => exact h.free hf

def setAt {α : Type} (row : List α) (c : Nat) (xs : List α) : List α := row.take c ++ (xs ++ row.drop (c + xs.length))

theorem setAt_length {α : Type} (row : List α) (c : Nat) (xs : List α) (h : c + xs.length ≤ row.length) : (setAt row c xs).length = row.length := by
  simp [setAt]; omega

theorem setAt_get {α : Type} (row : List α) (c : Nat) (xs : List α) (h : c + xs.length ≤ row.length) (j : Nat) :
    (setAt row c xs)[j]? = if c ≤ j ∧ j < c + xs.length then xs[j - c]? else row[j]? := by
  unfold setAt
  by_cases h1 : j < c
  · rw [List.getElem?_append_left (by simp; omega), List.getElem?_take, if_pos h1, if_neg (by omega)]
  · rw [List.getElem?_append_right (by simp; omega)]
    have e : (row.take c).length = c := by simp; omega
    rw [e]
    by_cases h2 : j < c + xs.length
    · rw [List.getElem?_append_left (by omega), if_pos (by omega)]
    · rw [List.getElem?_append_right (by omega), List.getElem?_drop, if_neg (by omega)]
      congr 1; omega

theorem RepL.setAt {S : Nat → Prop} {w : World} {ι : Imap} {row cs : List AV} {us vs : List Value} (c : Nat) (h : RepL S w ι row us) (hc : RepL S w ι cs vs)
    (hlen : c + cs.length ≤ row.length) : RepL S w ι (setAt row c cs) (Ab.setAt us c vs) := by
  have h1 := h.1; have h2 := hc.1
  refine ⟨by rw [setAt_length _ _ _ hlen, setAt_length _ _ _ (by omega)]; exact h1, fun j x v hx hv => ?_⟩
  rw [setAt_get _ _ _ hlen] at hx
  rw [setAt_get _ _ _ (by omega), ← h2] at hv
  split at hx
  · rename_i hj
    rw [if_pos hj] at hv
    exact hc.2 _ x v hx hv
  · rename_i hj
    rw [if_neg hj] at hv
    exact h.2 j x v hx hv
theorem IRepL.setAt {S : Nat → Prop} {w : World} {row cs : List AV} {us vs : List Value} (c : Nat) (h : IRepL S w row us) (hc : IRepL S w cs vs)
    (hlen : c + cs.length ≤ row.length) : IRepL S w (Ab.setAt row c cs) (Ab.setAt us c vs) := by
  have h1 := h.1; have h2 := hc.1
  refine ⟨by rw [setAt_length _ _ _ hlen, setAt_length _ _ _ (by omega)]; exact h1, fun j x v hx hv => ?_⟩
  rw [setAt_get _ _ _ hlen] at hx
  rw [setAt_get _ _ _ (by omega), ← h2] at hv
  split at hx
  · rename_i hj
    rw [if_pos hj] at hv
    exact hc.2 _ x v hx hv
  · rename_i hj
    rw [if_neg hj] at hv
    exact h.2 j x v hx hv

/-- two cells of unlike rows -/
theorem row_apart {k i e j c n : Nat} (hk : k ≠ i) (hj : j < e) (hc : c + n ≤ e) : k * e + j < i * e + c ∨ i * e + c + n ≤ k * e + j := by
  rcases Nat.lt_or_gt_of_ne hk with h | h
  · left
    have : (k + 1) * e ≤ i * e := Nat.mul_le_mul_right e h
    rw [Nat.add_mul] at this; omega
  · right
    have : (i + 1) * e ≤ k * e := Nat.mul_le_mul_right e h
    rw [Nat.add_mul] at this; omega

theorem Mine.setCells {w : World} {l : Loc} (h : Mine w l) (lo : Nat) (vs : List Value) : Mine (w.setCells l.blk lo vs) l := by
  intro j
  refine ⟨fun hj => ?_, by rw [World.frozen?_setCells]; exact (h j).2⟩
  obtain ⟨v, hv⟩ := (h j).1 hj
  exact Option.isSome_iff_exists.1 (World.isSome_setCells l.blk vs lo w ⟨l.blk, j, none⟩ (by simp only [cellOf] at hv; rw [hv]; rfl))

section
variable {C : Cx} {S : Nat → Prop} {ι : Imap} {un : Nat → Prop} {f : FS} {a : Act} {w : World}

theorem sameOn_setCells {b : Nat} (hS : ¬ S b) (sb : ∀ b, S b → b < w.heap.size) (lo : Nat) (vs : List Value) : SameOn S w (w.setCells b lo vs) := by
  intro c hc
  exact World.heap_setCells_other w b lo vs (sb c hc) (fun e => hS (e ▸ hc))

theorem size_setCells (w : World) (b : Nat) : ∀ (vs : List Value) (lo : Nat), (w.setCells b lo vs).heap.size = w.heap.size := by
  intro vs
  induction vs generalizing w with
  | nil => intro lo; rfl
  | cons v r ih => intro lo; rw [World.setCells, ih]; simp

/-- cells of an object's block are written, and the object's content is told anew -/
theorem Inv.writes (h : Inv C S ι un f a w) {o : Nat} {x x' : AO} (hx : f.os o = some x) (hlive : x.live = true) {l : Loc} (hl : ι o = some (some l))
    (_hlive' : x'.live = true) (lo : Nat) (vs : List Value)
    (hok : SameOn S w (w.setCells l.blk lo vs) → ObjOk S (w.setCells l.blk lo vs) ι o x') (h1b : oneBlk x' = true := by rfl) :
    Inv C S ι un { f with os := updO f.os [(o, some x')] } a (w.setCells l.blk lo vs) := by
  obtain ⟨hO, hS, hlt⟩ := h.own o x hx hlive l hl _ (.inl rfl)
  have hw : SameOn S w (w.setCells l.blk lo vs) := sameOn_setCells hS h.sb lo vs
  have hoth : ∀ o' y, f.os o' = some y → y.live = true → o' ≠ o → ∀ l', ι o' = some (some l') → (w.setCells l.blk lo vs).heap[l'.blk]? = w.heap[l'.blk]? := fun o' y hy hly e l' hl' =>
    World.heap_setCells_other w _ lo vs (h.own o' y hy hly l' hl' _ (.inl rfl)).2.2 (fun eb => e (h.inj o' o y x hy hx hly hlive l' l hl' hl _ (.inl rfl) (.inl eb)))
  refine h.turn (fun _ x => x) hw (Imap.le_refl _) ?_ ?_ ?_ (fun b hb => by rw [size_setCells]; exact h.sb b hb) h.sn h.un ?_
  · intro o' y hy
    simp only [updO] at hy
    by_cases e : o' = o
    · subst e
      simp only [if_true, Option.some.injEq] at hy
      subst hy
      exact hok hw
    · simp only [e, if_false] at hy
      refine (h.ob o' y hy).mono (fun _ x => x) hw (Imap.le_refl _) (fun l' hl' hy' b hb => ?_)
      refine World.heap_setCells_other w _ lo vs (h.own o' y hy hy' l' hl' b hb).2.2 (fun eb => e ?_)
      exact h.inj o' o y x hy hx hy' hlive l' l hl' hl b hb (.inl eb)
  · intro o' y hy hly l' hl' b hb
    rw [size_setCells]
    simp only [updO] at hy
    by_cases e : o' = o
    · subst e
      rw [hl] at hl'
      injection hl' with hl'; injection hl' with hl'; subst hl'
      simp only [if_true, Option.some.injEq] at hy
      subst hy
      rw [foot_one h1b hb]; exact ⟨hO, hS, hlt⟩
    · simp only [e, if_false] at hy
      exact h.own o' y hy hly l' hl' b (foot_same (hoth o' y hy hly e l' hl') hb)
  · intro o1 o2 y1 y2 hy1 hy2 hl1 hl2 l1 l2 e1 e2 b hb hb2
    simp only [updO] at hy1 hy2
    by_cases e : o1 = o <;> by_cases e' : o2 = o
    · rw [e, e']
    · subst e
      simp only [e', if_false] at hy2
      simp only [if_true, Option.some.injEq] at hy1
      subst hy1
      rw [hl] at e1; injection e1 with e1; injection e1 with e1; subst e1
      exact h.inj o1 o2 x y2 hx hy2 hlive hl2 l l2 hl e2 b (.inl (foot_one h1b hb)) (foot_same (hoth o2 y2 hy2 hl2 e' l2 e2) hb2)
    · subst e'
      simp only [e, if_false] at hy1
      simp only [if_true, Option.some.injEq] at hy2
      subst hy2
      rw [hl] at e2; injection e2 with e2; injection e2 with e2; subst e2
      exact h.inj o1 o2 y1 x hy1 hx hl1 hlive l1 l e1 hl b (foot_same (hoth o1 y1 hy1 hl1 e l1 e1) hb) (.inl (foot_one h1b hb2))
    · simp only [e, e', if_false] at hy1 hy2
      exact h.inj o1 o2 y1 y2 hy1 hy2 hl1 hl2 l1 l2 e1 e2 b (foot_same (hoth o1 y1 hy1 hl1 e l1 e1) hb) (foot_same (hoth o2 y2 hy2 hl2 e' l2 e2) hb2)
  · refine ⟨by rw [World.os_setCells]; exact h.fr.os, by rw [World.output_setCells]; exact h.fr.output, by rw [size_setCells]; exact h.fr.size, fun b hb hn => ?_⟩
    rw [World.heap_setCells_other w _ lo vs (by have := h.fr.size; omega) (fun e => hn (by rw [e]; exact hO))]
    exact h.fr.old b hb hn

/-- one block of the world is another, and its object's content is told anew -/
theorem Inv.changes {w' : World} (h : Inv C S ι un f a w) {o : Nat} {x x' : AO} (hx : f.os o = some x) (hlive : x.live = true) {l : Loc} (hl : ι o = some (some l))
    (_hlive' : x'.live = true) (hos : w'.os = w.os) (hout : w'.output = w.output) (hsize : w'.heap.size = w.heap.size) (hot : ∀ b, b ≠ l.blk → w'.heap[b]? = w.heap[b]?)
    (hok : SameOn S w w' → ObjOk S w' ι o x') (h1b : oneBlk x' = true := by rfl) :
    Inv C S ι un { f with os := updO f.os [(o, some x')] } a w' := by
  obtain ⟨hO, hS, hlt⟩ := h.own o x hx hlive l hl _ (.inl rfl)
  have hw : SameOn S w w' := fun b hb => hot b (fun e => hS (e ▸ hb))
  have hoth : ∀ o' y, f.os o' = some y → y.live = true → o' ≠ o → ∀ l', ι o' = some (some l') → w'.heap[l'.blk]? = w.heap[l'.blk]? := fun o' y hy hly e l' hl' =>
    hot _ (fun eb => e (h.inj o' o y x hy hx hly hlive l' l hl' hl _ (.inl rfl) (.inl eb)))
  refine h.turn (fun _ x => x) hw (Imap.le_refl _) ?_ ?_ ?_ (fun b hb => by rw [hsize]; exact h.sb b hb) h.sn h.un ?_
  · intro o' y hy
    simp only [updO] at hy
    by_cases e : o' = o
    · subst e
      simp only [if_true, Option.some.injEq] at hy
      subst hy
      exact hok hw
    · simp only [e, if_false] at hy
      refine (h.ob o' y hy).mono (fun _ x => x) hw (Imap.le_refl _) (fun l' hl' hy' b hb => ?_)
      refine hot _ (fun eb => e ?_)
      exact h.inj o' o y x hy hx hy' hlive l' l hl' hl b hb (.inl eb)
  · intro o' y hy hly l' hl' b hb
    rw [hsize]
    simp only [updO] at hy
    by_cases e : o' = o
    · subst e
      rw [hl] at hl'
      injection hl' with hl'; injection hl' with hl'; subst hl'
      simp only [if_true, Option.some.injEq] at hy
      subst hy
      rw [foot_one h1b hb]; exact ⟨hO, hS, hlt⟩
    · simp only [e, if_false] at hy
      exact h.own o' y hy hly l' hl' b (foot_same (hoth o' y hy hly e l' hl') hb)
  · intro o1 o2 y1 y2 hy1 hy2 hl1 hl2 l1 l2 e1 e2 b hb hb2
    simp only [updO] at hy1 hy2
    by_cases e : o1 = o <;> by_cases e' : o2 = o
    · rw [e, e']
    · subst e
      simp only [e', if_false] at hy2
      simp only [if_true, Option.some.injEq] at hy1
      subst hy1
      rw [hl] at e1; injection e1 with e1; injection e1 with e1; subst e1
      exact h.inj o1 o2 x y2 hx hy2 hlive hl2 l l2 hl e2 b (.inl (foot_one h1b hb)) (foot_same (hoth o2 y2 hy2 hl2 e' l2 e2) hb2)
    · subst e'
      simp only [e, if_false] at hy1
      simp only [if_true, Option.some.injEq] at hy2
      subst hy2
      rw [hl] at e2; injection e2 with e2; injection e2 with e2; subst e2
      exact h.inj o1 o2 y1 x hy1 hx hl1 hlive l1 l e1 hl b (foot_same (hoth o1 y1 hy1 hl1 e l1 e1) hb) (.inl (foot_one h1b hb2))
    · simp only [e, e', if_false] at hy1 hy2
      exact h.inj o1 o2 y1 y2 hy1 hy2 hl1 hl2 l1 l2 e1 e2 b (foot_same (hoth o1 y1 hy1 hl1 e l1 e1) hb) (foot_same (hoth o2 y2 hy2 hl2 e' l2 e2) hb2)
  · refine ⟨hos.trans h.fr.os, hout.trans h.fr.output, by rw [hsize]; exact h.fr.size, fun b hb hn => ?_⟩
    rw [hot b (fun e => hn (by rw [e]; exact hO))]
    exact h.fr.old b hb hn

/-- a store into a row -/
theorem rows_write {o : Nat} {p : Bool} {rs : List (List AV)} {l : Loc} {vals : Nat → List Value} (hl : ι o = some (some l)) (hcnt : rs.length = l.cnt) (hm : Mine w l)
    (hat : RowsAt w l rs.length vals) (hrep : RowsRep p S w ι rs vals) {i c : Nat} {row : List AV} (hrow : rs[i]? = some row) {cs : List AV} {vs : List Value}
    (hvs : RepL S w ι cs vs) (hone : ∀ v, v ∈ vs → v.oneCell' = true) (hc : c + cs.length ≤ row.length) (hw : SameOn S w (w.setCells l.blk (l.base + (i * l.esz + c)) vs)) :
    ObjOk S (w.setCells l.blk (l.base + (i * l.esz + c)) vs) ι o (.rows (p && cs.all idFree) (rs.set i (setAt row c cs))) := by
  have hi : i < rs.length := by
    rcases Nat.lt_or_ge i rs.length with h | h
    · exact h
    · rw [List.getElem?_eq_none h] at hrow; cases hrow
  have hlr : row.length = (vals i).length := by
    have := hrep i row hrow
    cases p <;> exact this.1
  have hli := hat.2.1 i hi
  have hlv := hvs.1
  have hsz : l.base + (i * l.esz + c) + vs.length ≤ l.size := by
    have : (i + 1) * l.esz ≤ rs.length * l.esz := Nat.mul_le_mul_right _ hi
    rw [Nat.add_mul] at this
    have := hat.1
    omega
  have hset : ∀ (k : Nat) r, (rs.set i (setAt row c cs))[k]? = some r → (k = i ∧ r = setAt row c cs) ∨ (k ≠ i ∧ rs[k]? = some r) := by
    intro k r hr
    rw [List.getElem?_set] at hr
    by_cases e : i = k
    · subst e; simp [hi] at hr; exact .inl ⟨rfl, hr.symm⟩
    · simp [e] at hr; exact .inr ⟨fun q => e q.symm, hr⟩
  refine .inr ⟨l, fun k => if k = i then setAt (vals i) c vs else vals k, hl, by simpa using hcnt, hm.setCells _ _, ⟨by simpa using hat.1, fun k hk => ?_, fun k j v hk hv => ?_⟩, fun k r hr => ?_⟩
  · simp only [List.length_set] at hk
    by_cases e : k = i
    · subst e; simp only [if_true]; rw [setAt_length _ _ _ (by omega)]; exact hli
    · simp only [e, if_false]; exact hat.2.1 k hk
  · simp only [List.length_set] at hk
    by_cases e : k = i
    · subst e
      simp only [if_true] at hv
      rw [setAt_get _ _ _ (by omega)] at hv
      by_cases hj : c ≤ j ∧ j < c + vs.length
      · rw [if_pos hj] at hv
        have hjl : j - c < vs.length := by omega
        have := World.cell?_setCells_in l.blk vs (l.base + (k * l.esz + c)) w (fun q hq => by
          obtain ⟨u, hu⟩ := (hm (l.base + (k * l.esz + c) + q)).1 (by omega)
          simp only [cellOf] at hu; rw [hu]; rfl) (j - c) hjl
        rw [show l.base + (k * l.esz + c) + (j - c) = l.base + (k * l.esz + j) by omega] at this
        rw [List.getElem?_eq_getElem hjl] at hv
        injection hv with hv
        rw [← hv]; exact ⟨this, hone _ (List.getElem_mem hjl)⟩
      · rw [if_neg hj] at hv
        have h9 := hat.2.2 k j v hi hv
        refine ⟨?_, h9.2⟩
        show (w.setCells l.blk (l.base + (k * l.esz + c)) vs).cell? _ = some v
        rw [World.cell?_setCells_out l.blk vs _ w _ (fun _ _ => by simp only; omega)]
        exact h9.1
    · simp only [e, if_false] at hv
      have hjl : j < l.esz := by
        rw [← hat.2.1 k hk]
        rcases Nat.lt_or_ge j (vals k).length with h | h
        · exact h
        · rw [List.getElem?_eq_none h] at hv; cases hv
      have h9 := hat.2.2 k j v hk hv
      refine ⟨?_, h9.2⟩
      show (w.setCells l.blk (l.base + (i * l.esz + c)) vs).cell? _ = some v
      have := row_apart (n := vs.length) (c := c) e hjl (by omega)
      rw [World.cell?_setCells_out l.blk vs _ w _ (fun _ _ => by simp only; omega)]
      exact h9.1
  · rcases hset k r hr with ⟨rfl, rfl⟩ | ⟨hne, hr⟩
    · simp only [if_true]
      have hrw := hrep k row hrow
      cases hp : p with
      | false =>
        rw [hp] at hrw
        simp only [Bool.false_and, Bool.false_eq_true, if_false] at hrw ⊢
        exact (RepL.setAt c hrw hvs hc).mono (fun _ x => x) hw (Imap.le_refl _)
      | true =>
        rw [hp] at hrw
        simp only [Bool.true_and, if_true] at hrw ⊢
        by_cases hf : cs.all idFree = true
        · rw [if_pos hf]
          exact (IRepL.setAt c hrw (hvs.free hf) hc).mono (fun _ x => x) hw
        · rw [if_neg hf]
          exact (RepL.setAt c hrw.rep hvs hc).mono (fun _ x => x) hw (Imap.le_refl _)
    · simp only [hne, if_false]
      have hrw := hrep k r hr
      cases hp : p with
      | false =>
        rw [hp] at hrw
        simp only [Bool.false_and, Bool.false_eq_true, if_false] at hrw ⊢
        exact hrw.mono (fun _ x => x) hw (Imap.le_refl _)
      | true =>
        rw [hp] at hrw
        simp only [Bool.true_and, if_true] at hrw ⊢
        by_cases hf : cs.all idFree = true
        · rw [if_pos hf]; exact hrw.mono (fun _ x => x) hw
        · rw [if_neg hf]; exact hrw.rep.mono (fun _ x => x) hw (Imap.le_refl _)
end
end Go.Ab
