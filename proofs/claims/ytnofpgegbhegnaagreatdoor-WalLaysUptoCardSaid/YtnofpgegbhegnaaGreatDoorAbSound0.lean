/-
  AbSound0: what the evaluator says is so in the model (xcode_ok); the contract of a function (FC_of).
-/
import Derived.Test.YtnofpgegbhegnaaGreatDoorAbCode
namespace Go.Ab

theorem lk_mem : ∀ {os : Os} {o : Nat} {x : AO}, lk os o = some x → (o, x) ∈ os := by
  intro os
  induction os with
  | nil => intro o x h; simp [lk] at h
  | cons e r ih =>
    intro o x h
    simp only [lk] at h
    split at h
    · rename_i e'; subst e'; injection h with h; subst h; exact List.mem_cons_self
    · exact List.mem_cons_of_mem _ (ih h)

theorem lookG_mem : ∀ {g : Tm} {t : Nat}, lookG g t = .undef ∨ (t, lookG g t) ∈ g := by
  intro g
  induction g with
  | nil => intro t; exact .inl rfl
  | cons e r ih =>
    intro t
    simp only [lookG]
    split
    · rename_i e'; subst e'; exact .inr List.mem_cons_self
    · rcases ih (t := t) with h | h
      · exact .inl h
      · exact .inr (List.mem_cons_of_mem _ h)

theorem map_eq_mem {α β : Type} {f g : α → β} : ∀ {l : List α}, l.map f = l.map g → ∀ x, x ∈ l → f x = g x := by
  intro l
  induction l with
  | nil => intro _ x hx; cases hx
  | cons a r ih =>
    intro h x hx
    simp only [List.map_cons, List.cons.injEq] at h
    cases hx with
    | head => exact h.1
    | tail _ hx => exact ih h.2 x hx

theorem wkL_mem {α : Type} {f g : α → AV} : ∀ {l : List α}, WkL (l.map f) (l.map g) → ∀ x, x ∈ l → Wk (f x) (g x)
  | [], _, x, hx => by cases hx
  | a :: r, h, x, hx => by
    cases hx with
    | head => exact h.1
    | tail _ hx => exact wkL_mem (l := r) h.2 x hx
theorem wkOs_mem {α : Type} {f : α → Option AO} {g : α → AO} : ∀ {l : List α}, WkOs (l.map f) (l.map fun e => some (g e)) → ∀ x, x ∈ l → ∃ y, f x = some y ∧ WkO y (g x)
  | [], _, x, hx => by cases hx
  | a :: r, h, x, hx => by
    cases hf : f a with
    | none => simp only [List.map_cons, hf, WkOs] at h
    | some y =>
      simp only [List.map_cons, hf, WkOs] at h
      cases hx with
      | head => exact ⟨y, hf, h.1⟩
      | tail _ hx => exact wkOs_mem (l := r) h.2 x hx
theorem nodup_inj {α β : Type} {f : α → β} : ∀ {l : List α}, (l.map f).Nodup → ∀ x y, x ∈ l → y ∈ l → f x = f y → x = y := by
  intro l
  induction l with
  | nil => intro _ x y hx; cases hx
  | cons a r ih =>
    intro h x y hx hy he
    simp only [List.map_cons, List.nodup_cons, List.mem_map, not_exists, not_and] at h
    cases hx with
    | head => cases hy with
      | head => rfl
      | tail _ hy => exact absurd he.symm (h.1 y hy)
    | tail _ hx => cases hy with
      | head => exact absurd he (h.1 x hx)
      | tail _ hy => exact ih h.2 x y hx hy he

theorem Inv.cov {C : Cx} {S : Nat → Prop} {ι : Imap} {un : Nat → Prop} {g : Tm} {os : Os} {a : Act} {w : World} (h : Inv C S ι un (toFS g os) a w)
    {σ : List (Nat × Nat)} {gx : Tm} {osx : Os} {nx : Nat} (hc : Cov C.m g os σ gx osx nx) : ∃ ι', Inv C S ι' (fun x => nx ≤ x) (toFS gx osx) a w := by
  obtain ⟨hb, hg, ho⟩ := hc
  simp only [Bool.and_eq_true, decide_eq_true_eq] at hb
  obtain ⟨⟨⟨⟨hb1, hb2⟩, hnd⟩, hmx⟩, hid⟩ := hb
  have hobj : ∀ o x, lk osx o = some x → (∃ y, lk os (ap σ o) = some y ∧ WkO y (renO (ap σ) x)) ∧ o < nx ∧ idsBO nx x = true := by
    intro o x hx
    have hm := lk_mem hx
    have h1 := wkOs_mem ho (o, x) hm
    have h2 := List.all_eq_true.1 hb2 (o, x) hm
    simp only [Bool.and_eq_true, decide_eq_true_eq] at h2
    exact ⟨h1, h2.1, h2.2⟩
  have hback : ∀ o, o < nx → ∀ l, ιback ι (ap σ) nx o = some l → ι (ap σ o) = some l := by
    intro o ho l hl
    simp only [ιback] at hl
    rw [if_pos ho] at hl; exact hl
  refine ⟨ιback ι (ap σ) nx, ?_, h.sz, h.df, ?_, ?_, ?_, h.sb, h.sn, ?_, h.fr, h.fo, h.gv, h.s0, fun j L e => by
    have hjm := C.i0m j L e
    have h1 := List.all_eq_true.1 hid j (List.mem_range.2 hjm)
    simp only [beq_iff_eq] at h1
    simp only [ιback]
    rw [if_pos (by omega), h1]
    exact h.hj j L e⟩
  · intro t
    rcases lookG_mem (g := gx) (t := t) with hu | hm
    · show Rep S w _ (lookG gx t) _
      rw [hu]; exact .imm _ _ (.undef _)
    · have h1 := wkL_mem hg _ hm
      simp only at h1
      have h2 := List.all_eq_true.1 hb1 _ hm
      refine Rep.unren _ _ h2 ?_
      show Rep S w ι (renAV (ap σ) (lookG gx t)) _
      exact h1.rep _ (h.tm t)
  · intro o x hx
    obtain ⟨⟨y, h1, hw⟩, h2, h3⟩ := hobj o x hx
    exact ObjOk.unren h2 h3 (hw.ok (h.ob _ _ h1))
  · intro o x hx hlv l hl b hbb
    obtain ⟨⟨y, h1, hw⟩, h2, h3⟩ := hobj o x hx
    exact h.own _ _ h1 (by rw [← hw.live, renO_live]; exact hlv) l (hback o h2 _ hl) b (foot_wk hw hbb)
  · intro o o' x x' hx hx' hlv hlv' l l' hl hl' b hbl hbl2
    obtain ⟨⟨y, h1, hw⟩, h2, h3⟩ := hobj o x hx
    obtain ⟨⟨y', h1', hw'⟩, h2', h3'⟩ := hobj o' x' hx'
    have := h.inj _ _ _ _ h1 h1' (by rw [← hw.live, renO_live]; exact hlv) (by rw [← hw'.live, renO_live]; exact hlv') l l' (hback o h2 _ hl) (hback o' h2' _ hl') b (foot_wk hw hbl) (foot_wk hw' hbl2)
    have := nodup_inj hnd (o, x) (o', x') (lk_mem hx) (lk_mem hx') this
    exact congrArg (·.1) this
  · intro o hn
    simp only [ιback]
    rw [if_neg (by omega)]

theorem range'_zero (n : Nat) : List.range' 0 n = List.range n := by rw [List.range_eq_range']

end Go.Ab
