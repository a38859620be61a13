/-
  AbCall: a call by its contract.
-/
import Derived.Test.YtnofpgegbhegnaaGreatDoorAbClose
namespace Go.Ab

theorem addNew_lk {id : Nat} : ∀ {os : List (Nat × AO)} (base : Nat → Option AO) (o : Nat),
    updO base (addNew id os) o = if id ≤ o ∧ (lk os (o - id)).isSome then (lk os (o - id)).map (renO (id + ·)) else base o := by
  intro os
  induction os with
  | nil => intro base o; simp [addNew, updO, lk]
  | cons e r ih =>
    intro base o
    have := ih base o
    simp only [addNew, List.map_cons, updO] at this ⊢
    by_cases h : o = id + e.1
    · subst h
      rw [if_pos rfl]
      simp [lk]
    · rw [if_neg h, this]
      by_cases h1 : id ≤ o
      · have : o - id ≠ e.1 := by omega
        simp [lk, this]
      · simp [h1]

theorem renL_map (σ : Nat → Nat) : ∀ l : List AV, renL σ l = l.map (renAV σ) := by
  intro l
  induction l with
  | nil => rfl
  | cons x r ih => simp [renL, ih]

/-- a place of the callee's is one of the caller's under a new number -/
theorem Rep.ren {S : Nat → Prop} {w : World} {ι ι' : Imap} {σ : Nat → Nat} (hσ : ∀ o y, ι o = some y → ι' (σ o) = some y) {x : AV} {v : Value} (h : Rep S w ι x v) :
    Rep S w ι' (renAV σ x) v := by
  induction h with
  | imm x v h =>
    -- a value that names no object stays but for lists
    induction h with
    | agg cs vs hl _ ih =>
      simp only [renAV, renL_map]
      refine .agg _ vs (by simpa using hl) (fun j x v hx hv => ?_)
      rw [List.getElem?_map] at hx
      cases hj : cs[j]? with
      | none => rw [hj] at hx; cases hx
      | some y => rw [hj] at hx; simp only [Option.map_some, Option.some.injEq] at hx; subst hx; exact ih j y v hj hv
    | tup cs vs hl _ ih =>
      simp only [renAV, renL_map]
      refine .tup _ vs (by simpa using hl) (fun j x v hx hv => ?_)
      rw [List.getElem?_map] at hx
      cases hj : cs[j]? with
      | none => rw [hj] at hx; cases hx
      | some y => rw [hj] at hx; simp only [Option.map_some, Option.some.injEq] at hx; subst hx; exact ih j y v hj hv
    | fn f cs vs hl _ ih =>
      simp only [renAV, renL_map]
      refine .fn f _ vs (by simpa using hl) (fun j x v hx hv => ?_)
      rw [List.getElem?_map] at hx
      cases hj : cs[j]? with
      | none => rw [hj] at hx; cases hx
      | some y => rw [hj] at hx; simp only [Option.map_some, Option.some.injEq] at hx; subst hx; exact ih j y v hj hv
    | int k n => exact .imm _ _ (.int k n)
    | bool b => exact .imm _ _ (.bool b)
    | str s => exact .imm _ _ (.str s)
    | esl a => exact .imm _ _ (.esl a)
    | snil => exact .imm _ _ .snil
    | sl xs a cap sz vals h1 h2 h3 h4 h5 h6 => exact .imm _ _ (.sl xs a cap sz vals h1 h2 h3 h4 h5 h6)
    | rp row off blk base vals h1 h2 h3 h4 => exact .imm _ _ (.rp row off blk base vals h1 h2 h3 h4)
    | con v h => exact .imm _ _ (.con v h)
    | undef v => exact .imm _ _ (.undef v)
    | anyb p b h => exact .imm _ _ (.anyb p b h)
  | agg cs vs hl _ ih =>
    simp only [renAV, renL_map]
    refine .agg _ vs (by simpa using hl) (fun j x v hx hv => ?_)
    rw [List.getElem?_map] at hx
    cases hj : cs[j]? with
    | none => rw [hj] at hx; cases hx
    | some y => rw [hj] at hx; simp only [Option.map_some, Option.some.injEq] at hx; subst hx; exact ih j y v hj hv
  | tup cs vs hl _ ih =>
    simp only [renAV, renL_map]
    refine .tup _ vs (by simpa using hl) (fun j x v hx hv => ?_)
    rw [List.getElem?_map] at hx
    cases hj : cs[j]? with
    | none => rw [hj] at hx; cases hx
    | some y => rw [hj] at hx; simp only [Option.map_some, Option.some.injEq] at hx; subst hx; exact ih j y v hj hv
  | fn f cs vs hl _ ih =>
    simp only [renAV, renL_map]
    refine .fn f _ vs (by simpa using hl) (fun j x v hx hv => ?_)
    rw [List.getElem?_map] at hx
    cases hj : cs[j]? with
    | none => rw [hj] at hx; cases hx
    | some y => rw [hj] at hx; simp only [Option.map_some, Option.some.injEq] at hx; subst hx; exact ih j y v hj hv
  | ptr o r c l h => exact .ptr (σ o) r c l (hσ o _ h)
  | osl o off len room cap a l h h1 h2 h3 h4 h5 ha => exact .osl (σ o) off len room cap a l (hσ o _ h) h1 h2 h3 h4 h5 ha
  | oslv o a h => exact .oslv (σ o) a (hσ o _ h)
  | osw o z cap a l h h2 h3 h4 hz ha => exact .osw (σ o) z cap a l (hσ o _ h) h2 h3 h4 hz ha
  | oswv o z a h => exact .oswv (σ o) z a (hσ o _ h)
  | mapo o l h => exact .mapo (σ o) l (hσ o _ h)

theorem RepL.ren {S : Nat → Prop} {w : World} {ι ι' : Imap} {σ : Nat → Nat} (hσ : ∀ o y, ι o = some y → ι' (σ o) = some y) {cs : List AV} {vs : List Value} (h : RepL S w ι cs vs) :
    RepL S w ι' (renL σ cs) vs := by
  rw [renL_map]
  refine ⟨by simpa using h.1, fun j x v hx hv => ?_⟩
  rw [List.getElem?_map] at hx
  cases hj : cs[j]? with
  | none => rw [hj] at hx; cases hx
  | some y => rw [hj] at hx; simp only [Option.map_some, Option.some.injEq] at hx; subst hx; exact (h.2 j y v hj hv).ren hσ

theorem ObjOk.ren {S : Nat → Prop} {w : World} {ι ι' : Imap} {σ : Nat → Nat} (hσ : ∀ o y, ι o = some y → ι' (σ o) = some y) {o : Nat} {x : AO} (h : ObjOk S w ι o x) :
    ObjOk S w ι' (σ o) (renO σ x) := by
  cases x with
  | rows p rs =>
    cases p with
    | true =>
      rcases h with ⟨h, rfl⟩ | ⟨l, vals, h1, h2, h3, h4, h5⟩
      · exact .inl ⟨hσ _ _ h, rfl⟩
      · refine .inr ⟨l, vals, hσ _ _ h1, h2, h3, h4, fun i r hr => ?_⟩
        have := h5 i r hr
        simpa using this
    | false =>
      rcases h with ⟨h, rfl⟩ | ⟨l, vals, h1, h2, h3, h4, h5⟩
      · exact .inl ⟨hσ _ _ h, rfl⟩
      · refine .inr ⟨l, vals, hσ _ _ h1, by simpa using h2, h3, by simpa using h4, fun i r hr => ?_⟩
        rw [List.getElem?_map] at hr
        cases hj : rs[i]? with
        | none => rw [hj] at hr; cases hr
        | some y =>
          rw [hj] at hr; simp only [Option.map_some, Option.some.injEq] at hr; subst hr
          have := h5 i y hj
          simp only [Bool.false_eq_true, if_false] at this ⊢
          exact this.ren hσ
  | froz rs =>
    rcases h with ⟨h, rfl⟩ | ⟨l, vals, h1, h2, h3, h4, h5⟩
    · exact .inl ⟨hσ _ _ h, rfl⟩
    · exact .inr ⟨l, vals, hσ _ _ h1, h2, h3, h4, fun i r hr => by have := h5 i r hr; simpa using this⟩
  | mapo p es =>
    obtain ⟨l, xs, clock, h1, h2, h3, h4⟩ := h
    cases p with
    | true =>
      exact ⟨l, xs, clock, hσ _ _ h1, h2, ⟨h3.1, fun i e x he hx => ⟨(h3.2 i e x he hx).1, .imm _ _ ((h3.2 i e x he hx).2.2 rfl), (h3.2 i e x he hx).2.2⟩⟩, h4⟩
    | false =>
    refine ⟨l, xs, clock, hσ _ _ h1, h2, ⟨by simpa using h3.1, fun i e x he hx => ?_⟩, h4⟩
    rw [List.getElem?_map] at he
    cases hj : es[i]? with
    | none => rw [hj] at he; cases he
    | some y =>
      rw [hj] at he; simp only [Option.map_some, Option.some.injEq] at he; subst he
      exact ⟨(h3.2 i y x hj hx).1, (h3.2 i y x hj hx).2.1.ren hσ, fun hp => by cases hp⟩
  | lit rs =>
    obtain ⟨l, vals, h1, h2, h4, h5, h6, h7, h8⟩ := h
    exact ⟨l, vals, hσ _ _ h1, h2, h4, h5, h6, h7, fun i r hr => by have := h8 i r hr; simpa using this⟩
  | fmap z fs hh =>
    obtain ⟨l, xs, clock, h1, h2, h3, h4⟩ := h
    refine ⟨l, xs, clock, hσ _ _ h1, h2, h3, h4.1, fun i e x he hx => ?_, fun i j x y b h5 h6 h7 h8 => h4.2.2 i j x y b h5 h6 (by simpa using h7) (by simpa using h8)⟩
    obtain ⟨g1, g2, g3⟩ := h4.2.1 i e x he hx
    refine ⟨g1, fun hn => g2 (by simpa using hn), fun q hq => ?_⟩
    simp only [Option.map_eq_some_iff] at hq
    obtain ⟨⟨i', q'⟩, hq1, hq2⟩ := hq
    injection hq2 with e1 e2
    simp only at e1 e2
    subst e1; subst e2
    exact (g3 q' hq1).ren hσ

theorem renO_live (σ : Nat → Nat) (x : AO) : (renO σ x).live = x.live := by
  cases x with
  | rows p rs => cases p <;> rfl
  | froz rs => rfl
  | mapo p es => cases p <;> rfl
  | lit rs => rfl
  | fmap z fs hh => rfl

theorem foot_ren {w : World} {σ : Nat → Nat} {x : AO} {l : Loc} {b : Nat} (h : foot w (renO σ x) l b) : foot w x l b := by
  cases x with
  | rows p rs => cases p <;> exact h
  | froz rs => exact h
  | mapo p es => cases p <;> exact h
  | lit rs => exact h
  | fmap z fs hh =>
    rcases h with h | ⟨xs, c, i, e, h1, h2, h3, h4⟩
    · exact .inl h
    · exact .inr ⟨xs, c, i, e, h1, h2, by simpa using h3, h4⟩
theorem foot_unren {w : World} {σ : Nat → Nat} {x : AO} {l : Loc} {b : Nat} (h : foot w x l b) : foot w (renO σ x) l b := by
  cases x with
  | rows p rs => cases p <;> exact h
  | froz rs => exact h
  | mapo p es => cases p <;> exact h
  | lit rs => exact h
  | fmap z fs hh =>
    rcases h with h | ⟨xs, c, i, e, h1, h2, h3, h4⟩
    · exact .inl h
    · exact .inr ⟨xs, c, i, e, h1, h2, by simpa using h3, h4⟩
theorem foot_wk {w : World} {σ : Nat → Nat} {x y : AO} {l : Loc} {b : Nat} (h : WkO y (renO σ x)) (hb : foot w x l b) : foot w y l b := by
  rcases h with h | ⟨p, rs, rs', rfl, h, _⟩ | ⟨rs, rs', rfl, h, _⟩
  · rw [← h]; exact foot_unren hb
  · have := foot_unren (σ := σ) hb
    rw [h] at this; exact .inl (foot_one rfl this)
  · have := foot_unren (σ := σ) hb
    rw [h] at this; exact .inl (foot_one rfl this)

theorem updO_append (base : Nat → Option AO) : ∀ (U U' : List (Nat × Option AO)), updO base (U ++ U') = updO (updO base U') U := by
  intro U
  induction U with
  | nil => intro U'; rfl
  | cons e r ih => intro U'; funext o; simp only [List.cons_append, updO, ih]

/-- objects that are frozen -/
theorem frozen_lk {V : List Nat} {ol : Nat → Option AO} {n : Nat} {U : List (Nat × Option AO)} (h : frozen V ol n = some U) (base : Nat → Option AO) (o : Nat) :
    (o ∈ V ∧ ∃ y rs, ol o = some y ∧ rowsOf (closeAV V ol n) y = some rs ∧ updO base U o = some (.froz rs)) ∨ (o ∉ V ∧ updO base U o = base o) := by
  unfold frozen at h
  have : ∀ (V' : List Nat) (U : List (Nat × Option AO)), optMap (fun o => match ol o with | some y => (rowsOf (closeAV V ol n) y).map fun rs => (o, some (AO.froz rs)) | none => none) V' = some U →
      (o ∈ V' ∧ ∃ y rs, ol o = some y ∧ rowsOf (closeAV V ol n) y = some rs ∧ updO base U o = some (.froz rs)) ∨ (o ∉ V' ∧ updO base U o = base o) := by
    intro V'
    induction V' with
    | nil => intro U h; simp only [optMap, Option.some.injEq] at h; subst h; exact .inr ⟨by simp, rfl⟩
    | cons k r ih =>
      intro U h
      simp only [optMap] at h
      split at h
      · rename_i y s hy hs
        injection h with h; subst h
        split at hy
        · rename_i z hz
          simp only [Option.map_eq_some_iff] at hy
          obtain ⟨rs, hrs, rfl⟩ := hy
          by_cases e : o = k
          · subst e
            left; exact ⟨by simp, z, rs, hz, hrs, by simp [updO]⟩
          · rcases ih s hs with ⟨h1, h2⟩ | ⟨h1, h2⟩
            · left; refine ⟨by simp [h1], ?_⟩
              obtain ⟨y, rs', q1, q2, q3⟩ := h2
              exact ⟨y, rs', q1, q2, by simp [updO, e, q3]⟩
            · right; exact ⟨by simp [e, h1], by simp [updO, e, h2]⟩
        · cases hy
      · cases h
  exact this V U h

/-- the places under the old numbers, of those below n -/
def ιback (ι : Imap) (σ : Nat → Nat) (n : Nat) : Imap := fun o => if o < n then ι (σ o) else none

mutual
theorem Rep.unren {S : Nat → Prop} {w : World} {ι : Imap} {σ : Nat → Nat} {n : Nat} : ∀ (v : AV) (x : Value), idsB n v = true → Rep S w ι (renAV σ v) x → Rep S w (ιback ι σ n) v x
  | .ptr o r c, x, hb, h => by
    obtain ⟨l, hl, rfl⟩ := h.ptr_inv
    exact .ptr o r c l (by simp only [ιback]; rw [if_pos (of_decide_eq_true hb)]; exact hl)
  | .osl o off len room, x, hb, h => by
    have hι : ∀ y, ι (σ o) = some y → ιback ι σ n o = some y := fun y hy => by simp only [ιback]; rw [if_pos (of_decide_eq_true hb)]; exact hy
    rcases osl_inv h with ⟨l, a, cap, q, rfl, h1, h2, h3, h4, h5, ha⟩ | ⟨q, rfl, rfl, rfl, a, rfl⟩
    · exact .osl o off len room cap a l (hι _ q) h1 h2 h3 h4 h5 ha
    · exact .oslv o a (hι _ q)
  | .osw o z, x, hb, h => by
    have hι : ∀ y, ι (σ o) = some y → ιback ι σ n o = some y := fun y hy => by simp only [ιback]; rw [if_pos (of_decide_eq_true hb)]; exact hy
    rcases osw_inv h with ⟨l, a, cap, q, rfl, h2, h3, h4, hz, ha⟩ | ⟨q, a, rfl⟩
    · exact .osw o z cap a l (hι _ q) h2 h3 h4 hz ha
    · exact .oswv o z a (hι _ q)
  | .mapo o, x, hb, h => by
    obtain ⟨l, hl, rfl⟩ := h.mapo_inv
    exact .mapo o l (by simp only [ιback]; rw [if_pos (of_decide_eq_true hb)]; exact hl)
  | .agg cs, x, hb, h => by
    obtain ⟨vs, rfl, hL⟩ := h.agg_inv
    exact RepL.agg (RepL.unren cs vs.toList hb hL)
  | .tup cs, x, hb, h => by
    obtain ⟨vs, rfl, hL⟩ := h.tup_inv
    exact RepL.tupr (RepL.unren cs vs.toList hb hL)
  | .fn f cs, x, hb, h => by
    obtain ⟨vs, rfl, hL⟩ := h.fn_inv
    exact RepL.fnr (RepL.unren cs vs.toList hb hL)
  | .int k m, x, _, h => .imm _ _ (h.free rfl)
  | .bool b, x, _, h => .imm _ _ (h.free rfl)
  | .str s, x, _, h => .imm _ _ (h.free rfl)
  | .esl, x, _, h => .imm _ _ (h.free rfl)
  | .sl xs, x, _, h => .imm _ _ (h.free rfl)
  | .rp row c, x, _, h => .imm _ _ (h.free rfl)
  | .con v, x, _, h => .imm _ _ (h.free rfl)
  | .undef, x, _, h => .imm _ _ (.undef _)
  | .anyb p, x, _, h => by
    cases h with
    | imm _ _ h => cases h with | anyb _ b h => exact .imm _ _ (.anyb p b h)
theorem RepL.unren {S : Nat → Prop} {w : World} {ι : Imap} {σ : Nat → Nat} {n : Nat} : ∀ (cs : List AV) (vs : List Value), idsBL n cs = true → RepL S w ι (renL σ cs) vs → RepL S w (ιback ι σ n) cs vs
  | [], vs, _, h => by
    have := h.1
    simp only [renL, List.length_nil] at this
    cases vs with
    | nil => exact .nil
    | cons v r => simp at this
  | c :: cs, vs, hb, h => by
    simp only [idsBL, Bool.and_eq_true] at hb
    simp only [renL] at h
    cases vs with
    | nil => have := h.1; simp at this
    | cons v r =>
      have h1 : Rep S w ι (renAV σ c) v := h.2 0 _ _ rfl rfl
      have h2 : RepL S w ι (renL σ cs) r := ⟨by simpa using h.1, fun j x v hx hv => h.2 (j + 1) x v (by simpa using hx) (by simpa using hv)⟩
      exact RepL.cons (Rep.unren c v hb.1 h1) (RepL.unren cs r hb.2 h2)
end

theorem ObjOk.unren {S : Nat → Prop} {w : World} {ι : Imap} {σ : Nat → Nat} {n o : Nat} {x : AO} (ho : o < n) (hb : idsBO n x = true) (h : ObjOk S w ι (σ o) (renO σ x)) :
    ObjOk S w (ιback ι σ n) o x := by
  have hι : ∀ y, ι (σ o) = some y → ιback ι σ n o = some y := fun y hy => by simp only [ιback]; rw [if_pos ho]; exact hy
  cases x with
  | rows p rs =>
    cases p with
    | true =>
      rcases h with ⟨q, rfl⟩ | ⟨l, vals, h1, h2, h3, h4, h5⟩
      · exact .inl ⟨hι _ q, rfl⟩
      · exact .inr ⟨l, vals, hι _ h1, h2, h3, h4, fun i r hr => by have := h5 i r hr; simpa using this⟩
    | false =>
      simp only [renO] at h
      rcases h with ⟨q, hrs⟩ | ⟨l, vals, h1, h2, h3, h4, h5⟩
      · exact .inl ⟨hι _ q, by simpa using hrs⟩
      · refine .inr ⟨l, vals, hι _ h1, by simpa using h2, h3, by simpa using h4, fun i r hr => ?_⟩
        have hmap : (rs.map (renL σ))[i]? = some (renL σ r) := by rw [List.getElem?_map, hr]; rfl
        have := h5 i _ hmap
        simp only [Bool.false_eq_true, if_false] at this ⊢
        refine RepL.unren r _ ?_ this
        simp only [idsBO] at hb
        exact List.all_eq_true.1 hb r (List.mem_of_getElem? hr)
  | froz rs =>
    rcases h with ⟨q, rfl⟩ | ⟨l, vals, h1, h2, h3, h4, h5⟩
    · exact .inl ⟨hι _ q, rfl⟩
    · exact .inr ⟨l, vals, hι _ h1, h2, h3, h4, fun i r hr => by have := h5 i r hr; simpa using this⟩
  | mapo p es =>
    cases p with
    | true =>
      obtain ⟨l, xs, clock, h1, h2, h3, h4⟩ := h
      exact ⟨l, xs, clock, hι _ h1, h2, ⟨h3.1, fun i e x he hx => ⟨(h3.2 i e x he hx).1, .imm _ _ ((h3.2 i e x he hx).2.2 rfl), (h3.2 i e x he hx).2.2⟩⟩, h4⟩
    | false =>
    obtain ⟨l, xs, clock, h1, h2, h3, h4⟩ := h
    refine ⟨l, xs, clock, hι _ h1, h2, ⟨by simpa using h3.1, fun i e x he hx => ?_⟩, h4⟩
    have hmap : (es.map fun e => (e.1, renAV σ e.2))[i]? = some (e.1, renAV σ e.2) := by rw [List.getElem?_map, he]; rfl
    have := h3.2 i _ x hmap hx
    simp only [idsBO] at hb
    exact ⟨this.1, Rep.unren e.2 x.val (List.all_eq_true.1 hb e (List.mem_of_getElem? he)) this.2.1, fun hp => by cases hp⟩
  | lit rs =>
    obtain ⟨l, vals, h1, h2, h4, h5, h6, h7, h8⟩ := h
    exact ⟨l, vals, hι _ h1, h2, h4, h5, h6, h7, fun i r hr => by have := h8 i r hr; simpa using this⟩
  | fmap z fs hh =>
    obtain ⟨l, xs, clock, h1, h2, h3, h4⟩ := h
    refine ⟨l, xs, clock, hι _ h1, h2, h3, h4.1, fun i e x he hx => ?_, fun i j x y b h5 h6 h7 h8 => h4.2.2 i j x y b h5 h6 (by simpa using h7) (by simpa using h8)⟩
    obtain ⟨g1, g2, g3⟩ := h4.2.1 i e x he hx
    refine ⟨g1, fun hn => g2 (by simpa using hn), fun q hq => ?_⟩
    subst hq
    simp only [idsBO] at hb
    exact Rep.unren (.osw q z) x.val hb (g3 (σ q) rfl)

/-- objects that come back under the caller's numbers -/
theorem back_lk {σ : Nat → Nat} : ∀ (os' : List (Nat × AO)) (base : Nat → Option AO) (T : List (Nat × Option AO)),
    (∀ e e', e ∈ os' → e' ∈ os' → σ e.1 = σ e'.1 → e.1 = e'.1) →
    (∀ j x, lk os' j = some x → updO base (os'.map (fun e => (σ e.1, some (renO σ e.2))) ++ T) (σ j) = some (renO σ x)) ∧
    (∀ o, (∀ e, e ∈ os' → σ e.1 ≠ o) → updO base (os'.map (fun e => (σ e.1, some (renO σ e.2))) ++ T) o = updO base T o) := by
  intro os'
  induction os' with
  | nil => intro base T _; exact ⟨fun j x h => by simp [lk] at h, fun o _ => rfl⟩
  | cons e r ih =>
    intro base T hinj
    obtain ⟨h1, h2⟩ := ih base T (fun a b ha hb => hinj a b (List.mem_cons_of_mem _ ha) (List.mem_cons_of_mem _ hb))
    constructor
    · intro j x h
      simp only [lk] at h
      simp only [List.map_cons, List.cons_append, updO]
      by_cases hj : j = e.1
      · subst hj
        rw [if_pos rfl] at h ⊢
        injection h with h; subst h; rfl
      · rw [if_neg hj] at h
        have hm : ∃ x', (j, x') ∈ r := by
          clear h1 h2 ih hinj
          induction r with
          | nil => simp [lk] at h
          | cons q r ih =>
            simp only [lk] at h
            by_cases hq : j = q.1
            · exact ⟨q.2, by rw [hq]; exact List.mem_cons_self⟩
            · rw [if_neg hq] at h
              obtain ⟨x', hx'⟩ := ih h
              exact ⟨x', List.mem_cons_of_mem _ hx'⟩
        obtain ⟨x', hx'⟩ := hm
        have : σ j ≠ σ e.1 := fun q => hj (hinj (j, x') e (List.mem_cons_of_mem _ hx') List.mem_cons_self q)
        rw [if_neg this]
        exact h1 j x h
    · intro o ho
      simp only [List.map_cons, List.cons_append, updO]
      rw [if_neg (fun q => ho e List.mem_cons_self q.symm)]
      exact h2 o (fun a ha => ho a (List.mem_cons_of_mem _ ha))

theorem lk_of_mem : ∀ {os : List (Nat × AO)} {e : Nat × AO}, e ∈ os → ∃ x, lk os e.1 = some x := by
  intro os
  induction os with
  | nil => intro e h; cases h
  | cons q r ih =>
    intro e h
    by_cases hq : e.1 = q.1
    · exact ⟨q.2, by simp [lk, hq]⟩
    · rcases List.mem_cons.1 h with rfl | h
      · exact absurd rfl hq
      · obtain ⟨x, hx⟩ := ih h
        exact ⟨x, by simp [lk, hq, hx]⟩

theorem updO_none (base : Nat → Option AO) : ∀ (V : List Nat) (o : Nat), updO base (V.map fun o => (o, none)) o = if o ∈ V then none else base o := by
  intro V
  induction V with
  | nil => intro o; simp [updO]
  | cons k r ih =>
    intro o
    simp only [List.map_cons, updO, ih, List.mem_cons]
    by_cases h : o = k
    · simp [h]
    · simp [h]

section
variable {C : Cx} {S : Nat → Prop} {w : World} {ι : Imap} {P : Program} {un : Nat → Prop} {f : FS} {a : Act} {id : Nat} {o : Oper}
  {next : Act → World → Prop} {Q : Exit → Act → World → Prop}

theorem call_run {fn : Operand} {args : Array Operand} {ts : Array TypeId} (hop : o.op = .call { callee := .value fn, args := args, argTypes := ts }) {fid : Nat} {vs : Array Value}
    (hfn : a.eval fn = .func (.func fid) #[] vs) (hc : callB P fid = true) : (execOp a.eval o).run P w = .ok (.enter fid (args.map a.eval ++ vs)) w := by
  unfold execOp; rw [hop]
  simp only [resolve, hfn, Deferred.ofValue, Sem.run_bind, Sem.run_pure, Result.andThen_ok, invoke, callB_run hc, Array.empty_append]

theorem SV_lt (h : Inv C S ι un f a w) (V : List Nat) : ∀ b, SV S ι f.os V b → b < w.heap.size := by
  rintro b (hb | ⟨o', x, l, _, hox, hl, rfl⟩)
  · exact h.sb b hb
  · by_cases hlv : x.live = true
    · exact (h.own o' x hox hlv l hl _ (.inl rfl)).2.2
    · have := h.ob o' x hox
      cases x with
      | froz rs =>
        rcases this with ⟨q, _⟩ | ⟨l', vals, q, _, hS, _⟩
        · rw [q] at hl; cases hl
        · rw [q] at hl; injection hl with hl; injection hl with hl; subst hl; exact h.sb _ hS
      | rows p rs => exact absurd rfl hlv
      | mapo p es => exact absurd rfl hlv
      | fmap z fs hh => exact absurd rfl hlv
      | lit rs => exact absurd rfl hlv

theorem Fr.then {Ow : Nat → Prop} {w0 w w' : World} (h : Fr Ow w0 w) (h' : Fr (OwOf w (fun _ => none) []) w w') : Fr Ow w0 w' := by
  have hold : ∀ b, b < w.heap.size → w'.heap[b]? = w.heap[b]? := fun b hb => h'.old b hb (by
    rintro (q | ⟨o, x, l, q, _⟩)
    · omega
    · simp [lk] at q)
  exact ⟨h'.os.trans h.os, h'.output.trans h.output, Nat.le_trans h.size h'.size, fun b hb hn => by
    rw [hold b (by have := h.size; omega)]; exact h.old b hb hn⟩

/-- the steps, calls too -/
theorem step_ok {op : Op} {v : AV} {U : List (Nat × Option AO)} {RO : List Nat} (hop : o.op = op) (h : Inv C S ι un f a w)
    (hst : AStep P C.G (evA C.G f.g) f.os id op v U RO) (hid : ∀ x, id ≤ x → x < id + W → un x) (hd : ∀ d, o.dst = some d → C.N.lo ≤ d ∧ d < C.N.n) (hn : Goes C un id o f v U next) :
    o.wp P a w next Q := by
  by_cases hcall : ∀ c, op = .call c → ∃ b, c.callee = .builtin b
  · exact step_mem hop h hst hcall hid hd hn
  cases hst with
  | call fn args ts fid cap _ n argsC _ hev hv hf hfl =>
    have hx := h.ev fn
    rw [hev] at hx
    obtain ⟨vs, hvf, hL⟩ := hx.fn_inv
    rw [fnV_lt (callB_lt hf.1)] at hvf
    have hargs : RepL S w ι (args.toList.map (evA C.G f.g) ++ cap) (args.map a.eval ++ vs).toList := by
      rw [Array.toList_append, Array.toList_map]
      exact (RepL.map h.ev _).append hL
    have hcl := closeL_ok (V := RO) h.ob hargs hv
    have hSV := SV_lt h RO
    unfold Oper.wp
    rw [call_run hop hvf hf.1, Oper.upon_enter]
    have hcalls := hf.2.2 (SV S ι f.os RO) (fun _ => none) w (args.map a.eval ++ vs) hSV (fun g row hg => (h.gv g row hg).mono (fun b hb => .inl hb) (fun _ _ => rfl))
      ⟨fun o x hx => by simp [lk] at hx, fun o x hx => by simp [lk] at hx, fun o o' x x' hx => by simp [lk] at hx⟩ (fun _ _ => rfl) hcl.rep
    refine hcalls.mono ?_
    rintro e w' ⟨v', S', ι', rfl, hfr, hS1, hS2, hle, hιW, hrep, hob'⟩
    have hold : ∀ b, b < w.heap.size → w'.heap[b]? = w.heap[b]? := fun b hb => hfr.old b hb (by
      rintro (q | ⟨o, x, l, q, _⟩)
      · omega
      · simp [lk] at q)
    have hw : SameOn S w w' := fun b hb => hold b (h.sb b hb)
    have hinv : Inv C S ι un { f with os := updO f.os [] } a w' := by
      refine h.turn (fun _ x => x) hw (Imap.le_refl _) (fun o' x hx => (h.ob o' x hx).mono (fun _ x => x) hw (Imap.le_refl _) (fun l hl hlv b hb => hold _ (h.own o' x hx hlv l hl b hb).2.2))
        (fun o' x hx hlv l hl b hb => ?_) (fun o o' x x' hx hx' h1 h2 l l' e1 e2 b b1 b2 => h.inj o o' x x' hx hx' h1 h2 l l' e1 e2 b (foot_same (hold _ (h.own o x hx h1 l e1 _ (.inl rfl)).2.2) b1) (foot_same (hold _ (h.own o' x' hx' h2 l' e2 _ (.inl rfl)).2.2) b2)) (fun b hb => ?_) h.sn h.un (h.fr.then hfr)
      · have := h.own o' x hx hlv l hl b (foot_same (hold _ (h.own o' x hx hlv l hl _ (.inl rfl)).2.2) hb)
        exact ⟨this.1, this.2.1, by have := hfr.size; omega⟩
      · have := h.sb b hb; have := hfr.size; omega
    exact Inv.goes hn hinv (fun x hx => hx.1) (.imm _ _ (hrep.flat hfl)) hd
  | callF fn args ts fid cap _ n argsC rv os' U hev hv hf hU =>
    have hx := h.ev fn
    rw [hev] at hx
    obtain ⟨vs, hvf, hL⟩ := hx.fn_inv
    rw [fnV_lt (callB_lt hf.1)] at hvf
    have hargs : RepL S w ι (args.toList.map (evA C.G f.g) ++ cap) (args.map a.eval ++ vs).toList := by
      rw [Array.toList_append, Array.toList_map]
      exact (RepL.map h.ev _).append hL
    have hcl := closeL_ok (V := RO) h.ob hargs hv
    have hSV := SV_lt h RO
    unfold Oper.wp
    rw [call_run hop hvf hf.1, Oper.upon_enter]
    have hcalls := hf.2.2 (SV S ι f.os RO) (fun _ => none) w (args.map a.eval ++ vs) hSV (fun g row hg => (h.gv g row hg).mono (fun b hb => .inl hb) (fun _ _ => rfl))
      ⟨fun o x hx => by simp [lk] at hx, fun o x hx => by simp [lk] at hx, fun o o' x x' hx => by simp [lk] at hx⟩ (fun _ _ => rfl) hcl.rep
    refine hcalls.mono ?_
    rintro e w' ⟨v', S', ι', rfl, hfr, hS1', hS2, hle, hιW, hrep, hob'⟩
    have hS1 : ∀ b, S' b → (SV S ι f.os RO b ∨ w.heap.size ≤ b) ∧ b < w'.heap.size := fun b hb => ⟨(hS1' b hb).1.imp (fun q => q) (by
      rintro (q | ⟨o, x, l, q, _⟩)
      · exact q
      · simp [lk] at q), (hS1' b hb).2⟩
    have hold : ∀ b, b < w.heap.size → w'.heap[b]? = w.heap[b]? := fun b hb => hfr.old b hb (by
      rintro (q | ⟨o, x, l, q, _⟩)
      · omega
      · simp [lk] at q)
    have hSS : ∀ b, S b → S' b := fun b hb => hS2 b (.inl hb)
    have hw : SameOn S w w' := fun b hb => hold b (h.sb b hb)
    have hwV : SameOn (SV S ι f.os RO) w w' := fun b hb => hold b (hSV b hb)
    -- the places behind the call
    have hlt' := hf.2.1
    let ι2 : Imap := fun x => if id ≤ x ∧ x < id + W then ι' (x - id) else ι x
    have hι2 : ι.le ι2 := by
      intro x y hxy
      by_cases hc : id ≤ x ∧ x < id + W
      · rw [h.un x (hid x hc.1 hc.2)] at hxy; cases hxy
      · simp only [ι2, hc, if_false]; exact hxy
    have hσ : ∀ x y, ι' x = some y → ι2 (id + x) = some y := by
      intro x y hxy
      have hx : x < W := by
        rcases Nat.lt_or_ge x W with q | q
        · exact q
        · rw [hιW x q] at hxy; cases hxy
      simp only [ι2]
      rw [if_pos ⟨by omega, by omega⟩]
      rw [show id + x - id = x by omega]; exact hxy
    have hnew : ∀ o, id ≤ o → ∀ x, lk os' (o - id) = some x → ObjOk S' w' ι2 o (renO (id + ·) x) := by
      intro o ho x hx
      have := (hob'.ob _ x hx).ren (σ := (id + ·)) hσ
      rw [show id + (o - id) = o by omega] at this; exact this
    have hblk : ∀ o, id ≤ o → ∀ x, lk os' (o - id) = some x → x.live = true → ∀ l, ι2 o = some (some l) → ∀ b, foot w' x l b → w.heap.size ≤ b ∧ ¬ S' b ∧ b < w'.heap.size ∧ ι' (o - id) = some (some l) := by
      intro o ho x hx hlv l hl b hb
      have hlt := hlt' _ _ hx
      simp only [ι2] at hl
      rw [if_pos ⟨ho, by omega⟩] at hl
      have := hob'.own _ x hx hlv l hl b hb
      refine ⟨?_, this.2.1, this.2.2, hl⟩
      rcases this.1 with q | ⟨o, x, l, q, _⟩
      · exact q
      · simp [lk] at q
    have hfree : ∀ o x, f.os o = some x → ¬ (id ≤ o ∧ o < id + W) := by
      intro o x hx hc
      have hnone := h.un o (hid o hc.1 hc.2)
      have := h.ob o x hx
      cases x with
      | rows p rs => rcases this with ⟨q, _⟩ | ⟨l, vals, q, _⟩ <;> (rw [hnone] at q; cases q)
      | froz rs => rcases this with ⟨q, _⟩ | ⟨l, vals, q, _⟩ <;> (rw [hnone] at q; cases q)
      | mapo p es => obtain ⟨l, xs, c, q, _⟩ := this; rw [hnone] at q; cases q
      | fmap z fs hh => obtain ⟨l, xs, c, q, _⟩ := this; rw [hnone] at q; cases q
      | lit rs => obtain ⟨l, vals, q, _⟩ := this; rw [hnone] at q; cases q
    have hold2 : ∀ o x, f.os o = some x → ∀ l, ι2 o = some (some l) → ι o = some (some l) := by
      intro o x hx l hl
      simp only [ι2] at hl
      rw [if_neg (hfree o x hx)] at hl; exact hl
    -- what stands at a number behind the call
    have hcase : ∀ o x, updO f.os (U ++ addNew id os') o = some x →
        (o ∈ RO ∧ ∃ y rs, f.os o = some y ∧ rowsOf (closeAV RO f.os n) y = some rs ∧ x = .froz rs) ∨
        (o ∉ RO ∧ id ≤ o ∧ ∃ x', lk os' (o - id) = some x' ∧ x = renO (id + ·) x') ∨ (o ∉ RO ∧ f.os o = some x) := by
      intro o x hx
      rw [updO_append] at hx
      rcases frozen_lk hU (updO f.os (addNew id os')) o with ⟨h1, y, rs, h2, h3, h4⟩ | ⟨h1, h2⟩
      · rw [h4] at hx; injection hx with hx
        exact .inl ⟨h1, y, rs, h2, h3, hx.symm⟩
      · rw [h2, addNew_lk] at hx
        split at hx
        · rename_i hc
          obtain ⟨x', hx'⟩ := Option.isSome_iff_exists.1 hc.2
          rw [hx'] at hx
          simp only [Option.map_some, Option.some.injEq] at hx
          exact .inr (.inl ⟨h1, hc.1, x', hx', hx.symm⟩)
        · exact .inr (.inr ⟨h1, hx⟩)
    have hinv : Inv C S' ι2 (fun x => un x ∧ ¬ (id ≤ x ∧ x < id + W)) { f with os := updO f.os (U ++ addNew id os') } a w' := by
      refine h.turn hSS hw hι2 ?_ ?_ ?_ (fun b hb => (hS1 b hb).2) (fun b hb => ?_) (fun o ho => ?_) (h.fr.then hfr)
      · intro o x hx
        rcases hcase o x hx with ⟨h1, y, rs, h2, h3, rfl⟩ | ⟨h1, h2, x', h3, rfl⟩ | ⟨h1, h2⟩
        · rcases rowsOf_ok (closeAV_ok h.ob n) (h.ob o y h2) h3 with ⟨q, rfl⟩ | ⟨l, vals, q, hcnt, hat, hrp⟩
          · exact .inl ⟨hι2 _ _ q, rfl⟩
          · have hb : SV S ι f.os RO l.blk := .inr ⟨o, y, l, h1, h2, q, rfl⟩
            refine .inr ⟨l, vals, hι2 _ _ q, hcnt, hS2 _ hb, ⟨hat.1, hat.2.1, fun i j v hi hv => ?_⟩, fun i r hr => ?_⟩
            · rw [cell_same (hwV _ hb)]; exact hat.2.2 i j v hi hv
            · simp only [if_true]; exact (hrp i r hr).mono hS2 hwV
        · exact hnew o h2 x' h3
        · exact (h.ob o x h2).mono hSS hw hι2 (fun l hl hlv b hb => hold _ (h.own o x h2 hlv l hl b hb).2.2)
      · intro o x hx hlv l hl b hb
        rcases hcase o x hx with ⟨h1, y, rs, h2, h3, rfl⟩ | ⟨h1, h2, x', h3, rfl⟩ | ⟨h1, h2⟩
        · cases hlv
        · rw [renO_live] at hlv
          have := hblk o h2 x' h3 hlv l hl b (foot_ren hb)
          exact ⟨h.fo _ (Nat.le_trans h.fr.size this.1), this.2.1, this.2.2.1⟩
        · have hl' := hold2 o x h2 l hl
          have hb := foot_same (hold _ (h.own o x h2 hlv l hl' _ (.inl rfl)).2.2) hb
          have := h.own o x h2 hlv l hl' b hb
          refine ⟨this.1, fun hs => ?_, by have := hfr.size; omega⟩
          rcases (hS1 _ hs).1 with (q | ⟨o2, x2, l2, q1, q2, q3, q4⟩) | q
          · exact this.2.1 q
          · by_cases hlv2 : x2.live = true
            · have := h.inj o o2 x x2 h2 q2 hlv hlv2 l l2 hl' q3 b hb (.inl q4)
              subst this; exact h1 q1
            · have hob2 := h.ob o2 x2 q2
              cases x2 with
              | froz rs =>
                rcases hob2 with ⟨q, _⟩ | ⟨l', vals, q, _, hS, _⟩
                · rw [q] at q3; cases q3
                · rw [q] at q3; injection q3 with q3; injection q3 with q3; subst q3
                  rw [← q4] at hS; exact this.2.1 hS
              | rows p rs => exact absurd rfl hlv2
              | mapo p es => exact absurd rfl hlv2
              | fmap z fs hh => exact absurd rfl hlv2
              | lit rs => exact absurd rfl hlv2
          · omega
      · intro o1 o2 x1 x2 hx1 hx2 hlv1 hlv2 l1 l2 e1 e2 b hb hb2
        rcases hcase o1 x1 hx1 with ⟨h1, y, rs, h2, h3, rfl⟩ | ⟨h1, h2, x1', h3, rfl⟩ | ⟨h1, h2⟩
        · cases hlv1
        · rw [renO_live] at hlv1
          have b1 := hblk o1 h2 x1' h3 hlv1 l1 e1 b (foot_ren hb)
          rcases hcase o2 x2 hx2 with ⟨g1, y, rs, g2, g3, rfl⟩ | ⟨g1, g2, x2', g3, rfl⟩ | ⟨g1, g2⟩
          · cases hlv2
          · rw [renO_live] at hlv2
            have b2 := hblk o2 g2 x2' g3 hlv2 l2 e2 b (foot_ren hb2)
            have := hob'.inj _ _ x1' x2' h3 g3 hlv1 hlv2 l1 l2 b1.2.2.2 b2.2.2.2 b (foot_ren hb) (foot_ren hb2)
            omega
          · have := h.own o2 x2 g2 hlv2 l2 (hold2 o2 x2 g2 l2 e2) b (foot_same (hold _ (h.own o2 x2 g2 hlv2 l2 (hold2 o2 x2 g2 l2 e2) _ (.inl rfl)).2.2) hb2)
            omega
        · have hb := foot_same (hold _ (h.own o1 x1 h2 hlv1 l1 (hold2 o1 x1 h2 l1 e1) _ (.inl rfl)).2.2) hb
          have b1 := h.own o1 x1 h2 hlv1 l1 (hold2 o1 x1 h2 l1 e1) b hb
          rcases hcase o2 x2 hx2 with ⟨g1, y, rs, g2, g3, rfl⟩ | ⟨g1, g2, x2', g3, rfl⟩ | ⟨g1, g2⟩
          · cases hlv2
          · rw [renO_live] at hlv2
            have b2 := hblk o2 g2 x2' g3 hlv2 l2 e2 b (foot_ren hb2)
            omega
          · exact h.inj o1 o2 x1 x2 h2 g2 hlv1 hlv2 l1 l2 (hold2 o1 x1 h2 l1 e1) (hold2 o2 x2 g2 l2 e2) b hb (foot_same (hold _ (h.own o2 x2 g2 hlv2 l2 (hold2 o2 x2 g2 l2 e2) _ (.inl rfl)).2.2) hb2)
      · rcases (hS1 b hb).1 with (q | ⟨o2, x2, l2, q1, q2, q3, q4⟩) | q
        · exact h.sn b q
        · subst q4
          by_cases hlv2 : x2.live = true
          · right; exact (h.own o2 x2 q2 hlv2 l2 q3 _ (.inl rfl)).1
          · have hob2 := h.ob o2 x2 q2
            cases x2 with
            | froz rs =>
              rcases hob2 with ⟨q, _⟩ | ⟨l', vals, q, _, hS, _⟩
              · rw [q] at q3; cases q3
              · rw [q] at q3; injection q3 with q3; injection q3 with q3; subst q3
                exact h.sn _ hS
            | rows p rs => exact absurd rfl hlv2
            | mapo p es => exact absurd rfl hlv2
            | fmap z fs hh => exact absurd rfl hlv2
            | lit rs => exact absurd rfl hlv2
        · right; exact h.fo _ (Nat.le_trans h.fr.size q)
      · simp only [ι2]
        rw [if_neg ho.2]; exact h.un o ho.1
    exact Inv.goes hn hinv (fun x hx => hx) (hrep.ren hσ) hd
  | callG fn args ts fid cap _ oin argsC rv os' hev hh hf =>
    have hx := h.ev fn
    rw [hev] at hx
    obtain ⟨vs, hvf, hL⟩ := hx.fn_inv
    rw [fnV_lt (callB_lt hf.1)] at hvf
    have hargs : RepL S w ι (args.toList.map (evA C.G f.g) ++ cap) (args.map a.eval ++ vs).toList := by
      rw [Array.toList_append, Array.toList_map]
      exact (RepL.map h.ev _).append hL
    obtain ⟨hok, hkeys, hobjs, hargs2⟩ := hh
    generalize RO = V at hok hkeys hobjs hargs2 hn
    simp only [Bool.and_eq_true, decide_eq_true_eq] at hok
    obtain ⟨⟨hnd, hb1⟩, hb2⟩ := hok
    have hlen : oin.length = V.length := by
      have := congrArg List.length hkeys
      simpa using this
    let σ := bk V id
    let ι0 := ιback ι σ V.length
    have hbkV : ∀ j (hj : j < V.length), σ j = V[j] := fun j hj => by simp [σ, bk, hj]
    -- what is handed in
    have hin : ∀ j x, lk oin j = some x → ∃ (hj : j < V.length), (∃ y, f.os V[j] = some y ∧ WkO y (renO σ x)) ∧ idsBO V.length x = true := by
      intro j x hjx
      have hm : (j, x) ∈ oin := by
        clear hkeys hobjs hlen hf hb2
        induction oin with
        | nil => simp [lk] at hjx
        | cons e r ih =>
          simp only [lk] at hjx
          by_cases hje : j = e.1
          · rw [if_pos hje] at hjx; injection hjx with hjx; subst hjx; subst hje; exact List.mem_cons_self
          · rw [if_neg hje] at hjx; exact List.mem_cons_of_mem _ (ih hjx)
      obtain ⟨i, hi, hie⟩ := List.getElem_of_mem hm
      have hki : (oin.map (·.1))[i]? = some j := by rw [List.getElem?_map, List.getElem?_eq_getElem hi, hie]; rfl
      rw [hkeys, List.getElem?_range (by omega)] at hki
      injection hki with hki
      subst hki
      have hj : i < V.length := by omega
      refine ⟨hj, ?_, List.all_eq_true.1 hb2 _ hm⟩
      have ho : (oin.map fun e => some (renO σ e.2))[i]? = some (some (renO σ x)) := by rw [List.getElem?_map, List.getElem?_eq_getElem hi, hie]; rfl
      have hv : (V.map f.os)[i]? = some (f.os V[i]) := by rw [List.getElem?_map, List.getElem?_eq_getElem hj]; rfl
      obtain ⟨y, h1, h2⟩ := hobjs.get i _ _ hv ho
      exact ⟨y, h1, h2⟩
    have hfree : ∀ o x, f.os o = some x → ¬ (id ≤ o ∧ o < id + W) ∧ ∃ L, ι o = some L := by
      intro o x hx
      have hob := h.ob o x hx
      have hL : ∃ L, ι o = some L := by
        cases x with
        | rows p rs => rcases hob with ⟨q, _⟩ | ⟨l, vals, q, _⟩ <;> exact ⟨_, q⟩
        | froz rs => rcases hob with ⟨q, _⟩ | ⟨l, vals, q, _⟩ <;> exact ⟨_, q⟩
        | mapo p es => obtain ⟨l, xs, c, q, _⟩ := hob; exact ⟨_, q⟩
        | fmap z fs hh => obtain ⟨l, xs, c, q, _⟩ := hob; exact ⟨_, q⟩
        | lit rs => obtain ⟨l, vals, q, _⟩ := hob; exact ⟨_, q⟩
      refine ⟨fun hc => ?_, hL⟩
      obtain ⟨L, hL⟩ := hL
      rw [h.un o (hid o hc.1 hc.2)] at hL; cases hL
    have hVos : ∀ j (hj : j < V.length), ∃ x, f.os V[j] = some x := by
      intro j hj
      have ho : (V.map f.os)[j]? = some (f.os V[j]) := by rw [List.getElem?_map, List.getElem?_eq_getElem hj]; rfl
      have hv : (oin.map fun e => some (renO σ e.2))[j]? = some (some (renO σ (oin[j]'(by omega)).2)) := by rw [List.getElem?_map, List.getElem?_eq_getElem (by omega)]; rfl
      obtain ⟨y, h1, h2⟩ := hobjs.get j _ _ ho hv
      exact ⟨y, h1⟩
    have hι0 : ∀ j (hj : j < V.length), ι0 j = ι V[j] := fun j hj => by simp only [ι0, ιback]; rw [if_pos hj, hbkV j hj]
    have hι0n : ∀ j, V.length ≤ j → ι0 j = none := fun j hj => by simp only [ι0, ιback]; rw [if_neg (by omega)]
    have hVidx : ∀ j j' (hj : j < V.length) (hj' : j' < V.length), V[j] = V[j'] → j = j' := fun j j' hj hj' e => by
      rcases Nat.lt_trichotomy j j' with q | q | q
      · exact absurd e (List.pairwise_iff_getElem.1 hnd j j' hj hj' q)
      · exact q
      · exact absurd e.symm (List.pairwise_iff_getElem.1 hnd j' j hj' hj q)
    have hob0 : ObjsOk (OwOf w ι0 oin) S w ι0 (lk oin) := by
      refine ⟨fun j x hjx => ?_, fun j x hjx hlv l hl b hbb => ?_, fun j j' x x' hjx hjx' hlv hlv' l l' hl hl' b hbl hbl2 => ?_⟩
      · obtain ⟨hj, ⟨y, ho, hwk⟩, hb⟩ := hin j x hjx
        refine ObjOk.unren hj hb ?_
        rw [hbkV j hj]
        exact hwk.ok (h.ob _ _ ho)
      · obtain ⟨hj, ⟨y, ho, hwk⟩, hb⟩ := hin j x hjx
        have hl2 := hl
        rw [hι0 j hj] at hl2
        have := h.own _ _ ho (by rw [← hwk.live, renO_live]; exact hlv) l hl2 b (foot_wk hwk hbb)
        exact ⟨.inr ⟨j, x, l, hjx, hlv, hl, hbb⟩, this.2⟩
      · obtain ⟨hj, ⟨y, ho, hwk⟩, hb⟩ := hin j x hjx
        obtain ⟨hj', ⟨y', ho', hwk'⟩, hb'⟩ := hin j' x' hjx'
        rw [hι0 j hj] at hl
        rw [hι0 j' hj'] at hl'
        exact hVidx j j' hj hj' (h.inj _ _ _ _ ho ho' (by rw [← hwk.live, renO_live]; exact hlv) (by rw [← hwk'.live, renO_live]; exact hlv') l l' hl hl' b (foot_wk hwk hbl) (foot_wk hwk' hbl2))
    have hargs0 : RepL S w ι0 argsC (args.map a.eval ++ vs).toList := RepL.unren argsC _ hb1 (hargs2.repL hargs)
    unfold Oper.wp
    rw [call_run hop hvf hf.1, Oper.upon_enter]
    have hcalls := hf.2.2 S ι0 w (args.map a.eval ++ vs) h.sb h.gv hob0 (fun o ho => hι0n o (by omega)) hargs0
    refine hcalls.mono ?_
    rintro e w' ⟨v', S', ι', rfl, hfr, hS1, hS2, hle, hιW, hrep, hob'⟩
    -- blocks that the callee may have written
    have hOw : ∀ b, OwOf w ι0 oin b → b < w.heap.size → ∃ o x l, o ∈ V ∧ f.os o = some x ∧ x.live = true ∧ ι o = some (some l) ∧ foot w x l b := by
      rintro b (hb | ⟨j, x, l, hjx, hlv, hl, hlb⟩) hlt
      · omega
      · obtain ⟨hj, ⟨y, ho, hwk⟩, hb⟩ := hin j x hjx
        rw [hι0 j hj] at hl
        exact ⟨V[j], _, l, List.getElem_mem hj, ho, by rw [← hwk.live, renO_live]; exact hlv, hl, foot_wk hwk hlb⟩
    have hCOw : ∀ b, OwOf w ι0 oin b → C.Ow b := by
      rintro b (hb | ⟨j, x, l, hjx, hlv, hl, hlb⟩)
      · exact h.fo _ (Nat.le_trans h.fr.size hb)
      · obtain ⟨hj, ⟨y, ho, hwk⟩, hb⟩ := hin j x hjx
        rw [hι0 j hj] at hl
        exact (h.own _ _ ho (by rw [← hwk.live, renO_live]; exact hlv) l hl b (foot_wk hwk hlb)).1
    have hSn : ∀ b, S b → ¬ OwOf w ι0 oin b := by
      intro b hb hO
      obtain ⟨o, x, l, _, hx, hlv, hl, hlb⟩ := hOw b hO (h.sb b hb)
      exact (h.own o x hx hlv l hl b hlb).2.1 hb
    have hw : SameOn S w w' := fun b hb => hfr.old b (h.sb b hb) (hSn b hb)
    have holdn : ∀ o x, f.os o = some x → x.live = true → o ∉ V → ∀ l, ι o = some (some l) → ∀ b, foot w x l b → ¬ OwOf w ι0 oin b := by
      intro o x hx hlv hoV l hl b hbb hO
      obtain ⟨o2, x2, l2, hV2, hx2, hlv2, hl2, hb2⟩ := hOw _ hO (h.own o x hx hlv l hl b hbb).2.2
      have := h.inj o o2 x x2 hx hx2 hlv hlv2 l l2 hl hl2 b hbb hb2
      subst this
      exact hoV hV2
    have hlt' := hf.2.1
    let ι2 : Imap := fun x => if id ≤ x ∧ x < id + W then ι' (x - id) else ι x
    have hι2 : ι.le ι2 := by
      intro x y hxy
      by_cases hc : id ≤ x ∧ x < id + W
      · rw [h.un x (hid x hc.1 hc.2)] at hxy; cases hxy
      · simp only [ι2, hc, if_false]; exact hxy
    have hι2V : ∀ j (hj : j < V.length), ι2 V[j] = ι' j := by
      intro j hj
      obtain ⟨x, hx⟩ := hVos j hj
      obtain ⟨hn1, L, hL⟩ := hfree _ _ hx
      simp only [ι2]
      rw [if_neg hn1, hL]
      refine (hle j L ?_).symm
      rw [hι0 j hj]; exact hL
    have hσ : ∀ x y, ι' x = some y → ι2 (σ x) = some y := by
      intro x y hxy
      by_cases hx : x < V.length
      · rw [hbkV x hx, hι2V x hx]; exact hxy
      · have hxW : x < W := by
          rcases Nat.lt_or_ge x W with q | q
          · exact q
          · rw [hιW x q] at hxy; cases hxy
        have e : σ x = id + x := by simp [σ, bk, hx]
        rw [e]
        simp only [ι2]
        rw [if_pos ⟨by omega, by omega⟩, show id + x - id = x by omega]; exact hxy
    have hVout : ∀ j (hj : j < V.length) k, k < W → V[j] ≠ id + k := by
      intro j hj k hk e
      obtain ⟨x, hx⟩ := hVos j hj
      exact (hfree _ _ hx).1 ⟨by omega, by omega⟩
    have hσinj : ∀ j j', j < W → j' < W → σ j = σ j' → j = j' := by
      intro j j' hj hj' e
      by_cases h1 : j < V.length <;> by_cases h2 : j' < V.length
      · rw [hbkV j h1, hbkV j' h2] at e; exact hVidx j j' h1 h2 e
      · have e2 : σ j' = id + j' := by simp [σ, bk, h2]
        rw [hbkV j h1, e2] at e; exact absurd e (hVout j h1 j' hj')
      · have e1 : σ j = id + j := by simp [σ, bk, h1]
        rw [hbkV j' h2, e1] at e; exact absurd e.symm (hVout j' h2 j hj)
      · have e1 : σ j = id + j := by simp [σ, bk, h1]
        have e2 : σ j' = id + j' := by simp [σ, bk, h2]
        omega
    have hkW : ∀ q, q ∈ os' → q.1 < W := fun q hq => by obtain ⟨x, hx⟩ := lk_of_mem hq; exact hlt' _ _ hx
    obtain ⟨hbk1, hbk2⟩ := back_lk (σ := σ) os' f.os (V.map fun o => (o, none)) (fun p q hp hq e => hσinj _ _ (hkW p hp) (hkW q hq) e)
    have hcase : ∀ o x, updO f.os (backU V id os') o = some x → (∃ j x', j < W ∧ o = σ j ∧ lk os' j = some x' ∧ x = renO σ x') ∨ (o ∉ V ∧ f.os o = some x) := by
      intro o x hx
      by_cases hq : ∃ q, q ∈ os' ∧ σ q.1 = o
      · obtain ⟨q, hq1, hq2⟩ := hq
        obtain ⟨x', hx'⟩ := lk_of_mem hq1
        have := hbk1 q.1 x' hx'
        rw [hq2] at this
        rw [show updO f.os (backU V id os') o = _ from this] at hx
        injection hx with hx
        exact .inl ⟨q.1, x', hkW q hq1, hq2.symm, hx', hx.symm⟩
      · have := hbk2 o (fun q hq1 hq2 => hq ⟨q, hq1, hq2⟩)
        rw [show updO f.os (backU V id os') o = _ from this, updO_none] at hx
        split at hx
        · cases hx
        · rename_i hn; exact .inr ⟨hn, hx⟩
    -- the places of what comes back
    have hplace : ∀ j x', lk os' j = some x' → x'.live = true → ∀ l, ι2 (σ j) = some (some l) → ι' j = some (some l) := by
      intro j x' hj hlv l hl
      by_cases hjV : j < V.length
      · rw [hbkV j hjV, hι2V j hjV] at hl; exact hl
      · have e : σ j = id + j := by simp [σ, bk, hjV]
        have := hlt' _ _ hj
        rw [e] at hl
        simp only [ι2] at hl
        rw [if_pos ⟨by omega, by omega⟩, show id + j - id = j by omega] at hl
        exact hl
    have hold2 : ∀ o x, f.os o = some x → ∀ l, ι2 o = some (some l) → ι o = some (some l) := by
      intro o x hx l hl
      simp only [ι2] at hl
      rw [if_neg (hfree o x hx).1] at hl; exact hl
    have hinv : Inv C S' ι2 (fun x => un x ∧ ¬ (id ≤ x ∧ x < id + W)) { f with os := updO f.os (backU V id os') } a w' := by
      refine h.turn hS2 hw hι2 ?_ ?_ ?_ (fun b hb => (hS1 b hb).2) (fun b hb => ?_) (fun o ho => ?_) ?_
      · intro o x hx
        rcases hcase o x hx with ⟨j, x', hj, rfl, hjx, rfl⟩ | ⟨hoV, hx⟩
        · exact (hob'.ob j x' hjx).ren hσ
        · exact (h.ob o x hx).mono hS2 hw hι2 (fun l hl hlv b hb => hfr.old _ (h.own o x hx hlv l hl b hb).2.2 (holdn o x hx hlv hoV l hl b hb))
      · intro o x hx hlv l hl b hb
        rcases hcase o x hx with ⟨j, x', hj, rfl, hjx, rfl⟩ | ⟨hoV, hx⟩
        · rw [renO_live] at hlv
          have := hob'.own j x' hjx hlv l (hplace j x' hjx hlv l hl) b (foot_ren hb)
          exact ⟨hCOw _ this.1, this.2⟩
        · have hl' := hold2 o x hx l hl
          have hb := foot_same (hfr.old _ (h.own o x hx hlv l hl' _ (.inl rfl)).2.2 (holdn o x hx hlv hoV l hl' _ (.inl rfl))) hb
          have := h.own o x hx hlv l hl' b hb
          refine ⟨this.1, fun hs => ?_, by have := hfr.size; omega⟩
          rcases (hS1 _ hs).1 with q | q
          · exact this.2.1 q
          · exact holdn o x hx hlv hoV l hl' b hb q
      · intro o1 o2 x1 x2 hx1 hx2 hlv1 hlv2 l1 l2 e1 e2 b hb hb2
        rcases hcase o1 x1 hx1 with ⟨j1, y1, hj1, rfl, hjx1, rfl⟩ | ⟨hoV1, hx1⟩
        · rw [renO_live] at hlv1
          have p1 := hplace j1 y1 hjx1 hlv1 l1 e1
          rcases hcase o2 x2 hx2 with ⟨j2, y2, hj2, rfl, hjx2, rfl⟩ | ⟨hoV2, hx2⟩
          · rw [renO_live] at hlv2
            have p2 := hplace j2 y2 hjx2 hlv2 l2 e2
            rw [hob'.inj j1 j2 y1 y2 hjx1 hjx2 hlv1 hlv2 l1 l2 p1 p2 b (foot_ren hb) (foot_ren hb2)]
          · have hl2 := hold2 o2 x2 hx2 l2 e2
            have := (hob'.own j1 y1 hjx1 hlv1 l1 p1 b (foot_ren hb)).1
            have hb2 := foot_same (hfr.old _ (h.own o2 x2 hx2 hlv2 l2 hl2 _ (.inl rfl)).2.2 (holdn o2 x2 hx2 hlv2 hoV2 l2 hl2 _ (.inl rfl))) hb2
            exact absurd this (holdn o2 x2 hx2 hlv2 hoV2 l2 hl2 b hb2)
        · have hl1 := hold2 o1 x1 hx1 l1 e1
          rcases hcase o2 x2 hx2 with ⟨j2, y2, hj2, rfl, hjx2, rfl⟩ | ⟨hoV2, hx2⟩
          · rw [renO_live] at hlv2
            have p2 := hplace j2 y2 hjx2 hlv2 l2 e2
            have := (hob'.own j2 y2 hjx2 hlv2 l2 p2 b (foot_ren hb2)).1
            have hb := foot_same (hfr.old _ (h.own o1 x1 hx1 hlv1 l1 hl1 _ (.inl rfl)).2.2 (holdn o1 x1 hx1 hlv1 hoV1 l1 hl1 _ (.inl rfl))) hb
            exact absurd this (holdn o1 x1 hx1 hlv1 hoV1 l1 hl1 b hb)
          · have hl2 := hold2 o2 x2 hx2 l2 e2
            have hb := foot_same (hfr.old _ (h.own o1 x1 hx1 hlv1 l1 hl1 _ (.inl rfl)).2.2 (holdn o1 x1 hx1 hlv1 hoV1 l1 hl1 _ (.inl rfl))) hb
            have hb2 := foot_same (hfr.old _ (h.own o2 x2 hx2 hlv2 l2 hl2 _ (.inl rfl)).2.2 (holdn o2 x2 hx2 hlv2 hoV2 l2 hl2 _ (.inl rfl))) hb2
            exact h.inj o1 o2 x1 x2 hx1 hx2 hlv1 hlv2 l1 l2 hl1 hl2 b hb hb2
      · rcases (hS1 b hb).1 with q | q
        · exact h.sn b q
        · exact .inr (hCOw _ q)
      · simp only [ι2]
        rw [if_neg ho.2]; exact h.un o ho.1
      · exact ⟨hfr.os.trans h.fr.os, hfr.output.trans h.fr.output, Nat.le_trans h.fr.size hfr.size, fun b hb hn => by
          rw [hfr.old b (by have := h.fr.size; omega) (fun q => hn (hCOw _ q))]; exact h.fr.old b hb hn⟩
    exact Inv.goes hn hinv (fun x hx => hx) (hrep.ren hσ) hd
  | pure op v hp =>
    refine absurd (fun c e => ?_) hcall
    subst e
    by_cases hb : ∃ b, c.callee = Callee.builtin b
    · exact hb
    · exfalso
      unfold pval at hp
      split at hp
      all_goals first
        | (rename_i e; injection e; done)
        | (rename_i e; injection e with e; subst e; exact hb ⟨_, rfl⟩)
        | (rename_i e _; injection e with e; subst e; exact hb ⟨_, rfl⟩)
        | cases hp
  | lenOsw => exact absurd (fun c e => by cases e; exact ⟨_, rfl⟩) hcall
  | files _ _ _ _ hb =>
    refine absurd (fun c e => ?_) hcall
    cases hb with
    | del => cases e; exact ⟨_, rfl⟩
    | len => cases e; exact ⟨_, rfl⟩
    | clr => cases e; exact ⟨_, rfl⟩
    | upd _ t kt m k x hop => subst e; rcases hop with e | e <;> cases e
    | _ => cases e
  | more _ _ _ _ hb =>
    refine absurd (fun c e => ?_) hcall
    cases hb with
    | appE => cases e; exact ⟨_, rfl⟩
    | appW => cases e; exact ⟨_, rfl⟩
    | mapUpd _ t kt m k x hop => subst e; rcases hop with e | e <;> cases e
    | _ => cases e
  | _ => exact absurd (fun c e => by cases e) hcall
end
end Go.Ab
