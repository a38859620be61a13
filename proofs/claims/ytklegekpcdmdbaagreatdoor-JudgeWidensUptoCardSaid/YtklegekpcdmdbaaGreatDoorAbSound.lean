/-
  AbSound: what the evaluator says is so in the model (xcode_ok); the contract of a function (FC_of).
-/
import Derived.Test.YtklegekpcdmdbaaGreatDoorAbCode
namespace Go.Ab

theorem lk_mem : ∀ {os : Os} {o : Nat} {x : AO}, lk os o = some x → (o, x) ∈ os := by
  intro os
  induction os with
  | nil => intro o x h; simp [lk] at h
  | cons e r ih =>
    intro o x h
    simp only [lk] at h
    split at h
    · rename_i e'; subst e'; injection h with h; subst h; exact List.mem_cons_self
    · exact List.mem_cons_of_mem _ (ih h)

theorem lookG_mem : ∀ {g : Tm} {t : Nat}, lookG g t = .undef ∨ (t, lookG g t) ∈ g := by
  intro g
  induction g with
  | nil => intro t; exact .inl rfl
  | cons e r ih =>
    intro t
    simp only [lookG]
    split
    · rename_i e'; subst e'; exact .inr List.mem_cons_self
    · rcases ih (t := t) with h | h
      · exact .inl h
      · exact .inr (List.mem_cons_of_mem _ h)

theorem map_eq_mem {α β : Type} {f g : α → β} : ∀ {l : List α}, l.map f = l.map g → ∀ x, x ∈ l → f x = g x := by
  intro l
  induction l with
  | nil => intro _ x hx; cases hx
  | cons a r ih =>
    intro h x hx
    simp only [List.map_cons, List.cons.injEq] at h
    cases hx with
    | head => exact h.1
    | tail _ hx => exact ih h.2 x hx

theorem wkL_mem {α : Type} {f g : α → AV} : ∀ {l : List α}, WkL (l.map f) (l.map g) → ∀ x, x ∈ l → Wk (f x) (g x)
  | [], _, x, hx => by cases hx
  | a :: r, h, x, hx => by
    cases hx with
    | head => exact h.1
    | tail _ hx => exact wkL_mem (l := r) h.2 x hx
theorem wkOs_mem {α : Type} {f : α → Option AO} {g : α → AO} : ∀ {l : List α}, WkOs (l.map f) (l.map fun e => some (g e)) → ∀ x, x ∈ l → ∃ y, f x = some y ∧ WkO y (g x)
  | [], _, x, hx => by cases hx
  | a :: r, h, x, hx => by
    cases hf : f a with
    | none => simp only [List.map_cons, hf, WkOs] at h
    | some y =>
      simp only [List.map_cons, hf, WkOs] at h
      cases hx with
      | head => exact ⟨y, hf, h.1⟩
      | tail _ hx => exact wkOs_mem (l := r) h.2 x hx
theorem nodup_inj {α β : Type} {f : α → β} : ∀ {l : List α}, (l.map f).Nodup → ∀ x y, x ∈ l → y ∈ l → f x = f y → x = y := by
  intro l
  induction l with
  | nil => intro _ x y hx; cases hx
  | cons a r ih =>
    intro h x y hx hy he
    simp only [List.map_cons, List.nodup_cons, List.mem_map, not_exists, not_and] at h
    cases hx with
    | head => cases hy with
      | head => rfl
      | tail _ hy => exact absurd he.symm (h.1 y hy)
    | tail _ hx => cases hy with
      | head => exact absurd he (h.1 x hx)
      | tail _ hy => exact ih h.2 x y hx hy he

theorem Inv.cov {C : Cx} {S : Nat → Prop} {ι : Imap} {un : Nat → Prop} {g : Tm} {os : Os} {a : Act} {w : World} (h : Inv C S ι un (toFS g os) a w)
    {σ : List (Nat × Nat)} {gx : Tm} {osx : Os} {nx : Nat} (hc : Cov C.m g os σ gx osx nx) : ∃ ι', Inv C S ι' (fun x => nx ≤ x) (toFS gx osx) a w := by
  obtain ⟨hb, hg, ho⟩ := hc
  simp only [Bool.and_eq_true, decide_eq_true_eq] at hb
  obtain ⟨⟨⟨⟨hb1, hb2⟩, hnd⟩, hmx⟩, hid⟩ := hb
  have hobj : ∀ o x, lk osx o = some x → (∃ y, lk os (ap σ o) = some y ∧ WkO y (renO (ap σ) x)) ∧ o < nx ∧ idsBO nx x = true := by
    intro o x hx
    have hm := lk_mem hx
    have h1 := wkOs_mem ho (o, x) hm
    have h2 := List.all_eq_true.1 hb2 (o, x) hm
    simp only [Bool.and_eq_true, decide_eq_true_eq] at h2
    exact ⟨h1, h2.1, h2.2⟩
  have hback : ∀ o, o < nx → ∀ l, ιback ι (ap σ) nx o = some l → ι (ap σ o) = some l := by
    intro o ho l hl
    simp only [ιback] at hl
    rw [if_pos ho] at hl; exact hl
  refine ⟨ιback ι (ap σ) nx, ?_, h.sz, h.df, ?_, ?_, ?_, h.sb, h.sn, ?_, h.fr, h.fo, h.gv, h.s0, fun j L e => by
    have hjm := C.i0m j L e
    have h1 := List.all_eq_true.1 hid j (List.mem_range.2 hjm)
    simp only [beq_iff_eq] at h1
    simp only [ιback]
    rw [if_pos (by omega), h1]
    exact h.hj j L e⟩
  · intro t
    rcases lookG_mem (g := gx) (t := t) with hu | hm
    · show Rep S w _ (lookG gx t) _
      rw [hu]; exact .imm _ _ (.undef _)
    · have h1 := wkL_mem hg _ hm
      simp only at h1
      have h2 := List.all_eq_true.1 hb1 _ hm
      refine Rep.unren _ _ h2 ?_
      show Rep S w ι (renAV (ap σ) (lookG gx t)) _
      exact h1.rep _ (h.tm t)
  · intro o x hx
    obtain ⟨⟨y, h1, hw⟩, h2, h3⟩ := hobj o x hx
    exact ObjOk.unren h2 h3 (hw.ok (h.ob _ _ h1))
  · intro o x hx hlv l hl
    obtain ⟨⟨y, h1, hw⟩, h2, h3⟩ := hobj o x hx
    exact h.own _ _ h1 (by rw [← hw.live, renO_live]; exact hlv) l (hback o h2 _ hl)
  · intro o o' x x' hx hx' hlv hlv' l l' hl hl' hbl
    obtain ⟨⟨y, h1, hw⟩, h2, h3⟩ := hobj o x hx
    obtain ⟨⟨y', h1', hw'⟩, h2', h3'⟩ := hobj o' x' hx'
    have := h.inj _ _ _ _ h1 h1' (by rw [← hw.live, renO_live]; exact hlv) (by rw [← hw'.live, renO_live]; exact hlv') l l' (hback o h2 _ hl) (hback o' h2' _ hl') hbl
    have := nodup_inj hnd (o, x) (o', x') (lk_mem hx) (lk_mem hx') this
    exact congrArg (·.1) this
  · intro o hn
    simp only [ιback]
    rw [if_neg (by omega)]

theorem range'_zero (n : Nat) : List.range' 0 n = List.range n := by rw [List.range_eq_range']

theorem xcode_ok {P : Program} {C : Cx} {fin : Tm → Os → Prop} {B : Exit → Act → World → Prop} (hm : P.follows .mixedOrders = true)
    (hfin : ∀ g os, fin g os → ∀ S ι un a w, Inv C S ι un (toFS g os) a w → B .normal a w ∧ B .ret a w) :
    ∀ (n : Nat) (k : List Frm) (g : Tm) (os : Os) (nx : Nat), xcode P C.G C.N C.m fin n k g os nx → ∀ S ι a w, Inv C S ι (fun x => nx ≤ x) (toFS g os) a w → KQ P C B k .normal a w := by
  intro n
  induction n with
  | zero => intro k g os nx h; exact h.elim
  | succ n ih =>
    intro k g os nx h S ι a w hinv
    cases k with
    | nil => exact (hfin g os h S ι _ a w hinv).1
    | cons f k =>
      cases f with
      | blk id => exact ih k g os nx h S ι a w hinv
      | stop κ => exact ⟨g, os, nx, S, ι, h, hinv⟩
      | code c =>
        show c.wp P (KQ P C B k) a w
        simp only [xcode] at h
        rcases orJ_e h with h | ⟨R, gx, osx, nx', hbody, hK⟩
        rotate_left
        · have h1 : c.wp P (KQ P C B (.stop _ :: k)) a w := ih _ g os nx hbody S ι a w hinv
          refine wp_mono (Exit.then_mono (N2 := KQ P C B k .normal) h1 ?_) ?_
          · rintro a' w' ⟨g', os', _, S', ι', ⟨hR, σ, hc⟩, hinv'⟩
            obtain ⟨ι2, hinv2⟩ := hinv'.cov hc
            exact ih k gx osx nx' (hK hR) S' ι2 a' w' hinv2
          · intro e a' w' hq
            cases e <;> exact hq
        cases c with
        | skip => exact wp_skip (ih k g os nx h S ι a w hinv)
        | seq x y => exact wp_seq (ih _ g os nx h S ι a w hinv)
        | cond c x y =>
          simp only at h
          split at h
          · rename_i b hb
            have hv := hinv.ev c
            rw [show (toFS g os).g = lookG g from rfl, hb] at hv
            rcases brn_e h with ⟨hbb, h'⟩ | ⟨hbb, h'⟩
            · subst hbb
              exact wp_cond_true hv.bool_inv (ih _ g os nx h' S ι a w hinv)
            · subst hbb
              exact wp_cond_false hv.bool_inv (ih _ g os nx h' S ι a w hinv)
          · rename_i p hb
            have hv := hinv.ev c
            rw [show (toFS g os).g = lookG g from rfl, hb] at hv
            obtain ⟨b, hv, hp⟩ := hv.anyb_inv
            cases b with
            | true => exact wp_cond_true hv (ih _ g os nx (h.1 (hp rfl)) S ι a w hinv)
            | false => exact wp_cond_false hv (ih _ g os nx h.2 S ι a w hinv)
          · exact h.elim
        | block id c => exact wp_block (ih _ g os nx h S ι a w hinv)
        | exit id =>
          simp only at h
          split at h
          · rename_i k' hk
            exact wp_exit (KQ_exit hk (ih k' g os nx h S ι a w hinv))
          · exact h.elim
        | ret => exact wp_ret (KQ_ret (hfin g os h S ι _ a w hinv).2)
        | region id ops draw =>
          simp only at h
          rcases brn_e h with ⟨hdst, h'⟩ | ⟨_, h'⟩
          · obtain ⟨g', os', ext, hK, hlen, hch⟩ := xops_ok (N := C.N) ops.toList 0 g os [] _ (fun k o hk => by simpa using hk) hdst rfl h'
            simp only [List.append_nil, Array.length_toList] at hK hlen hch
            have hchain := hch (logOf ext) (fun k _ _ => rfl)
            rw [range'_zero] at hchain
            cases draw with
            | false =>
              exact region_ok hm hchain (fun e => by cases e) hinv (fun S' ι' a' w' hinv' => ih k g' os' _ (cast (fN_eq _ _) hK) S' ι' a' w' hinv')
            | true =>
              exact region_ok hm hchain (fun _ => hK.1) hinv (fun S' ι' a' w' hinv' => ih k g' os' _ (cast (fN_eq _ _) hK.2) S' ι' a' w' hinv')
          · exact h'.elim
        | loop body =>
          simp only at h
          obtain ⟨α, gx, osx, nx', I, μ, x0, σ0, hI, hcov, hround⟩ := h
          refine wp_loop_lt (fun m a w => ∃ x S ι, I x ∧ μ x = m ∧ Inv C S ι (fun y => nx' ≤ y) (toFS (gx x) (osx x)) a w) ?_ (μ x0) a w ?_
          · rintro m a w ⟨x, S, ι, hIx, rfl, hinv⟩
            have := ih _ _ _ _ (hround x hIx) S ι a w hinv
            refine Exit.then_mono this ?_
            rintro a' w' ⟨g', os', nx'', S', ι', ⟨x', σ, hI', hlt, hc⟩, hinv'⟩
            obtain ⟨ι2, hinv2⟩ := hinv'.cov hc
            exact ⟨μ x', hlt, x', S', ι2, hI', rfl, hinv2⟩
          · obtain ⟨ι2, hinv2⟩ := hinv.cov hcov
            exact ⟨x0, S, ι2, hI, rfl, hinv2⟩
        | _ => exact h.elim
end Go.Ab
