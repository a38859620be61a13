/-
  AbFill: a list that was lent and not turned is the map's again; what the steps on such maps say of typed lists.
-/
import Derived.Test.YtnofpgegbhegnaaGreatDoorAbSound
namespace Go.Ab

theorem Inv.fill {C : Cx} {S : Nat → Prop} {w : World} {ι : Imap} {un : Nat → Prop} {f : FS} {a : Act} (h : Inv C S ι un f a w) {o z : Nat} {fs : List (AV × List (List AV))} {i q : Nat} {k : AV} {rs : List (List AV)}
    (ho : f.os o = some (.fmap z fs (some (i, q)))) (hq : f.os q = some (.rows true rs)) (hi : fs[i]? = some (k, rs)) (hl : ∀ row, row ∈ rs → row.length = z) (hz : 0 < z) (hne : q ≠ o) :
    Inv C S ι un { f with os := updO f.os [(o, some (.fmap z fs none)), (q, none)] } a w := by
  obtain ⟨l, xs, clock, hlo, hheap, hlim, hF⟩ := h.ob o _ ho
  have hil : i < xs.size := by rw [← hF.1]; exact lt_of_get hi
  obtain ⟨x0, hx0⟩ : ∃ x0, xs[i]? = some x0 := ⟨_, Array.getElem?_eq_getElem hil⟩
  obtain ⟨hV, hVb⟩ := ListV.of hz hl ((hF.2.1 i _ x0 hi hx0).2.2 q rfl) (h.ob q _ hq)
  have hvq : ∀ b, vblk x0.val = some b → b ≠ l.blk := fun b hb e => by
    obtain ⟨lq, hlq, hb2⟩ := hVb b hb
    exact hne (h.inj q o _ _ hq ho rfl rfl lq l hlq hlo b (.inl hb2) (.inl e))
  have hhole : ∀ j, j ≠ i → (some (i, q) : Option (Nat × Nat)).map (·.1) ≠ some j := fun j hj => by
    simp only [Option.map_some, ne_eq, Option.some.injEq]; exact fun e => hj e.symm
  have hdist : ∀ (j : Nat) x b, xs[j]? = some x → j ≠ i → vblk x.val = some b → vblk x0.val = some b → False := fun j x b hx hj hv hv0 => by
    obtain ⟨lq, hlq, hb2⟩ := hVb b hv0
    exact hne (h.inj q o _ _ hq ho rfl rfl lq l hlq hlo b (.inl hb2) (foot_of_part hheap hx (hhole j hj) hv))
  have := h.fturn ho hlo hheap hlim (clock' := clock) (fs' := fs) (V := [q]) (by simpa using fun e => hne e.symm) (fun j x hx => ?_) (fun w' hw hoth => ⟨hF.1, fun j e x he hx => ?_, fun j j' x x' b hx hx' _ _ hv hv' => ?_⟩)
  · have hsame : ({ w with heap := w.heap.setIfInBounds l.blk (.map xs clock) } : World) = w := by
      have : w.heap.setIfInBounds l.blk (.map xs clock) = w.heap := by
        apply Array.ext_getElem?
        intro b
        by_cases hb : b = l.blk
        · subst hb
          have hlt := (Array.getElem?_eq_some_iff.1 hheap).1
          simp only [Array.getElem?_setIfInBounds, if_true, hlt]
          exact hheap.symm
        · rw [Array.getElem?_setIfInBounds_ne (fun e => hb e.symm)]
      rw [this]
    rw [hsame] at this
    exact this
  · by_cases hj : j = i
    · subst hj
      rw [hx0] at hx; injection hx with hx; subst hx
      right
      intro b hb
      obtain ⟨lq, h1, h2⟩ := hVb b hb
      exact ⟨q, lq, _, by simp, hq, rfl, h1, h2⟩
    · exact .inl ⟨j, hx, hhole j hj⟩
  · obtain ⟨g1, g2, g3⟩ := hF.2.1 j e x he hx
    refine ⟨g1.mono (fun _ h => h) hw, fun _ => ?_, fun q hq => by cases hq⟩
    by_cases hj : j = i
    · subst hj
      rw [hx0] at hx; injection hx with hx; subst hx
      rw [hi] at he; injection he with he; subst he
      exact hV.mono (fun _ h => h) hw (fun b hb => hoth b (hvq b hb))
    · exact (g2 (hhole j hj)).mono (fun _ h => h) hw (fun b hb => hoth b (hF.ne_blk hheap hx (hhole j hj) hb))
  · by_cases hj : j = i <;> by_cases hj' : j' = i
    · rw [hj, hj']
    · subst hj
      rw [hx0] at hx; injection hx with hx; subst hx
      exact (hdist j' x' b hx' hj' hv' hv).elim
    · subst hj'
      rw [hx0] at hx'; injection hx' with hx'; subst hx'
      exact (hdist j x b hx hj hv hv').elim
    · exact hF.2.2 j j' x x' b hx hx' (hhole j hj) (hhole j' hj') hv hv'

/-- lists that were lent are given back -/
inductive Fills : Os → Os → Prop
  | refl (os : Os) : Fills os os
  | step (os : Os) (o z : Nat) (fs : List (AV × List (List AV))) (i q : Nat) (k : AV) (rs : List (List AV)) (os2 : Os) (h1 : lk os o = some (.fmap z fs (some (i, q)))) (h2 : lk os q = some (.rows true rs))
      (h3 : fs[i]? = some (k, rs)) (h4 : ∀ row, row ∈ rs → row.length = z) (h5 : (decide (0 < z) && decide (q ≠ o)) = true) (h : Fills (updL os [(o, some (.fmap z fs none)), (q, none)]) os2) : Fills os os2

theorem Inv.fills {C : Cx} {S : Nat → Prop} {w : World} {ι : Imap} {un : Nat → Prop} {g : Tm} {os os2 : Os} (hF : Fills os os2) {a : Act} (h : Inv C S ι un (toFS g os) a w) : Inv C S ι un (toFS g os2) a w := by
  induction hF with
  | refl os => exact h
  | step os o z fs i q k rs os2 h1 h2 h3 h4 h5 _ ih =>
    simp only [Bool.and_eq_true, decide_eq_true_eq] at h5
    refine ih ?_
    have := h.fill h1 h2 h3 h4 h5.1 h5.2
    unfold toFS at this ⊢
    rw [lk_updL]; exact this

theorem drop_get {α : Type} {l : List α} {k : Nat} {z : α} (h : l[k]? = some z) : l.drop k = z :: l.drop (k + 1) := by
  have hk := lt_of_get h
  rw [List.drop_eq_getElem_cons hk]
  rw [List.getElem?_eq_getElem hk] at h
  injection h with h; rw [h]
theorem drop_rev {α : Type} (l : List α) : l.reverse.drop l.length = [] := by rw [List.drop_eq_nil_iff]; simp
theorem both {b : Bool} {A : Prop} (t : b = true → A) (f : b = false → A) : A := by cases b; exact f rfl; exact t rfl

/-! typed lists -/
def encF {κ ν : Type} (ek : κ → AV) (en : ν → List AV) (L : List (κ × List ν)) : List (AV × List (List AV)) := L.map fun p => (ek p.1, p.2.map en)
def mdel {κ ν : Type} [DecidableEq κ] (q : κ) : List (κ × ν) → List (κ × ν)
  | [] => []
  | e :: r => if q = e.1 then r else e :: mdel q r
section
variable {P : Program} {t kt : TypeId} {κ ν : Type} [DecidableEq κ] {ek : κ → AV} {en : ν → List AV}
omit [DecidableEq κ] in
theorem keysF_enc (L : List (κ × List ν)) : keysF (encF ek en L) = encM ek (fun _ : List ν => AV.undef) L := by simp [keysF, encF, encM]
theorem findF (heq : ∀ a b, keyEq P kt (ek a) (ek b) = some (decide (a = b))) (q : κ) (L : List (κ × List ν)) : findAt P kt (ek q) (keysF (encF ek en L)) 0 (mix q L) := by
  have h1 := find_enc (en := fun _ : List ν => AV.undef) heq q L 0
  rw [show (fun x : Nat => x + 0) = id from rfl, Option.map_id, id] at h1
  rw [keysF_enc]; exact h1
theorem mix_some {q : κ} {L : List (κ × List ν)} (h : (mget q L).isSome = true) : mix q L = some ((mix q L).getD 0) ∧ ∃ k, (encF ek en L)[(mix q L).getD 0]? = some (k, ((mget q L).getD []).map en) := by
  rcases mix_get q L with ⟨_, h3⟩ | ⟨j, e, h2, h3, h4⟩
  · rw [h3] at h; cases h
  · refine ⟨by rw [h2]; rfl, ek e.1, ?_⟩
    rw [h2, h4]
    simp [encF, h3]
theorem mix_none {q : κ} {L : List (κ × List ν)} (h : (mget q L).isSome = false) : mix q L = none := by
  rcases mix_get q L with ⟨h2, _⟩ | ⟨j, e, _, _, h4⟩
  · exact h2
  · rw [h4] at h; cases h
theorem putF_enc (q : κ) (x : List ν) : ∀ (L : List (κ × List ν)), putF (encF ek en L) (mix q L) (ek q) (x.map en) = encF ek en (mput q x L)
  | [] => rfl
  | e :: r => by
    by_cases h : q = e.1
    · simp [mix, h, putF, encF, mput]
    · have := putF_enc q x r
      simp only [mix, h, if_false, mput]
      cases hm : mix q r with
      | none => rw [hm] at this; simp only [putF, Option.map_none, encF, List.map_cons, List.cons_append] at this ⊢; rw [this]
      | some j => rw [hm] at this; simp only [putF, Option.map_some, encF, List.map_cons, List.set_cons_succ] at this ⊢; rw [this]
theorem delF_enc (q : κ) : ∀ (L : List (κ × List ν)), delF (encF ek en L) (mix q L) = encF ek en (mdel q L)
  | [] => rfl
  | e :: r => by
    by_cases h : q = e.1
    · simp [mix, h, delF, encF, mdel]
    · have := delF_enc q r
      simp only [mix, h, if_false, mdel]
      cases hm : mix q r with
      | none => rw [hm] at this; simp only [delF, Option.map_none, encF, List.map_cons] at this ⊢; rw [this]
      | some j => rw [hm] at this; simp only [delF, Option.map_some, encF, List.map_cons, List.eraseIdx_cons_succ] at this ⊢; rw [this]
theorem flook_some {ok : Bool} {k : AV} {o z id : Nat} {fs : List (AV × List (List AV))} {K : AV → List (Nat × Option AO) → List Nat → Prop} (L : List (κ × List ν)) (q : κ) (hfs : fs = encF ek en L) (hk : k = ek q)
    (heq : ∀ a b, keyEq P kt (ek a) (ek b) = some (decide (a = b))) (hs : (mget q L).isSome = true)
    (hK : K (if ok then .tup [.osw id z, .bool true] else .osw id z) [(id, some (.rows true (((mget q L).getD []).map en))), (o, some (.fmap z (encF ek en L) (some ((mix q L).getD 0, id))))] []) :
    FLook P t kt ok k o z fs none id K := by
  subst hfs; subst hk
  obtain ⟨h1, k, h2⟩ := mix_some (ek := ek) (en := en) hs
  exact ⟨.inl ⟨_, _, rfl, h1 ▸ findF heq q L, h2, hK⟩⟩
theorem flook_none {ok : Bool} {k : AV} {o z id : Nat} {fs : List (AV × List (List AV))} {h : Option (Nat × Nat)} {K : AV → List (Nat × Option AO) → List Nat → Prop} (L : List (κ × List ν)) (q : κ) (v : AV) (hfs : fs = encF ek en L) (hk : k = ek q)
    (heq : ∀ a b, keyEq P kt (ek a) (ek b) = some (decide (a = b))) (hs : (mget q L).isSome = false) (hz : ∃ vt zv, valT P t = some vt ∧ zeroV P vt = some zv ∧ Wk zv v)
    (hK : K (if ok then .tup [v, .bool false] else v) [] [o]) : FLook P t kt ok k o z fs h id K := by
  subst hfs; subst hk
  exact ⟨.inr (.inr ⟨v, mix_none hs ▸ findF heq q L, hz, hK⟩)⟩
theorem flook_peek {k : AV} {o z id : Nat} {fs : List (AV × List (List AV))} {h : Option (Nat × Nat)} {K : AV → List (Nat × Option AO) → List Nat → Prop} (L : List (κ × List ν)) (q : κ) (hfs : fs = encF ek en L) (hk : k = ek q)
    (heq : ∀ a b, keyEq P kt (ek a) (ek b) = some (decide (a = b))) (hz : ∃ vt zv, valT P t = some vt ∧ zeroV P vt = some zv)
    (hK : K (.tup [.undef, .bool (mget q L).isSome]) [] [o]) : FLook P t kt true k o z fs h id K := by
  subst hfs; subst hk
  refine ⟨.inr (.inl ⟨mix q L, rfl, findF heq q L, hz, ?_⟩)⟩
  have : (mix q L).isSome = (mget q L).isSome := by
    rcases mix_get q L with ⟨h2, h3⟩ | ⟨j, e, h2, h3, h4⟩
    · rw [h2, h3]; rfl
    · rw [h2, h4]; rfl
  rw [this]; exact hK
theorem fput_i {k v : AV} {o z : Nat} {fs : List (AV × List (List AV))} {h : Option (Nat × Nat)} {ol : Nat → Option AO} {K : List (Nat × Option AO) → Prop} (L : List (κ × List ν)) (q : κ) (x : List ν) (qo : Nat) (hfs : fs = encF ek en L) (hk : k = ek q)
    (heq : ∀ a b, keyEq P kt (ek a) (ek b) = some (decide (a = b))) (hh : h = none ∨ ((mget q L).isSome = true ∧ h.map (·.1) = some ((mix q L).getD 0))) (hl : L.length + 1 ≤ LIM) (hv : v = .osw qo z) (rs : List (List AV)) (hol : ol qo = some (.rows true rs))
    (hrs : rs = x.map en) (hw : ∀ y, (en y).length = z) (hz : (decide (0 < z) && decide (qo ≠ o)) = true) (hK : K [(o, some (.fmap z (encF ek en (mput q x L)) none)), (qo, none)]) : FPut P kt k v o z fs h ol K := by
  subst hfs; subst hk; subst hrs
  simp only [Bool.and_eq_true, decide_eq_true_eq] at hz
  refine ⟨mix q L, qo, _, findF heq q L, ?_, by simpa [encF] using hl, hv, hol, fun row hr => ?_, hz.1, hz.2, by rw [putF_enc]; exact hK⟩
  · rcases hh with rfl | ⟨h1, h2⟩
    · exact .inl rfl
    · cases h with
      | none => cases h2
      | some e =>
        obtain ⟨i, q0⟩ := e
        simp only [Option.map_some, Option.some.injEq] at h2
        exact .inr ⟨i, q0, rfl, by rw [(mix_some (ek := ek) (en := en) h1).1, h2]⟩
  · obtain ⟨y, _, rfl⟩ := List.mem_map.1 hr
    exact hw y
theorem fdel_i {k : AV} {o z : Nat} {fs : List (AV × List (List AV))} {h : Option (Nat × Nat)} {K : List (Nat × Option AO) → Prop} (L : List (κ × List ν)) (q : κ) (hfs : fs = encF ek en L) (hk : k = ek q)
    (heq : ∀ a b, keyEq P kt (ek a) (ek b) = some (decide (a = b))) (hh : h = none ∨ ((mget q L).isSome = true ∧ h.map (·.1) = some ((mix q L).getD 0)))
    (hK : K [(o, some (.fmap z (encF ek en (mdel q L)) none))]) : FDel P kt k o z fs h K := by
  subst hfs; subst hk
  refine ⟨mix q L, findF heq q L, ?_, by rw [delF_enc]; exact hK⟩
  rcases hh with rfl | ⟨h1, h2⟩
  · exact .inl rfl
  · cases h with
    | none => cases h2
    | some e =>
      obtain ⟨i, q0⟩ := e
      simp only [Option.map_some, Option.some.injEq] at h2
      exact .inr ⟨i, q0, rfl, by rw [(mix_some (ek := ek) (en := en) h1).1, h2]⟩
end
end Go.Ab
