/-
  LGen: general lemmas on loops and numbers of the typed functions.
-/
import Derived.Test.YtklegekpcdmdbaaGreatDoorSem
set_option linter.unusedVariables false
set_option linter.unusedSimpArgs false
namespace Go.T
open Go Go.Ab

theorem wrap_id {x : Int} (h1 : -9223372036854775808 ≤ x) (h2 : x ≤ 9223372036854775807) : IntKind.wrap IntKind.i64 x = x := by
  rw [IntKind.wrap_i64]; omega

/-- a loop that goes on while all is good -/
theorem allLoop {ρ : Type} (L : Nat → Int → Option (ρ ⊕ Unit)) (len : Nat) (good : Nat → Bool) (bad : ρ)
    (h1 : ∀ n (i : Nat), i < len → L (n + 1) i = cond (good i) (L n ((i : Int) + 1)) (some (.inl bad)))
    (h2 : ∀ n (i : Nat), len ≤ i → L (n + 1) i = some (.inr ())) :
    ∀ n (i : Nat), len - i < n → ((∀ j, i ≤ j → j < len → good j = true) ∧ L n i = some (.inr ())) ∨ ((∃ j, i ≤ j ∧ j < len ∧ good j = false) ∧ L n i = some (.inl bad)) := by
  intro n
  induction n with
  | zero => intro i h; omega
  | succ n ih =>
    intro i h
    by_cases hi : i < len
    · rw [h1 n i hi]
      cases hg : good i with
      | true =>
        rw [cond_true, show ((i : Int) + 1) = ((i + 1 : Nat) : Int) by omega]
        rcases ih (i + 1) (by omega) with ⟨h3, h4⟩ | ⟨⟨j, h3, h4, h5⟩, h6⟩
        · refine .inl ⟨fun j hj1 hj2 => ?_, h4⟩
          by_cases e : j = i
          · subst e; exact hg
          · exact h3 j (by omega) hj2
        · exact .inr ⟨⟨j, by omega, h4, h5⟩, h6⟩
      | false => exact .inr ⟨⟨i, Nat.le_refl _, hi, hg⟩, rfl⟩
    · exact .inl ⟨fun j h1 h2 => by omega, h2 n i (by omega)⟩

/-- a loop that looks for the first hit -/
theorem findLoop (L : Nat → Int → Option (Int ⊕ Unit)) (len : Nat) (hit : Nat → Bool)
    (h1 : ∀ n (i : Nat), i < len → L (n + 1) i = cond (hit i) (some (.inl (i : Int))) (L n ((i : Int) + 1)))
    (h2 : ∀ n (i : Nat), len ≤ i → L (n + 1) i = some (.inr ())) :
    ∀ n (i : Nat), len - i < n → (∃ j : Nat, i ≤ j ∧ j < len ∧ hit j = true ∧ (∀ k, i ≤ k → k < j → hit k = false) ∧ L n i = some (.inl (j : Int))) ∨ ((∀ k, i ≤ k → k < len → hit k = false) ∧ L n i = some (.inr ())) := by
  intro n
  induction n with
  | zero => intro i h; omega
  | succ n ih =>
    intro i h
    by_cases hi : i < len
    · rw [h1 n i hi]
      cases hg : hit i with
      | true => exact .inl ⟨i, Nat.le_refl _, hi, hg, fun k h1 h2 => by omega, rfl⟩
      | false =>
        rw [cond_false, show ((i : Int) + 1) = ((i + 1 : Nat) : Int) by omega]
        rcases ih (i + 1) (by omega) with ⟨j, h3, h4, h5, h6, h7⟩ | ⟨h3, h4⟩
        · refine .inl ⟨j, by omega, h4, h5, fun k hk1 hk2 => ?_, h7⟩
          by_cases e : k = i
          · subst e; exact hg
          · exact h6 k (by omega) hk2
        · refine .inr ⟨fun k hk1 hk2 => ?_, h4⟩
          by_cases e : k = i
          · subst e; exact hg
          · exact h3 k (by omega) hk2
    · exact .inr ⟨fun k h1 h2 => by omega, h2 n i (by omega)⟩


theorem toNat_cast (i : Nat) : Int.toNat (i : Int) = i := Int.toNat_natCast i
end Go.T
