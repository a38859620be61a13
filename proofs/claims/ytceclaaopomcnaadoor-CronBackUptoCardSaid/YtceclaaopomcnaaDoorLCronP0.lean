/-
  LCronP0: the words that an expression's bits print as.
-/
import Derived.Test.YtceclaaopomcnaaDoorLCronN
namespace Go.T
open Go Go.Ab Go.Proofs

theorem wrap_i64 (n : Int) (h0 : -9223372036854775808 ≤ n) (h1 : n < 9223372036854775808) : IntKind.wrap .i64 n = n := by
  simp only [IntKind.wrap, IntKind.signed, IntKind.bits]
  simp
  omega
def numB (n : Nat) : List UInt8 := if n < 10 then [UInt8.ofNat (48 + n)] else [UInt8.ofNat (48 + n / 10), UInt8.ofNat (48 + n % 10)]
theorem num_itoa : ∀ n : Nat, n < 60 → Lib.itoa (n : Int) = numB n := by decide +kernel
theorem numB_len (n : Nat) : 1 ≤ (numB n).length ∧ (numB n).length ≤ 2 := by unfold numB; split <;> simp
def word (n e : Nat) : List UInt8 := if n < e then numB n ++ ([45] ++ numB e) else numB n
theorem word_len (n e : Nat) : 1 ≤ (word n e).length ∧ (word n e).length ≤ 5 := by
  have a := numB_len n
  have b := numB_len e
  unfold word
  split
  · simp; omega
  · omega
/-- a run begins here -/
def start (b i : Nat) : Bool := b.testBit i && (i == 0 || !b.testBit (i - 1))
/-- it ends there -/
def EndAt (b k e : Nat) : Prop := k ≤ e ∧ (∀ i, k < i → i ≤ e → b.testBit i = true) ∧ b.testBit (e + 1) = false
theorem EndAt.uniq {b k e e' : Nat} (h : EndAt b k e) (h' : EndAt b k e') : e = e' := by
  rcases Nat.lt_trichotomy e e' with q | q | q
  · have := h'.2.1 (e + 1) (by have := h.1; omega) (by omega)
    rw [h.2.2] at this; cases this
  · exact q
  · have := h.2.1 (e' + 1) (by have := h'.1; omega) (by omega)
    rw [h'.2.2] at this; cases this
inductive WL (b : Nat) : Nat → List (List UInt8) → Prop
  | done (p : Nat) (h : ∀ i, p ≤ i → start b i = false) : WL b p []
  | cons (p n e : Nat) (L : List (List UInt8)) (h1 : p ≤ n) (h2 : ∀ i, p ≤ i → i < n → start b i = false) (h3 : start b n = true) (h4 : EndAt b n e) (h5 : WL b (n + 1) L) : WL b p (word n e :: L)
theorem WL.back {b p q : Nat} {L : List (List UInt8)} (hpq : p ≤ q) (hn : ∀ i, p ≤ i → i < q → start b i = false) (h : WL b q L) : WL b p L := by
  cases h with
  | done _ h =>
    refine .done p fun i hi => ?_
    by_cases hq : i < q
    · exact hn i hi hq
    · exact h i (by omega)
  | cons _ n e L h1 h2 h3 h4 h5 =>
    refine .cons p n e L (by omega) (fun i hi hi' => ?_) h3 h4 h5
    by_cases hq : i < q
    · exact hn i hi hq
    · exact h2 i (by omega) hi'
theorem WL.next {b p : Nat} {L : List (List UInt8)} (h : WL b p L) (hs : start b p = false) : WL b (p + 1) L := by
  cases h with
  | done _ h => exact .done _ fun i hi => h i (by omega)
  | cons _ n e L h1 h2 h3 h4 h5 =>
    have : p ≠ n := by intro q; subst q; rw [hs] at h3; cases h3
    exact .cons _ n e L (by omega) (fun i hi hi' => h2 i (by omega) hi') h3 h4 h5
theorem WL.len {b p : Nat} {L : List (List UInt8)} (hb : b < 2 ^ 60) (h : WL b p L) : L.length + p ≤ 60 + p ∧ (p ≤ 60 → L.length + p ≤ 60) := by
  induction h with
  | done p _ => simp
  | cons p n e L h1 h2 h3 h4 h5 ih =>
    have hn : n < 60 := by
      apply Classical.byContradiction
      intro q
      have : b.testBit n = false := Nat.testBit_lt_two_pow (Nat.lt_of_lt_of_le hb (Nat.pow_le_pow_right (by decide) (by omega)))
      unfold start at h3
      rw [this] at h3; cases h3
    have := ih.2 (by omega)
    simp only [List.length_cons]
    omega

end Go.T
