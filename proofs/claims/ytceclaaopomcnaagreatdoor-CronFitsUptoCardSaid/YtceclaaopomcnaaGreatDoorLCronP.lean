/-
  LCronP: how an expression prints: the code's runs and the reference's are the same words.
-/
import Derived.Test.YtceclaaopomcnaaGreatDoorLCronF
namespace Go.T
open Go Go.Ab Go.Proofs

def numB (n : Nat) : List UInt8 := if n < 10 then [UInt8.ofNat (48 + n)] else [UInt8.ofNat (48 + n / 10), UInt8.ofNat (48 + n % 10)]
theorem num_ref : ∀ n : Nat, n < 60 → matinsref06_num 2000000 (n : Int) = some (numB n) := by decide +kernel
theorem num_itoa : ∀ n : Nat, n < 60 → Lib.itoa (n : Int) = numB n := by decide +kernel
theorem numB_len (n : Nat) : 1 ≤ (numB n).length ∧ (numB n).length ≤ 2 := by unfold numB; split <;> simp
def word (n e : Nat) : List UInt8 := if n < e then numB n ++ ([45] ++ numB e) else numB n
theorem word_len (n e : Nat) : 1 ≤ (word n e).length ∧ (word n e).length ≤ 5 := by
  have a := numB_len n
  have b := numB_len e
  unfold word
  split
  · simp; omega
  · omega
/-- a run begins here -/
def start (b i : Nat) : Bool := b.testBit i && (i == 0 || !b.testBit (i - 1))
/-- it ends there -/
def EndAt (b k e : Nat) : Prop := k ≤ e ∧ (∀ i, k < i → i ≤ e → b.testBit i = true) ∧ b.testBit (e + 1) = false
theorem EndAt.uniq {b k e e' : Nat} (h : EndAt b k e) (h' : EndAt b k e') : e = e' := by
  rcases Nat.lt_trichotomy e e' with q | q | q
  · have := h'.2.1 (e + 1) (by have := h.1; omega) (by omega)
    rw [h.2.2] at this; cases this
  · exact q
  · have := h.2.1 (e' + 1) (by have := h'.1; omega) (by omega)
    rw [h'.2.2] at this; cases this
inductive WL (b : Nat) : Nat → List (List UInt8) → Prop
  | done (p : Nat) (h : ∀ i, p ≤ i → start b i = false) : WL b p []
  | cons (p n e : Nat) (L : List (List UInt8)) (h1 : p ≤ n) (h2 : ∀ i, p ≤ i → i < n → start b i = false) (h3 : start b n = true) (h4 : EndAt b n e) (h5 : WL b (n + 1) L) : WL b p (word n e :: L)
theorem WL.back {b p q : Nat} {L : List (List UInt8)} (hpq : p ≤ q) (hn : ∀ i, p ≤ i → i < q → start b i = false) (h : WL b q L) : WL b p L := by
  cases h with
  | done _ h =>
    refine .done p fun i hi => ?_
    by_cases hq : i < q
    · exact hn i hi hq
    · exact h i (by omega)
  | cons _ n e L h1 h2 h3 h4 h5 =>
    refine .cons p n e L (by omega) (fun i hi hi' => ?_) h3 h4 h5
    by_cases hq : i < q
    · exact hn i hi hq
    · exact h2 i (by omega) hi'
theorem WL.next {b p : Nat} {L : List (List UInt8)} (h : WL b p L) (hs : start b p = false) : WL b (p + 1) L := by
  cases h with
  | done _ h => exact .done _ fun i hi => h i (by omega)
  | cons _ n e L h1 h2 h3 h4 h5 =>
    have : p ≠ n := by intro q; subst q; rw [hs] at h3; cases h3
    exact .cons _ n e L (by omega) (fun i hi hi' => h2 i (by omega) hi') h3 h4 h5
theorem WL.len {b p : Nat} {L : List (List UInt8)} (hb : b < 2 ^ 60) (h : WL b p L) : L.length + p ≤ 60 + p ∧ (p ≤ 60 → L.length + p ≤ 60) := by
  induction h with
  | done p _ => simp
  | cons p n e L h1 h2 h3 h4 h5 ih =>
    have hn : n < 60 := by
      apply Classical.byContradiction
      intro q
      have : b.testBit n = false := Nat.testBit_lt_two_pow (Nat.lt_of_lt_of_le hb (Nat.pow_le_pow_right (by decide) (by omega)))
      unfold start at h3
      rw [this] at h3; cases h3
    have := ih.2 (by omega)
    simp only [List.length_cons]
    omega

/-! the reference -/
theorem ref_end (b : Nat) (hb : b < 2 ^ 60) : ∀ (n k : Nat), k ≤ 60 → 61 - k < n → ∃ e : Nat, matinsref06_runs_l1 2000000 b n (k : Int) = some (e : Int) ∧ EndAt b k e := by
  have hbig : ∀ i, 60 ≤ i → b.testBit i = false := fun i hi => Nat.testBit_lt_two_pow (Nat.lt_of_lt_of_le hb (Nat.pow_le_pow_right (by decide) hi))
  intro n
  induction n with
  | zero => intro k _ h; omega
  | succ n ih =>
    intro k hk h
    rw [matinsref06_runs_l1.eq_2]
    by_cases hlt : k < 60
    · have w : IntKind.wrap .i64 ((k : Int) + 1) = ((k + 1 : Nat) : Int) := by rw [wrap_i64 _ (by omega) (by omega)]; omega
      rw [decide_eq_true (show (k : Int) < 60 by omega), w, rhas_eq 2000000 b _ (Nat.lt_trans hb (by decide)) (by omega) (by omega), hasB_nat b _ (Nat.lt_trans hb (by decide)) (by omega), Int.toNat_natCast]
      simp only [cond_true, Option.bind_some]
      cases hq : b.testBit (k + 1)
      · exact ⟨k, rfl, Nat.le_refl _, fun i h1 h2 => by omega, hq⟩
      · obtain ⟨e, h1, h2, h3, h4⟩ := ih (k + 1) (by omega) (by omega)
        refine ⟨e, h1, by omega, fun i hi hi' => ?_, h4⟩
        by_cases hi2 : i = k + 1
        · subst hi2; exact hq
        · exact h3 i (by omega) hi'
    · rw [decide_eq_false (show ¬ (k : Int) < 60 by omega)]
      exact ⟨k, rfl, Nat.le_refl _, fun i h1 h2 => by omega, hbig _ (by omega)⟩
def joinFrom (s : List UInt8) : List (List UInt8) → List UInt8
  | [] => s
  | w :: L => joinFrom ((if s = [] then s else s ++ [44]) ++ w) L
theorem ref_loop (b : Nat) (hb : b < 2 ^ 60) : ∀ (n k : Nat) (s : List UInt8) (L : List (List UInt8)), k ≤ 60 → 60 - k < n → s.length ≤ 10 * k → WL b k L → matinsref06_runs_l0 2000000 b n s (k : Int) = some (joinFrom s L) := by
  have hbig : ∀ i, 60 ≤ i → b.testBit i = false := fun i hi => Nat.testBit_lt_two_pow (Nat.lt_of_lt_of_le hb (Nat.pow_le_pow_right (by decide) hi))
  have hb64 : b < 2 ^ 64 := Nat.lt_trans hb (by decide)
  intro n
  induction n with
  | zero => intro k s L _ h; omega
  | succ n ih =>
    intro k s L hk h hs hL
    rw [matinsref06_runs_l0.eq_2]
    rcases Nat.lt_or_ge k 60 with hlt | hlt
    rotate_left
    · rw [decide_eq_false (show ¬ (k : Int) < 60 by omega)]
      cases hL with
      | done => rfl
      | cons _ n0 e L h1 h2 h3 h4 h5 =>
        unfold start at h3
        rw [hbig n0 (by omega)] at h3; cases h3
    have w : IntKind.wrap .i64 ((k : Int) + 1) = ((k + 1 : Nat) : Int) := by rw [wrap_i64 _ (by omega) (by omega)]; omega
    have hH := rhas_eq 2000000 b (k : Int) hb64 (by omega) (by omega)
    rw [hasB_nat b _ hb64 (by omega), Int.toNat_natCast] at hH
    have hskip : (Option.bind (matinsref06_Has 2000000 b (k : Int)) fun y_47 => (bif (!y_47) then some true else (bif (decide ((0 : Int) < (k : Int))) then (Option.bind (matinsref06_Has 2000000 b (IntKind.wrap IntKind.i64 ((k : Int) - (1 : Int)))) fun y_48 => some y_48) else some false))) = some (!start b k) := by
      rw [hH, Option.bind_some]
      unfold start
      cases hq : b.testBit k
      · rfl
      · by_cases h0 : k = 0
        · subst h0; rfl
        · have w2 : IntKind.wrap .i64 ((k : Int) - 1) = ((k - 1 : Nat) : Int) := by rw [wrap_i64 _ (by omega) (by omega)]; omega
          have hH2 := rhas_eq 2000000 b ((k - 1 : Nat) : Int) hb64 (by omega) (by omega)
          rw [hasB_nat b _ hb64 (by omega), Int.toNat_natCast] at hH2
          rw [decide_eq_true (show (0 : Int) < k by omega), w2, hH2]
          have e0 : (k == 0) = false := by simpa using h0
          rw [e0]
          cases b.testBit (k - 1) <;> rfl
    rw [decide_eq_true (show (k : Int) < 60 by omega), hskip, w]
    simp only [cond_true, Option.bind_some]
    cases hst : start b k
    · simp only [Bool.not_false, cond_true, Option.bind_some]
      exact ih (k + 1) s L (by omega) (by omega) (by omega) (hL.next hst)
    · simp only [Bool.not_true, cond_false]
      cases hL with
      | done _ hd => rw [hd k (Nat.le_refl _)] at hst; cases hst
      | cons _ n0 e L h1 h2 h3 h4 h5 =>
        have hk0 : k = n0 := by
          apply Classical.byContradiction
          intro q
          rw [h2 k (Nat.le_refl _) (by omega)] at hst; cases hst
        subst hk0
        obtain ⟨e', he', hE⟩ := ref_end b hb 2000000 k hk (by omega)
        have := hE.uniq h4
        subst this
        have he60 : e' < 60 := by
          apply Classical.byContradiction
          intro q
          by_cases hek : e' = k
          · omega
          · have := hE.2.1 e' (by have := hE.1; omega) (Nat.le_refl _)
            rw [hbig e' (by omega)] at this; cases this
        rw [he', Option.bind_some, num_ref k hlt]
        have hl := numB_len k
        have hl2 := numB_len e'
        have key : ∀ s2 : List UInt8, s2.length ≤ 10 * k + 1 → (Option.bind (some (numB k)) fun y_60 => (bif decide (((List.length s2) + (List.length y_60)) ≤ 9223372036854775807) then (bif (decide ((k : Int) < (e' : Int))) then (bif decide (((List.length (s2 ++ y_60)) + (List.length ([45] : List UInt8))) ≤ 9223372036854775807) then (Option.bind (matinsref06_num 2000000 (e' : Int)) fun y_61 => (bif decide (((List.length ((s2 ++ y_60) ++ ([45] : List UInt8))) + (List.length y_61)) ≤ 9223372036854775807) then some (((s2 ++ y_60) ++ ([45] : List UInt8)) ++ y_61) else none)) else none) else some (s2 ++ y_60)) else none)) = some (s2 ++ word k e') := by
          intro s2 hs2
          rw [Option.bind_some, decide_eq_true (show s2.length + (numB k).length ≤ 9223372036854775807 by omega), cond_true]
          unfold word
          by_cases hke : k < e'
          · rw [decide_eq_true (show (k : Int) < e' by omega), cond_true, decide_eq_true (by simp; omega), cond_true, num_ref e' he60, Option.bind_some, decide_eq_true (by simp; omega), cond_true, if_pos hke]
            simp [List.append_assoc]
          · rw [decide_eq_false (show ¬ (k : Int) < e' by omega), cond_false, if_neg hke]
        have hw := word_len k e'
        by_cases hs0 : s = []
        · subst hs0
          rw [show (!(([] : List UInt8) == [])) = false from rfl, cond_false, Option.bind_some, key [] (by simp), Option.bind_some]
          exact ih (k + 1) _ L (by omega) (by omega) (by simp; omega) h5
        · rw [show (!(s == ([] : List UInt8))) = true by simpa using hs0, cond_true, decide_eq_true (show s.length + ([44] : List UInt8).length ≤ 9223372036854775807 by simp; omega), cond_true, Option.bind_some,
            key (s ++ [44]) (by simp; omega), Option.bind_some]
          rw [ih (k + 1) _ L (by omega) (by omega) (by simp; omega) h5]
          unfold joinFrom
          rw [if_neg hs0]
          cases L <;> rfl
end Go.T
