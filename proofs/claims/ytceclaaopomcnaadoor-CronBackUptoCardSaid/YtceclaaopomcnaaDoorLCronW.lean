/-
  LCronW: what is printed is short, and its words are what they were.
-/
import Derived.Test.YtceclaaopomcnaaDoorLCronR0
import Derived.Test.YtceclaaopomcnaaDoorLCronL
namespace Go.T
open Go Go.Ab Go.Proofs

/-- what a place costs, three times over -/
def costN (p : Nat) : Nat := if p < 10 then 4 else 6
def sumC : Nat → Nat → Nat
  | 0, _ => 0
  | n + 1, p => costN p + sumC n (p + 1)
theorem sumC_add (n m p : Nat) : sumC (n + m) p = sumC n p + sumC m (p + n) := by
  induction n generalizing p with
  | zero => simp [sumC]
  | succ n ih => rw [show n + 1 + m = (n + m) + 1 by omega, sumC, sumC, ih, show p + (n + 1) = p + 1 + n by omega]; omega
theorem sumC_ge (n p : Nat) : 4 * n ≤ sumC n p := by
  induction n generalizing p with
  | zero => simp [sumC]
  | succ n ih => rw [sumC]; have := ih (p + 1); have : 4 ≤ costN p := by unfold costN; split <;> omega
                 omega
theorem sumC_big (n p : Nat) (h : 10 ≤ p) : sumC n p = 6 * n := by
  induction n generalizing p with
  | zero => rfl
  | succ n ih => rw [sumC, ih (p + 1) (by omega)]; have : costN p = 6 := by unfold costN; rw [if_neg (by omega)]
                 omega
theorem numB_len1 (n : Nat) : (numB n).length = if n < 10 then 1 else 2 := by unfold numB; split <;> rfl
theorem word_cost (n e : Nat) (h : n ≤ e) : 3 * ((word n e).length + 1) ≤ sumC (e + 2 - n) n := by
  have lw : (word n e).length = if n < e then (if n < 10 then 1 else 2) + (1 + (if e < 10 then 1 else 2)) else (if n < 10 then 1 else 2) := by
    unfold word
    split
    · rw [List.length_append, List.length_append, numB_len1, numB_len1]; rfl
    · rw [numB_len1]
  rw [lw]
  by_cases hne : n < e
  · rw [if_pos hne]
    by_cases h10 : n < 10
    · rw [if_pos h10]
      by_cases he : e < 10
      · rw [if_pos he]
        have := sumC_ge (e + 2 - n) n
        omega
      · rw [if_neg he, show e + 2 - n = (e - n) + 2 by omega, sumC_add, show n + (e - n) = e by omega, sumC_big 2 e (by omega)]
        have := sumC_ge (e - n) n
        omega
    · rw [if_neg h10, if_neg (by omega), sumC_big _ _ (by omega)]; omega
  · rw [if_neg hne]
    have : e = n := by omega
    subst this
    by_cases h10 : e < 10
    · rw [if_pos h10]
      have := sumC_ge (e + 2 - e) e
      omega
    · rw [if_neg h10, sumC_big _ _ (by omega)]; omega
/-- the words' lengths, each with one more -/
def lens (L : List (List UInt8)) : Nat := (L.map fun w => w.length + 1).sum
theorem WL.cost {b p : Nat} {L : List (List UInt8)} (M : Nat) (hb : b < 2 ^ (M + 1)) (h : WL b p L) : p ≤ M + 2 → 3 * lens L ≤ sumC (M + 2 - p) p := by
  have hbig : ∀ i, M < i → b.testBit i = false := fun i hi => Nat.testBit_lt_two_pow (Nat.lt_of_lt_of_le hb (Nat.pow_le_pow_right (by decide) (by omega)))
  suffices key : ∀ {p L}, WL b p L → ∀ q, p ≤ q → (∀ i, p ≤ i → i < q → start b i = false) → q ≤ M + 2 → 3 * lens L ≤ sumC (M + 2 - q) q by
    exact key h p (Nat.le_refl _) (fun i a b => by omega)
  intro p L h
  induction h with
  | done p _ => intro q _ _ _; simp [lens]
  | cons p n e L h1 h2 h3 h4 h5 ih =>
    intro q hq hqn hqM
    have hnq : q ≤ n := by
      apply Classical.byContradiction
      intro r
      rw [hqn n h1 (by omega)] at h3; cases h3
    have heM : e ≤ M := by
      apply Classical.byContradiction
      intro r
      by_cases hne : e = n
      · unfold start at h3
        rw [hbig n (by omega)] at h3; cases h3
      · have := h4.2.1 e (by have := h4.1; omega) (Nat.le_refl _)
        rw [hbig e (by omega)] at this; cases this
    have hI := ih (e + 2) (by have := h4.1; omega) (fun i hi1 hi2 => by
      unfold start
      by_cases hie : i = e + 1
      · subst hie; rw [h4.2.2]; rfl
      · have h1' : b.testBit (i - 1) = true := by
          by_cases hin : i - 1 = n
          · rw [hin]
            unfold start at h3
            simp only [Bool.and_eq_true] at h3
            exact h3.1
          · exact h4.2.1 (i - 1) (by omega) (by omega)
        rw [h1']
        have : (i == 0) = false := by simp; omega
        rw [this]; simp) (by omega)
    have hw := word_cost n e h4.1
    have hl : lens (word n e :: L) = (word n e).length + 1 + lens L := by simp [lens]
    have e1 : sumC (M + 2 - q) q = sumC (n - q) q + (sumC (e + 2 - n) n + sumC (M + 2 - (e + 2)) (e + 2)) := by
      rw [show M + 2 - q = (n - q) + ((e + 2 - n) + (M + 2 - (e + 2))) by have := h4.1; omega, sumC_add, sumC_add, show q + (n - q) = n by omega, show n + (e + 2 - n) = e + 2 by have := h4.1; omega]
    rw [hl, e1]
    omega
theorem join_lens : ∀ (L : List (List UInt8)), L ≠ [] → (Lib.join L [44]).length + 1 = lens L := by
  intro L hL
  cases L with
  | nil => exact absurd rfl hL
  | cons w L =>
    rw [Lib.join_cons, List.length_append]
    have : ∀ L : List (List UInt8), (Lib.joinTail [44] L).length = lens L := by
      intro L
      induction L with
      | nil => rfl
      | cons x L ih => simp only [Lib.joinTail, List.map_cons, List.flatten_cons, List.length_append, lens, List.sum_cons, List.length_cons, List.length_nil] at ih ⊢; omega
    rw [this]
    simp [lens]; omega
/-! the items of what is printed -/
theorem dig_num (n : Nat) (h : n < 60) : isNum (numB n) = true ∧ numV (numB n) = n := by
  have : ∀ n : Nat, n < 60 → isNum (numB n) = true ∧ numV (numB n) = n := by decide +kernel
  exact this n h
theorem num_no (n : Nat) (h : n < 60) : 47 ∉ numB n ∧ 45 ∉ numB n ∧ 44 ∉ numB n ∧ 42 ∉ numB n ∧ ∀ c, c ∈ numB n → blankB c = false := by
  have : ∀ n : Nat, n < 60 → 47 ∉ numB n ∧ 45 ∉ numB n ∧ 44 ∉ numB n ∧ 42 ∉ numB n ∧ (numB n).all (fun c => !blankB c) = true := by decide +kernel
  obtain ⟨a, b, c, d, e⟩ := this n h
  exact ⟨a, b, c, d, fun x hx => by simpa using List.all_eq_true.1 e x hx⟩
theorem word_no (n e : Nat) (hn : n < 60) (he : e < 60) : 47 ∉ word n e ∧ 44 ∉ word n e ∧ 42 ∉ word n e ∧ ∀ c, c ∈ word n e → blankB c = false := by
  obtain ⟨a1, _, a3, a4, a5⟩ := num_no n hn
  obtain ⟨b1, _, b3, b4, b5⟩ := num_no e he
  unfold word
  split
  · refine ⟨by simp [a1, b1], by simp [a3, b3], by simp [a4, b4], fun c hc => ?_⟩
    simp only [List.mem_append, List.mem_singleton] at hc
    rcases hc with hc | rfl | hc
    · exact a5 c hc
    · decide
    · exact b5 c hc
  · exact ⟨a1, a3, a4, a5⟩
theorem read_word (n e : Nat) (hn : n < 60) (he : e < 60) (hne : n ≤ e) (f : cron_span) : cron_read 4000000 (word n e) f = some (⟨(n : Int), (e : Int), 1⟩, true) := by
  obtain ⟨w1, _, w3, _⟩ := word_no n e hn he
  have hlen := word_len n e
  have c1 : Lib.cut (word n e) [47] = (word n e, [], false) := by
    rcases cut_one 47 (word n e) with ⟨_, h⟩ | ⟨p, r, h, _⟩
    · exact h
    · rw [h] at w1; simp at w1
  have hstar : (word n e == ([42] : List UInt8)) = false := by
    rw [beq_eq_false_iff_ne]
    intro q; rw [q] at w3; simp at w3
  obtain ⟨n1, n2⟩ := dig_num n hn
  obtain ⟨e1, e2⟩ := dig_num e he
  obtain ⟨_, a2, _⟩ := num_no n hn
  unfold cron_read
  rw [cut_eq 4000000 _ _ (by omega), c1]
  simp only [Option.bind_some, cond_false, hstar]
  rw [cut_eq 4000000 _ _ (by omega)]
  simp only [Option.bind_some]
  by_cases hlt : n < e
  · have c2 : Lib.cut (word n e) [45] = (numB n, numB e, true) := by
      have hw : word n e = numB n ++ 45 :: numB e := by unfold word; rw [if_pos hlt]; rfl
      rcases cut_one 45 (word n e) with ⟨h, _⟩ | ⟨p, r, h, hp, hc⟩
      · rw [hw] at h; simp at h
      · rw [hc]
        rw [hw] at h
        have hs1 := splitA_no 45 (numB n) (45 :: numB e) [] a2
        have hs2 := splitA_no 45 p (45 :: r) [] hp
        rw [h, hs2] at hs1
        simp only [splitA, if_pos, List.nil_append, List.cons.injEq] at hs1
        have hpn := hs1.1
        rw [hpn] at h
        have := List.append_cancel_left h
        injection this with _ hr
        rw [hpn, hr]
    rw [c2]
    simp only [number_eq, n1, e1, if_pos, Option.bind_some, cond_true, n2, e2]
  · have hee : e = n := by omega
    subst hee
    have hw : word e e = numB e := by unfold word; rw [if_neg hlt]
    have c2 : Lib.cut (word e e) [45] = (numB e, [], false) := by
      rw [hw]
      rcases cut_one 45 (numB e) with ⟨_, h⟩ | ⟨p, r, h, _⟩
      · exact h
      · rw [h] at a2; simp at a2
    rw [c2]
    simp only [number_eq, n1, if_pos, Option.bind_some, cond_true, cond_false, n2]
    rfl
end Go.T
