/-
  LCronQ0: the code's runs.
-/
import Derived.Test.YtceclaaopomcnaaDoorLCronP0
namespace Go.T
open Go Go.Ab Go.Proofs

theorem ctz_bits (x : Nat) (h0 : x ≠ 0) (h : x < 2 ^ 64) : ∃ n, Lib.ctz 64 x = n ∧ n < 64 ∧ x.testBit n = true ∧ ∀ i, i < n → x.testBit i = false := by
  obtain ⟨m, hm, hlt⟩ := Lib.ctzFrom_spec 64 x (by omega) h
  have e : Lib.ctz 64 x = Lib.ctzFrom 64 x := by unfold Lib.ctz; rw [if_neg h0]
  rw [e]
  generalize Lib.ctzFrom 64 x = n at hm hlt
  refine ⟨n, rfl, hlt, ?_, fun i hi => ?_⟩
  · rw [hm, Nat.testBit_two_pow_mul]
    simp [Nat.testBit_zero]
  · rw [hm, Nat.testBit_two_pow_mul]
    have : ¬ n ≤ i := by omega
    simp [this]
theorem trail_eq (F x : Nat) (h : x < 2 ^ 64) : math_bits_TrailingZeros64 F (x : Int) = some ((Lib.ctz 64 x : Nat) : Int) := by
  unfold math_bits_TrailingZeros64
  rw [decide_eq_true (show (0 : Int) ≤ (x : Int) ∧ (x : Int) < 18446744073709551616 by omega), cond_true, Int.toNat_natCast]
theorem itoa_eq (F n : Nat) (h : n < 60) : strconv_Itoa F (n : Int) = some (numB n) := by
  unfold strconv_Itoa
  rw [decide_eq_true (show (0 : Int) ≤ (n : Int) ∧ (n : Int) < 100 by omega), cond_true, num_itoa n h]
theorem xor_eq (a : Nat) : ibits BinOp.xor IntKind.u64 (if ((IntKind.signed IntKind.u64) = true) then (-1 : Int) else (IntKind.max IntKind.u64)) (a : Int) = (((~~~ BitVec.ofNat 64 a).toNat : Nat) : Int) := by
  have e : (if ((IntKind.signed IntKind.u64) = true) then (-1 : Int) else (IntKind.max IntKind.u64)) = ((2 ^ 64 - 1 : Nat) : Int) := by decide
  rw [e]
  have : (BitVec.ofInt (IntKind.bits .u64) ((2 ^ 64 - 1 : Nat) : Int) ^^^ BitVec.ofInt (IntKind.bits .u64) (a : Int)).toNat = (~~~ BitVec.ofNat 64 a).toNat := by
    show (BitVec.ofInt 64 ((2 ^ 64 - 1 : Nat) : Int) ^^^ BitVec.ofInt 64 (a : Int)).toNat = _
    rw [ofInt_nat, ofInt_nat]
    congr 1
  unfold ibits
  simp only [this]
  exact wrap_u64 _ (BitVec.isLt _)
theorem not_bit (a i : Nat) (ha : a < 2 ^ 64) (hi : i < 64) : ((~~~ BitVec.ofNat 64 a).toNat).testBit i = !a.testBit i := by
  rw [← BitVec.getLsbD, BitVec.getLsbD_not]
  have e1 : a % 18446744073709551616 = a := Nat.mod_eq_of_lt ha
  simp [BitVec.getLsbD, hi, e1]
theorem fdiv_eq (a n : Nat) (hn : n < 64) : Int.fdiv (a : Int) ((2 : Int) ^ (min (Int.toNat (n : Int)) 64)) = ((a >>> n : Nat) : Int) := by
  rw [Int.toNat_natCast, Nat.min_eq_left (by omega), show ((2 : Int) ^ n) = ((2 ^ n : Nat) : Int) by simp, Int.fdiv_eq_ediv_of_nonneg _ (Int.natCast_nonneg _), Nat.shiftRight_eq_div_pow]
  rfl
theorem all_eq (F n r : Nat) (hr : 1 ≤ r) (h : n + r ≤ 60) : cron_all F (n : Int) ((n + r - 1 : Nat) : Int) = some ((2 ^ n * (2 ^ r - 1) : Nat) : Int) := by
  unfold cron_all
  have w : IntKind.wrap .i64 (((n + r - 1 : Nat) : Int) + 1) = ((n + r : Nat) : Int) := by rw [wrap_i64 _ (by omega) (by omega)]; omega
  rw [w, decide_eq_true (show (0 : Int) ≤ ((n + r : Nat) : Int) by omega), decide_eq_true (show (0 : Int) ≤ (n : Int) by omega)]
  simp only [cond_true]
  have p1 : (2 : Nat) ^ (n + r) < 2 ^ 64 := Nat.pow_lt_pow_right (by decide) (by omega)
  have p2 : (2 : Nat) ^ n < 2 ^ 64 := Nat.pow_lt_pow_right (by decide) (by omega)
  have p3 : (2 : Nat) ^ n ≤ 2 ^ (n + r) := Nat.pow_le_pow_right (by decide) (by omega)
  have e : ∀ k : Nat, k < 64 → IntKind.wrap .u64 ((1 : Int) * (2 : Int) ^ (min (Int.toNat (k : Int)) 64)) = ((2 ^ k : Nat) : Int) := by
    intro k hk
    rw [Int.toNat_natCast, Nat.min_eq_left (by omega), Int.one_mul, show ((2 : Int) ^ k) = ((2 ^ k : Nat) : Int) by simp]
    exact wrap_u64 _ (Nat.pow_lt_pow_right (by decide) hk)
  rw [e (n + r) (by omega), e n (by omega), show ((2 ^ (n + r) : Nat) : Int) - ((2 ^ n : Nat) : Int) = ((2 ^ (n + r) - 2 ^ n : Nat) : Int) by omega, wrap_u64 _ (Nat.lt_of_le_of_lt (Nat.sub_le _ _) p1)]
  congr 3
  rw [Nat.mul_sub, Nat.mul_one, Nat.pow_add]
theorem all_bit (n r i : Nat) : (2 ^ n * (2 ^ r - 1)).testBit i = (decide (n ≤ i) && decide (i < n + r)) := by
  rw [Nat.testBit_two_pow_mul, Nat.testBit_two_pow_sub_one]
  by_cases h : n ≤ i
  · simp [h]; omega
  · simp [h]
theorem code_loop (b : Nat) (hb : b < 2 ^ 60) : ∀ (fuel p c : Nat) (out : List (List UInt8)), c < 2 ^ 60 → (∀ i, c.testBit i = (decide (p ≤ i) && b.testBit i)) → (p = 0 ∨ b.testBit p = false) → p ≤ 60 → 61 - p < fuel → out.length ≤ p →
    ∃ L, cron_runs_l0 4000000 fuel (c : Int) out = some (out ++ L) ∧ WL b p L := by
  have hbig : ∀ i, 60 ≤ i → b.testBit i = false := fun i hi => Nat.testBit_lt_two_pow (Nat.lt_of_lt_of_le hb (Nat.pow_le_pow_right (by decide) hi))
  intro fuel
  induction fuel with
  | zero => intro p c out _ _ _ _ h; omega
  | succ fuel ih =>
    intro p c out hc hbits hp hp60 hf hout
    have hc64 : c < 2 ^ 64 := Nat.lt_trans hc (by decide)
    rw [cron_runs_l0.eq_2]
    by_cases h0 : c = 0
    · subst h0
      refine ⟨[], by simp, .done p fun i hi => ?_⟩
      have := hbits i
      rw [Nat.zero_testBit, decide_eq_true hi, Bool.true_and] at this
      unfold start
      rw [← this]; rfl
    · rw [show ((c : Int) != 0) = true by simpa using h0, cond_true, trail_eq _ c hc64, Option.bind_some]
      obtain ⟨n, hn, hn64, hnb, hlow⟩ := ctz_bits c h0 hc64
      rw [hn]
      have hn1 := hbits n
      rw [hnb] at hn1
      have hpn : p ≤ n := by
        apply Classical.byContradiction
        intro q
        rw [decide_eq_false q] at hn1; cases hn1
      have hbn : b.testBit n = true := by
        rw [decide_eq_true hpn, Bool.true_and] at hn1; exact hn1.symm
      have hn60 : n < 60 := by
        apply Classical.byContradiction
        intro q
        rw [hbig n (by omega)] at hbn; cases hbn
      rw [decide_eq_true (show (0 : Int) ≤ (n : Int) by omega), cond_true, fdiv_eq c n hn64]
      have hs60 : c >>> n < 2 ^ 60 := Nat.lt_of_le_of_lt (Nat.shiftRight_le _ _) hc
      have hs64 : c >>> n < 2 ^ 64 := Nat.lt_trans hs60 (by decide)
      rw [xor_eq]
      have hx0 : (~~~ BitVec.ofNat 64 (c >>> n)).toNat ≠ 0 := by
        intro e
        have := not_bit (c >>> n) 63 hs64 (by decide)
        rw [e, Nat.zero_testBit, Nat.testBit_lt_two_pow (Nat.lt_of_lt_of_le hs60 (by decide))] at this
        cases this
      rw [trail_eq _ _ (BitVec.isLt _), Option.bind_some]
      obtain ⟨r, hr, hr64, hrb, hrlow⟩ := ctz_bits _ hx0 (BitVec.isLt _)
      rw [hr, itoa_eq _ n hn60, Option.bind_some]
      have hbit : ∀ i, (c >>> n).testBit i = c.testBit (n + i) := fun i => by rw [Nat.testBit_shiftRight]
      have hr1 : c.testBit (n + r) = false := by
        have := not_bit (c >>> n) r hs64 hr64
        rw [hrb, hbit] at this
        cases hq : c.testBit (n + r)
        · rfl
        · rw [hq] at this; cases this
      have hr2 : ∀ i, i < r → c.testBit (n + i) = true := fun i hi => by
        have := not_bit (c >>> n) i hs64 (by omega)
        rw [hrlow i hi, hbit] at this
        cases hq : c.testBit (n + i)
        · rw [hq] at this; cases this
        · rfl
      have hr0 : 1 ≤ r := by
        apply Classical.byContradiction
        intro q
        have : r = 0 := by omega
        subst this
        rw [Nat.add_zero, hnb] at hr1; cases hr1
      have hnr : n + r ≤ 60 := by
        apply Classical.byContradiction
        intro q
        have := hr2 (r - 1) (by omega)
        rw [Nat.testBit_lt_two_pow (Nat.lt_of_lt_of_le hc (Nat.pow_le_pow_right (by decide) (by omega)))] at this; cases this
      have w1 : IntKind.wrap .i64 ((IntKind.wrap .i64 ((n : Int) + (r : Int))) - 1) = ((n + r - 1 : Nat) : Int) := by
        rw [wrap_i64 ((n : Int) + r) (by omega) (by omega), wrap_i64 _ (by omega) (by omega)]; omega
      rw [w1]
      have la := numB_len n
      have lb := numB_len (n + r - 1)
      have hword : (bif (decide ((1 : Int) < (r : Int))) then (Option.bind (strconv_Itoa 4000000 ((n + r - 1 : Nat) : Int)) fun y_27 => (bif decide (((List.length ([45] : List UInt8)) + (List.length y_27)) ≤ 9223372036854775807) then (bif decide (((List.length (numB n)) + (List.length (([45] : List UInt8) ++ y_27))) ≤ 9223372036854775807) then some (numB n ++ (([45] : List UInt8) ++ y_27)) else none) else none)) else some (numB n)) = some (word n (n + r - 1)) := by
        unfold word
        by_cases h1 : 1 < r
        · rw [decide_eq_true (show (1 : Int) < (r : Int) by omega), cond_true, itoa_eq _ (n + r - 1) (by omega), Option.bind_some, decide_eq_true (by simp; omega), cond_true, decide_eq_true (by simp; omega), cond_true, if_pos (by omega)]
        · rw [decide_eq_false (show ¬ (1 : Int) < (r : Int) by omega), cond_false, if_neg (by omega)]
      rw [hword, Option.bind_some, decide_eq_true (show out.length + 1 ≤ LIM by unfold LIM; omega), cond_true, all_eq _ n r hr0 hnr, Option.bind_some, ib_not]
      have hc2bit : ∀ i, (diffN c (2 ^ n * (2 ^ r - 1))).testBit i = (decide (n + r ≤ i) && b.testBit i) := by
        intro i
        have hlt : 2 ^ n * (2 ^ r - 1) < 2 ^ 64 := by
          have h1 : 2 ^ n * (2 ^ r - 1) < 2 ^ n * 2 ^ r := Nat.mul_lt_mul_of_pos_left (by have := Nat.two_pow_pos r; omega) (Nat.two_pow_pos n)
          rw [← Nat.pow_add] at h1
          exact Nat.lt_trans h1 (Nat.pow_lt_pow_right (by decide) (by omega))
        rw [diffN_bit _ _ _ hc64 hlt, all_bit]
        by_cases q1 : n + r ≤ i
        · rw [hbits i, decide_eq_true q1, decide_eq_true (show p ≤ i by omega), decide_eq_false (show ¬ i < n + r by omega)]
          simp
        · rw [decide_eq_false q1]
          by_cases q2 : n ≤ i
          · rw [decide_eq_true q2, decide_eq_true (show i < n + r by omega)]; simp
          · rw [hlow i (by omega)]; simp
      have hc2 : diffN c (2 ^ n * (2 ^ r - 1)) < 2 ^ 60 := by
        apply Nat.lt_pow_two_of_testBit
        intro i hi
        rw [hc2bit i, hbig i hi, Bool.and_false]
      have hbe : b.testBit (n + r) = false := by
        have := hbits (n + r)
        rw [hr1, decide_eq_true (show p ≤ n + r by omega), Bool.true_and] at this
        exact this.symm
      obtain ⟨L, hL, hW⟩ := ih (n + r) (diffN c (2 ^ n * (2 ^ r - 1))) (out ++ [word n (n + r - 1)]) hc2 hc2bit (.inr hbe) hnr (by omega) (by simp; omega)
      refine ⟨word n (n + r - 1) :: L, by rw [hL]; simp, ?_⟩
      have hbr : ∀ i, i < r → b.testBit (n + i) = true := fun i hi => by
        have := hbits (n + i)
        rw [hr2 i hi, decide_eq_true (show p ≤ n + i by omega), Bool.true_and] at this
        exact this.symm
      have hstart : start b n = true := by
        unfold start
        rw [hbn, Bool.true_and]
        by_cases hz : n = 0
        · subst hz; rfl
        · have : b.testBit (n - 1) = false := by
            by_cases hpe : p = n
            · subst hpe
              rcases hp with hp | hp
              · omega
              · rw [hp] at hbn; cases hbn
            · have := hbits (n - 1)
              rw [hlow (n - 1) (by omega), decide_eq_true (show p ≤ n - 1 by omega), Bool.true_and] at this
              exact this.symm
          rw [this]; simp
      refine .cons p n (n + r - 1) L hpn (fun i hi hi' => ?_) hstart ⟨by omega, fun i h1 h2 => ?_, by rw [show n + r - 1 + 1 = n + r by omega]; exact hbe⟩ (hW.back (by omega) fun i hi hi' => ?_)
      · have := hbits i
        rw [hlow i hi', decide_eq_true hi, Bool.true_and] at this
        unfold start
        rw [← this]; rfl
      · have := hbr (i - n) (by omega)
        rwa [show n + (i - n) = i by omega] at this
      · unfold start
        have h1 := hbr (i - 1 - n) (by omega)
        rw [show n + (i - 1 - n) = i - 1 by omega] at h1
        rw [h1]
        have : (i == 0) = false := by simp; omega
        rw [this]; simp
end Go.T
