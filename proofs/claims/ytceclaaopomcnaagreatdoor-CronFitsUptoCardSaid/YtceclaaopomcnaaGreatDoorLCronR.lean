/-
  LCronR: the law CronFits in plain Lean: which expressions are right, how they print, what they fit.
-/
import Derived.Test.YtceclaaopomcnaaGreatDoorLCronQ
namespace Go.T
open Go Go.Ab Go.Proofs

theorem WL.words {b p : Nat} {L : List (List UInt8)} (h : WL b p L) : ∀ w, w ∈ L → 1 ≤ w.length ∧ w.length ≤ 5 := by
  induction h with
  | done p _ => intro w hw; cases hw
  | cons p n e L h1 h2 h3 h4 h5 ih =>
    intro w hw
    rcases List.mem_cons.1 hw with rfl | hw
    · exact word_len n e
    · exact ih w hw
theorem joinFrom_eq : ∀ (L : List (List UInt8)) (s : List UInt8), s ≠ [] → joinFrom s L = s ++ Lib.joinTail [44] L := by
  intro L
  induction L with
  | nil => intro s _; simp [joinFrom, Lib.joinTail]
  | cons w L ih =>
    intro s hs
    unfold joinFrom
    rw [if_neg hs, ih _ (by simp)]
    simp [Lib.joinTail]
theorem join_eq (L : List (List UInt8)) (h : ∀ w, w ∈ L → 1 ≤ w.length ∧ w.length ≤ 5) : joinFrom [] L = Lib.join L [44] := by
  cases L with
  | nil => rfl
  | cons w L =>
    have hw := h w List.mem_cons_self
    unfold joinFrom
    rw [if_pos rfl, List.nil_append, joinFrom_eq L w (by intro e; subst e; simp at hw), Lib.join_cons]
theorem tail_len : ∀ (L : List (List UInt8)) (k m : Nat) (sep : List UInt8), sep.length = m → (∀ w, w ∈ L → w.length ≤ k) → (Lib.joinTail sep L).length ≤ (k + m) * L.length := by
  intro L
  induction L with
  | nil => intro k m sep _ _; simp [Lib.joinTail]
  | cons w L ih =>
    intro k m sep hm h
    have h1 := h w List.mem_cons_self
    have h2 := ih k m sep hm fun w hw => h w (List.mem_cons_of_mem _ hw)
    simp only [Lib.joinTail, List.map_cons, List.flatten_cons, List.length_append, List.length_cons] at h2 ⊢
    rw [Nat.mul_add]
    omega
theorem join_len (L : List (List UInt8)) (k : Nat) (c : UInt8) (h : ∀ w, w ∈ L → w.length ≤ k) : (Lib.join L [c]).length ≤ (k + 1) * L.length := by
  cases L with
  | nil => simp [Lib.join_nil]
  | cons w L =>
    rw [Lib.join_cons, List.length_append]
    have h1 := h w List.mem_cons_self
    have h2 := tail_len L k 1 [c] rfl fun w hw => h w (List.mem_cons_of_mem _ hw)
    simp only [List.length_cons]
    rw [Nat.mul_add]
    omega
theorem runs_both (b : Nat) (hb : b < 2 ^ 60) : ∃ s, cron_runs 2000000 (b : Int) = some s ∧ matinsref06_runs 2000000 (b : Int) = some s ∧ s.length ≤ 360 := by
  obtain ⟨L, hL, hW⟩ := code_loop b hb 2000000 0 b [] hb (fun i => by simp) (.inl rfl) (by decide) (by omega) (by simp)
  have hw := hW.words
  have hn := (hW.len hb).2 (by omega)
  have hj := join_len L 5 44 fun w h => (hw w h).2
  have hl : (Lib.join L [44]).length ≤ 360 := by omega
  refine ⟨Lib.join L [44], ?_, ?_, hl⟩
  · unfold cron_runs strings_Join
    rw [hL, List.nil_append, Option.bind_some, decide_eq_true (show (Lib.join L [44]).length ≤ 140737488355328 by omega)]; rfl
  · unfold matinsref06_runs
    have := ref_loop b hb 2000000 0 [] L (by decide) (by omega) (by simp) hW
    rw [show ((0 : Nat) : Int) = 0 from rfl] at this
    rw [this, join_eq L hw]; rfl
/-- a field's text -/
theorem text_both (b : Nat) (hb : b < 2 ^ 60) (star : Bool) : ∃ t, (bif star then some ([42] : List UInt8) else cron_runs 2000000 (b : Int)) = some t ∧ matinsref06_text 2000000 (b : Int) star = some t ∧ t.length ≤ 360 := by
  cases star with
  | true => exact ⟨[42], rfl, rfl, by decide⟩
  | false =>
    obtain ⟨s, h1, h2, h3⟩ := runs_both b hb
    refine ⟨s, h1, ?_, h3⟩
    unfold matinsref06_text
    rw [h2]; rfl
theorem print_step (c : api_Cron) (n : Nat) (a : A_5_uint64) (i b f : Int) (star : Bool) (l : List (List UInt8)) (t : List UInt8) (h0 : 0 ≤ i) (h5 : i < 5) (hf : cron_full 2000000 i = some f)
    (hb : b = if i = 0 then a.e0 else if i = 1 then a.e1 else if i = 2 then a.e2 else if i = 3 then a.e3 else a.e4)
    (hs : star = if i = 2 then c.AnyDay else if i = 4 then c.AnyWeek else (b == f)) (ht : (bif star then some ([42] : List UInt8) else cron_runs 2000000 b) = some t) (hl : l.length ≤ 10) :
    cron_Print_l0 2000000 c a (n + 1) i l = cron_Print_l0 2000000 c a n (i + 1) (l ++ [t]) := by
  rw [cron_Print_l0.eq_2, hf, wrap_i64 (i + 1) (by omega) (by omega)]
  have h : i = 0 ∨ i = 1 ∨ i = 2 ∨ i = 3 ∨ i = 4 := by omega
  have e : (bif decide ((0 : Int) ≤ i) then (bif decide (i < 5) then (bif i == 0 then some a.e0 else bif i == 1 then some a.e1 else bif i == 2 then some a.e2 else bif i == 3 then some a.e3 else bif i == 4 then some a.e4 else none) else none) else none) = some b := by
    rcases h with rfl | rfl | rfl | rfl | rfl <;> (subst hb; rfl)
  have e2 : (bif (i == 2) then some c.AnyDay else (bif (i == 4) then some c.AnyWeek else some (b == f))) = some star := by
    rcases h with rfl | rfl | rfl | rfl | rfl <;> (subst hs; rfl)
  rw [e, Option.bind_some, Option.bind_some, e2, Option.bind_some, decide_eq_true h5, cond_true]
  cases star with
  | true =>
    have : t = [42] := by simpa using ht.symm
    subst this
    rw [cond_true, decide_eq_true (show l.length + 1 ≤ LIM by unfold LIM; omega)]; rfl
  | false =>
    rw [cond_false] at ht ⊢
    rw [ht, Option.bind_some, decide_eq_true (show l.length + 1 ≤ LIM by unfold LIM; omega)]; rfl
theorem okF_lt (a f : Nat) (ha : a < 2 ^ 64) (hf : f < 2 ^ 60) (h : okF a f = true) : a < 2 ^ 60 := by
  have := (okF_nat a f ha (Nat.lt_trans hf (by decide))).1 h
  apply Nat.lt_pow_two_of_testBit
  intro i hi
  cases hq : a.testBit i
  · rfl
  · have := this.2 i hq
    rw [Nat.testBit_lt_two_pow (Nat.lt_of_lt_of_le hf (Nat.pow_le_pow_right (by decide) hi))] at this; cases this
theorem print_eq (c : api_Cron) (hc : api_Cron.ok 1048576 c) : ∃ r, cron_Print 2000000 c = some r ∧ matinsref06_Print 2000000 c = some r := by
  have hk := check_eq 1999994 c
  simp only [show 1999994 + 6 = 2000000 from rfl] at hk
  have hr := rcheck_eq c hc
  unfold cron_Print matinsref06_Print
  rw [hk, hr, Option.bind_some, Option.bind_some]
  cases h1 : chkB c
  · exact ⟨_, rfl, rfl⟩
  obtain ⟨mi, ho, da, mo, we, ad, aw⟩ := c
  obtain ⟨c1, c2, c3, c4, c5, -⟩ := hc
  have p1 := okI_u64 c1
  have p2 := okI_u64 c2
  have p3 := okI_u64 c3
  have p4 := okI_u64 c4
  have p5 := okI_u64 c5
  obtain ⟨a1, rfl⟩ := Int.eq_ofNat_of_zero_le p1.1
  obtain ⟨a2, rfl⟩ := Int.eq_ofNat_of_zero_le p2.1
  obtain ⟨a3, rfl⟩ := Int.eq_ofNat_of_zero_le p3.1
  obtain ⟨a4, rfl⟩ := Int.eq_ofNat_of_zero_le p4.1
  obtain ⟨a5, rfl⟩ := Int.eq_ofNat_of_zero_le p5.1
  have l1 : a1 < 2 ^ 64 := by have := p1.2; simp only at this; omega
  have l2 : a2 < 2 ^ 64 := by have := p2.2; simp only at this; omega
  have l3 : a3 < 2 ^ 64 := by have := p3.2; simp only at this; omega
  have l4 : a4 < 2 ^ 64 := by have := p4.2; simp only at this; omega
  have l5 : a5 < 2 ^ 64 := by have := p5.2; simp only at this; omega
  simp only [chkB, Bool.and_eq_true] at h1
  obtain ⟨⟨⟨⟨⟨⟨k1, k2⟩, k3⟩, k4⟩, k5⟩, k6⟩, k7⟩ := h1
  have m1 := okF_lt a1 1152921504606846975 l1 (by decide) k1
  have m2 := okF_lt a2 16777215 l2 (by decide) k2
  have m3 := okF_lt a3 4294967294 l3 (by decide) k3
  have m4 := okF_lt a4 8190 l4 (by decide) k4
  have m5 := okF_lt a5 127 l5 (by decide) k5
  obtain ⟨t1, u1, v1, w1⟩ := text_both a1 m1 ((a1 : Int) == 1152921504606846975)
  obtain ⟨t2, u2, v2, w2⟩ := text_both a2 m2 ((a2 : Int) == 16777215)
  obtain ⟨t3, u3, v3, w3⟩ := text_both a3 m3 ad
  obtain ⟨t4, u4, v4, w4⟩ := text_both a4 m4 ((a4 : Int) == 8190)
  obtain ⟨t5, u5, v5, w5⟩ := text_both a5 m5 aw
  let A : A_5_uint64 := ⟨a1, a2, a3, a4, a5⟩
  let C : api_Cron := ⟨a1, a2, a3, a4, a5, ad, aw⟩
  have s1 := print_step C 1999999 A 0 a1 _ _ [] t1 (by decide) (by decide) (full0 _) rfl rfl u1 (by simp)
  have s2 := print_step C 1999998 A 1 a2 _ _ [t1] t2 (by decide) (by decide) (full1 _) rfl rfl u2 (by simp)
  have s3 := print_step C 1999997 A 2 a3 _ _ [t1, t2] t3 (by decide) (by decide) (full2 _) rfl rfl u3 (by simp)
  have s4 := print_step C 1999996 A 3 a4 _ _ [t1, t2, t3] t4 (by decide) (by decide) (full3 _) rfl rfl u4 (by simp)
  have s5 := print_step C 1999995 A 4 a5 _ _ [t1, t2, t3, t4] t5 (by decide) (by decide) (full4 _) rfl rfl u5 (by simp)
  have s6 : cron_Print_l0 2000000 C A 1999995 5 [t1, t2, t3, t4, t5] = some [t1, t2, t3, t4, t5] := rfl
  have hS : cron_Print_l0 2000000 C A 2000000 0 [] = some [t1, t2, t3, t4, t5] := by
    refine s1.trans ?_
    refine s2.trans ?_
    refine s3.trans ?_
    refine s4.trans ?_
    exact s5.trans s6
  have hj : Lib.join [t1, t2, t3, t4, t5] [32] = t1 ++ [32] ++ t2 ++ [32] ++ t3 ++ [32] ++ t4 ++ [32] ++ t5 := by
    rw [Lib.join_cons]
    simp [Lib.joinTail, List.append_assoc]
  have hjl : (Lib.join [t1, t2, t3, t4, t5] [32]).length ≤ 140737488355328 := by
    rw [hj]; simp only [List.length_append, List.length_cons, List.length_nil]; omega
  refine ⟨(Lib.join [t1, t2, t3, t4, t5] [32], 0), ?_, ?_⟩
  · simp only [Bool.not_true, cond_false, cron_fields, Option.bind_some]
    rw [hS, Option.bind_some]
    unfold strings_Join
    rw [decide_eq_true hjl]; rfl
  · simp only [Bool.not_true, cond_false, rfull0, rfull1, rfull3, Option.bind_some, v1, v2, v3, v4, v5]
    rw [hj]
    simp only [List.length_append, List.length_cons, List.length_nil]
    simp only [decide_eq_true (show t1.length + (0 + 1) ≤ 9223372036854775807 by omega), decide_eq_true (show t1.length + (0 + 1) + t2.length ≤ 9223372036854775807 by omega),
      decide_eq_true (show t1.length + (0 + 1) + t2.length + (0 + 1) ≤ 9223372036854775807 by omega), decide_eq_true (show t1.length + (0 + 1) + t2.length + (0 + 1) + t3.length ≤ 9223372036854775807 by omega),
      decide_eq_true (show t1.length + (0 + 1) + t2.length + (0 + 1) + t3.length + (0 + 1) ≤ 9223372036854775807 by omega),
      decide_eq_true (show t1.length + (0 + 1) + t2.length + (0 + 1) + t3.length + (0 + 1) + t4.length ≤ 9223372036854775807 by omega),
      decide_eq_true (show t1.length + (0 + 1) + t2.length + (0 + 1) + t3.length + (0 + 1) + t4.length + (0 + 1) ≤ 9223372036854775807 by omega),
      decide_eq_true (show t1.length + (0 + 1) + t2.length + (0 + 1) + t3.length + (0 + 1) + t4.length + (0 + 1) + t5.length ≤ 9223372036854775807 by omega), cond_true]
theorem fits_loop (c : api_Cron) (hc : api_Cron.ok 1048576 c) (list : List api_Civil) : ∀ (n k : Nat), k ≤ 256 → 256 - k < n → matinslaw06_CronFits_l0 2000000 c list n (k : Int) = some (.inr ()) := by
  intro n
  induction n with
  | zero => intro k _ h; omega
  | succ n ih =>
    intro k hk h
    rw [matinslaw06_CronFits_l0.eq_2]
    by_cases h1 : k < list.length
    · rw [decide_eq_true (show (k : Int) < ((list.length : Nat) : Int) by omega), cond_true, Option.bind_some]
      by_cases h2 : k < 256
      · rw [decide_eq_true (show (k : Int) < 256 by omega), cond_true, decide_eq_true (show (0 : Int) ≤ k by omega), cond_true, Int.toNat_natCast, List.getElem?_eq_getElem h1, Option.bind_some]
        obtain ⟨v, hv, _⟩ := fits_eq 1999994 c list[k]
        simp only [show 1999994 + 6 = 2000000 from rfl] at hv
        rw [hv, Option.bind_some, cond_true, Option.bind_some, rfits_eq c hc, hv, Option.bind_some]
        have : (!(v == v)) = false := by cases v <;> rfl
        rw [this, cond_false, wrap_i64 _ (by omega) (by omega)]
        exact ih (k + 1) (by omega) (by omega)
      · rw [decide_eq_false (show ¬ (k : Int) < 256 by omega)]; rfl
    · rw [decide_eq_false (show ¬ (k : Int) < ((list.length : Nat) : Int) by omega)]; rfl
theorem CronFits_true (c : api_Cron) (list : List api_Civil) (hc : api_Cron.ok 1048576 c) : matinslaw06_CronFits 2000000 c list = some true := by
  unfold matinslaw06_CronFits
  obtain ⟨r, h1, h2⟩ := print_eq c hc
  have hk := check_eq 1999994 c
  simp only [show 1999994 + 6 = 2000000 from rfl] at hk
  have hl := fits_loop c hc list 2000000 0 (by decide) (by omega)
  rw [show ((0 : Nat) : Int) = 0 from rfl] at hl
  have e1 : ∀ b : Bool, (b == b) = true := by intro b; cases b <;> rfl
  have e2 : (r.1 == r.1) = true := by simp
  have e3 : (r.2 != r.2) = false := by simp
  rw [awake_ok, Option.bind_some, h1, h2, hk, rcheck_eq c hc]
  simp only [Option.bind_some, e1, e2, e3, Bool.not_true, cond_false, hl]
  rfl
end Go.T
