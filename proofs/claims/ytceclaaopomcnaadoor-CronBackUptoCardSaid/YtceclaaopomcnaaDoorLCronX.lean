/-
  LCronX: what is printed is read as it was; the law CronBack in plain Lean.
-/
import Derived.Test.YtceclaaopomcnaaDoorLCronW
namespace Go.T
open Go Go.Ab Go.Proofs

theorem split_join : ∀ (L : List (List UInt8)), L ≠ [] → (∀ w, w ∈ L → 44 ∉ w) → splitA 44 (Lib.join L [44]) [] = L := by
  have key : ∀ (L : List (List UInt8)) (w : List UInt8), 44 ∉ w → (∀ x, x ∈ L → 44 ∉ x) → splitA 44 (w ++ Lib.joinTail [44] L) [] = w :: L := by
    intro L
    induction L with
    | nil =>
      intro w hw _
      have := splitA_no 44 w [] [] hw
      simp only [Lib.joinTail, List.map_nil, List.flatten_nil]
      rw [this]; simp [splitA]
    | cons x L ih =>
      intro w hw h
      have e : w ++ Lib.joinTail [44] (x :: L) = w ++ 44 :: (x ++ Lib.joinTail [44] L) := by simp [Lib.joinTail]
      rw [e, splitA_append, ih x (h x List.mem_cons_self) fun y hy => h y (List.mem_cons_of_mem _ hy)]
      have := splitA_no 44 w [] [] hw
      rw [List.append_nil] at this
      rw [this]; simp [splitA]
  intro L hL h
  cases L with
  | nil => exact absurd rfl hL
  | cons w L => rw [Lib.join_cons]; exact key L w (h w List.mem_cons_self) fun x hx => h x (List.mem_cons_of_mem _ hx)
theorem words_join : ∀ (L : List (List UInt8)), (∀ w, w ∈ L → w ≠ [] ∧ ∀ c, c ∈ w → blankB c = false) → wordsA (Lib.join L [32]) [] = L := by
  have key : ∀ (L : List (List UInt8)) (w : List UInt8), w ≠ [] → (∀ c, c ∈ w → blankB c = false) → (∀ x, x ∈ L → x ≠ [] ∧ ∀ c, c ∈ x → blankB c = false) → wordsA (w ++ Lib.joinTail [32] L) [] = w :: L := by
    intro L
    induction L with
    | nil =>
      intro w hw hb _
      have := wordsA_no w [] [] hb
      simp only [Lib.joinTail, List.map_nil, List.flatten_nil]
      rw [this]; simp [wordsA, hw]
    | cons x L ih =>
      intro w hw hb h
      have e : w ++ Lib.joinTail [32] (x :: L) = w ++ [32] ++ (x ++ Lib.joinTail [32] L) := by simp [Lib.joinTail]
      have hx := h x List.mem_cons_self
      rw [e, words_head w _ hw hb, ih x hx.1 hx.2 fun y hy => h y (List.mem_cons_of_mem _ hy)]
  intro L h
  cases L with
  | nil => rfl
  | cons w L =>
    have hw := h w List.mem_cons_self
    rw [Lib.join_cons]; exact key L w hw.1 hw.2 fun x hx => h x (List.mem_cons_of_mem _ hx)
theorem range_one (F : Nat) (y : cron_item × Bool) (c : Int) (hc : c ≤ 63) (h1 : y.1.step = 1) : ∀ (n : Nat) (k : Int), 0 ≤ k → k ≤ 10100 → (c + 1 - k).toNat < n →
    ∃ R : Nat, R < 2 ^ 64 ∧ (∀ B : Nat, B < 2 ^ 64 → cron_field_l1 F y c n (B : Int) k = some ((B ||| R : Nat) : Int)) ∧ (∀ i : Nat, R.testBit i = true ↔ k ≤ (i : Int) ∧ (i : Int) ≤ c) := by
  intro n
  induction n with
  | zero => intro k _ _ h; omega
  | succ n ih =>
    intro k hk hk2 h
    by_cases hkc : k ≤ c
    · obtain ⟨j, rfl⟩ := Int.eq_ofNat_of_zero_le hk
      have hj : j < 64 := by omega
      have p1 : (2 : Nat) ^ j < 2 ^ 64 := Nat.pow_lt_pow_right (by decide) hj
      have w : IntKind.wrap .i64 ((j : Int) + y.1.step) = (j : Int) + 1 := by
        rw [h1]; exact wrap_i64 _ (by omega) (by omega)
      obtain ⟨R, r1, r2, r3⟩ := ih ((j : Int) + 1) (by omega) (by omega) (by omega)
      refine ⟨2 ^ j ||| R, Nat.or_lt_two_pow p1 r1, fun B hB => ?_, fun i => ?_⟩
      · rw [cron_field_l1.eq_2, decide_eq_true hkc, decide_eq_true hk]
        simp only [cond_true]
        have e : IntKind.wrap .u64 ((1 : Int) * (2 : Int) ^ (min (Int.toNat (j : Int)) 64)) = ((2 ^ j : Nat) : Int) := by
          rw [Int.toNat_natCast, Nat.min_eq_left (by omega), Int.one_mul, show ((2 : Int) ^ j) = ((2 ^ j : Nat) : Int) by simp]
          exact wrap_u64 _ p1
        rw [e, ib_or B (2 ^ j) hB p1, w, r2 _ (Nat.or_lt_two_pow hB p1), Nat.or_assoc]
      · rw [Nat.testBit_or, Bool.or_eq_true, r3 i, Nat.testBit_two_pow]
        simp only [decide_eq_true_eq]
        omega
    · refine ⟨0, by decide, fun B hB => ?_, fun i => ?_⟩
      · rw [cron_field_l1.eq_2, decide_eq_false hkc]
        simp
      · rw [Nat.zero_testBit]
        constructor
        · intro q; cases q
        · intro q; omega
theorem item_word (i : Nat) (n e : Nat) (hn : n < 60) (he : e < 60) (hne : n ≤ e) (h0 : loF i ≤ (n : Int)) (h1 : (e : Int) ≤ hiF i) :
    ∃ R, itemO (i : Int) (loF i) (hiF i) (word n e) = .good R ∧ R < 2 ^ 64 ∧ ∀ j : Nat, R.testBit j = true ↔ n ≤ j ∧ j ≤ e := by
  obtain ⟨R, r1, r2, r3⟩ := range_one 4000000 ((⟨(n : Int), (e : Int), 1⟩ : cron_item), true) (e : Int) (by omega) rfl 4000000 (n : Int) (by omega) (by omega) (by omega)
  have hns : ¬ (word n e = [42] ∧ (i : Int) = 4) := fun q => by
    have := (word_no n e hn he).2.2.1
    rw [q.1] at this; simp at this
  refine ⟨R, ?_, r1, fun j => by rw [r3 j]; omega⟩
  unfold itemO
  rw [read_word n e hn he hne]
  simp only [Bool.true_eq_false, if_false]
  rw [if_neg (by omega), if_neg hns]
  have := r2 0 (by decide)
  rw [show ((0 : Nat) : Int) = 0 from rfl] at this
  rw [this]
  simp
def cov (b p i : Nat) : Prop := ∃ s, p ≤ s ∧ s ≤ i ∧ start b s = true ∧ ∀ j, s ≤ j → j ≤ i → b.testBit j = true
theorem cov_zero (b i : Nat) : cov b 0 i ↔ b.testBit i = true := by
  constructor
  · rintro ⟨s, _, h1, _, h2⟩; exact h2 i h1 (Nat.le_refl _)
  · induction i with
    | zero =>
      intro h
      refine ⟨0, Nat.le_refl _, Nat.le_refl _, by unfold start; rw [h]; rfl, fun j _ hj => ?_⟩
      have : j = 0 := by omega
      subst this; exact h
    | succ i ih =>
      intro h
      cases hq : b.testBit i
      · refine ⟨i + 1, Nat.zero_le _, Nat.le_refl _, ?_, fun j h1 h2 => ?_⟩
        · unfold start; rw [h, show i + 1 - 1 = i by omega, hq]; simp
        · have : j = i + 1 := by omega
          subst this; exact h
      · obtain ⟨s, h1, h2, h3, h4⟩ := ih hq
        refine ⟨s, h1, by omega, h3, fun j h5 h6 => ?_⟩
        by_cases hj : j = i + 1
        · subst hj; exact h
        · exact h4 j h5 (by omega)
theorem fold_runs (i b : Nat) (hb : b < 2 ^ 60) (hlo : ∀ j, b.testBit j = true → loF i ≤ (j : Int) ∧ (j : Int) ≤ hiF i) {p : Nat} {L : List (List UInt8)} (h : WL b p L) :
    ∀ acc : Nat, acc < 2 ^ 64 → ∃ s : Nat, s < 2 ^ 64 ∧ foldO (L.map (itemO (i : Int) (loF i) (hiF i))) (acc, 0) = some (s, 0) ∧ ∀ j, s.testBit j = true ↔ acc.testBit j = true ∨ cov b p j := by
  have hbig : ∀ i, 60 ≤ i → b.testBit i = false := fun i hi => Nat.testBit_lt_two_pow (Nat.lt_of_lt_of_le hb (Nat.pow_le_pow_right (by decide) hi))
  induction h with
  | done p hd =>
    intro acc ha
    refine ⟨acc, ha, rfl, fun j => ⟨.inl, fun q => ?_⟩⟩
    rcases q with q | ⟨s, h1, _, h3, _⟩
    · exact q
    · rw [hd s h1] at h3; cases h3
  | cons p n e L h1 h2 h3 h4 h5 ih =>
    intro acc ha
    have hbn : b.testBit n = true := by
      unfold start at h3
      simp only [Bool.and_eq_true] at h3; exact h3.1
    have hbe : b.testBit e = true := by
      by_cases hne : e = n
      · rw [hne]; exact hbn
      · exact h4.2.1 e (by have := h4.1; omega) (Nat.le_refl _)
    have hn60 : n < 60 := by
      apply Classical.byContradiction
      intro q; rw [hbig n (by omega)] at hbn; cases hbn
    have he60 : e < 60 := by
      apply Classical.byContradiction
      intro q; rw [hbig e (by omega)] at hbe; cases hbe
    obtain ⟨R, hR, hRl, hRb⟩ := item_word i n e hn60 he60 h4.1 (hlo n hbn).1 (hlo e hbe).2
    obtain ⟨s, hs, hf, hsb⟩ := ih (acc ||| R) (Nat.or_lt_two_pow ha hRl)
    refine ⟨s, hs, ?_, fun j => ?_⟩
    · rw [List.map_cons, hR]; exact hf
    · rw [hsb j, Nat.testBit_or, Bool.or_eq_true, hRb j]
      constructor
      · rintro ((q | q) | ⟨s, q1, q2, q3, q4⟩)
        · exact .inl q
        · refine .inr ⟨n, h1, q.1, h3, fun k k1 k2 => ?_⟩
          by_cases hk : k = n
          · subst hk; exact hbn
          · exact h4.2.1 k (by omega) (by omega)
        · exact .inr ⟨s, by omega, q2, q3, q4⟩
      · rintro (q | ⟨s, q1, q2, q3, q4⟩)
        · exact .inl (.inl q)
        · by_cases hsn : s = n
          · subst hsn
            refine .inl (.inr ⟨q2, ?_⟩)
            apply Classical.byContradiction
            intro r
            have := q4 (e + 1) (by have := h4.1; omega) (by omega)
            rw [h4.2.2] at this; cases this
          · refine .inr ⟨s, ?_, q2, q3, q4⟩
            apply Classical.byContradiction
            intro r
            rw [h2 s q1 (by omega)] at q3; cases q3
theorem bit_okF (i b : Nat) (hi : i < 5) (hb : b < 2 ^ 64) (h : okF (b : Int) ((fullN i : Nat) : Int) = true) : b ≠ 0 ∧ (∀ j, b.testBit j = true → loF i ≤ (j : Int) ∧ (j : Int) ≤ hiF i ∧ (i = 4 → j ≤ 6)) ∧ b < 2 ^ 60 := by
  have hf60 : fullN i < 2 ^ 60 := by unfold fullN; (repeat' split) <;> decide
  have hb60 := okF_lt b (fullN i) hb hf60 h
  have h := (okF_nat b (fullN i) hb (Nat.lt_trans hf60 (by decide))).1 h
  refine ⟨h.1, fun j hj => ?_, hb60⟩
  have hj60 : j < 60 := by
    apply Classical.byContradiction
    intro q; rw [Nat.testBit_lt_two_pow (Nat.lt_of_lt_of_le hb60 (Nat.pow_le_pow_right (by decide) (by omega)))] at hj; cases hj
  have hall : ((List.range 5).all fun n => (List.range 60).all fun i => !(fullN n).testBit i || (decide (loF n ≤ (i : Int)) && decide ((i : Int) ≤ hiF n) && (n != 4 || decide (i ≤ 6)))) = true := by decide +kernel
  have := List.all_eq_true.1 (List.all_eq_true.1 hall i (List.mem_range.2 hi)) j (List.mem_range.2 hj60)
  rw [h.2 j hj] at this
  simp only [Bool.not_true, Bool.false_or, Bool.and_eq_true, decide_eq_true_eq, Bool.or_eq_true] at this
  refine ⟨this.1.1, this.1.2, fun h4 => ?_⟩
  rcases this.2 with q | q
  · rw [h4] at q; cases q
  · exact q
/-- a field's text: short, without blanks, and read as it was -/
def costF (i : Nat) : Nat := if i = 0 then 114 else if i = 1 then 42 else if i = 2 then 58 else if i = 3 then 20 else 9
theorem field_text (i b : Nat) (hi : i < 5) (hb : b < 2 ^ 64) (h : okF (b : Int) ((fullN i : Nat) : Int) = true) :
    ∃ t, cron_runs 4000000 (b : Int) = some t ∧ t ≠ [] ∧ t.length ≤ costF i ∧ (∀ c, c ∈ t → blankB c = false) ∧ t ≠ [42] ∧ FR i t b := by
  obtain ⟨h0, hbit, hb60⟩ := bit_okF i b hi hb h
  obtain ⟨L, hL, hW⟩ := code_loop b hb60 4000000 0 b [] hb60 (fun i => by simp) (.inl rfl) (by decide) (by omega) (by simp)
  have hLne : L ≠ [] := by
    intro e
    subst e
    cases hW with
    | done _ hd =>
      apply h0
      apply Nat.eq_of_testBit_eq
      intro j
      rw [Nat.zero_testBit]
      cases hq : b.testBit j
      · rfl
      · obtain ⟨s, _, _, h3, _⟩ := (cov_zero b j).2 hq
        rw [hd s (Nat.zero_le _)] at h3; cases h3
  have hw : ∀ w, w ∈ L → ∃ n e, w = word n e ∧ n < 60 ∧ e < 60 := by
    have : ∀ {p L}, WL b p L → ∀ w, w ∈ L → ∃ n e, w = word n e ∧ n < 60 ∧ e < 60 := by
      intro p L hW
      have hbig : ∀ i, 60 ≤ i → b.testBit i = false := fun i hi => Nat.testBit_lt_two_pow (Nat.lt_of_lt_of_le hb60 (Nat.pow_le_pow_right (by decide) hi))
      induction hW with
      | done => intro w hw; cases hw
      | cons p n e L h1 h2 h3 h4 h5 ih =>
        intro w hw
        rcases List.mem_cons.1 hw with rfl | hw
        · refine ⟨n, e, rfl, ?_, ?_⟩
          · apply Classical.byContradiction
            intro q
            unfold start at h3
            rw [hbig n (by omega)] at h3; cases h3
          · apply Classical.byContradiction
            intro q
            by_cases hne : e = n
            · unfold start at h3
              rw [hbig n (by omega)] at h3; cases h3
            · have := h4.2.1 e (by have := h4.1; omega) (Nat.le_refl _)
              rw [hbig e (by omega)] at this; cases this
        · exact ih w hw
    exact this hW
  have hjn : ∀ c, c ∈ Lib.join L [44] → c = 44 ∨ ∃ w, w ∈ L ∧ c ∈ w := by
    intro c hc
    cases L with
    | nil => simp [Lib.join_nil] at hc
    | cons w L =>
      rw [Lib.join_cons, List.mem_append] at hc
      rcases hc with hc | hc
      · exact .inr ⟨w, List.mem_cons_self, hc⟩
      · simp only [Lib.joinTail, List.mem_flatten, List.mem_map] at hc
        obtain ⟨l, ⟨x, hx, rfl⟩, hc⟩ := hc
        rcases List.mem_append.1 hc with hc | hc
        · exact .inl (by simpa using hc)
        · exact .inr ⟨x, List.mem_cons_of_mem _ hx, hc⟩
  have hM : ∃ M, b < 2 ^ (M + 1) ∧ sumC (M + 2) 0 ≤ 3 * costF i + 5 := by
    have h5 : i = 0 ∨ i = 1 ∨ i = 2 ∨ i = 3 ∨ i = 4 := by omega
    rcases h5 with rfl | rfl | rfl | rfl | rfl
    · exact ⟨59, Nat.lt_pow_two_of_testBit _ fun j hj => by
        cases hq : b.testBit j
        · rfl
        · have := (hbit j hq).2.1; unfold hiF at this; simp at this; omega, by decide⟩
    · exact ⟨23, Nat.lt_pow_two_of_testBit _ fun j hj => by
        cases hq : b.testBit j
        · rfl
        · have := (hbit j hq).2.1; unfold hiF at this; simp at this; omega, by decide⟩
    · exact ⟨31, Nat.lt_pow_two_of_testBit _ fun j hj => by
        cases hq : b.testBit j
        · rfl
        · have := (hbit j hq).2.1; unfold hiF at this; simp at this; omega, by decide⟩
    · exact ⟨12, Nat.lt_pow_two_of_testBit _ fun j hj => by
        cases hq : b.testBit j
        · rfl
        · have := (hbit j hq).2.1; unfold hiF at this; simp at this; omega, by decide⟩
    · exact ⟨6, Nat.lt_pow_two_of_testBit _ fun j hj => by
        cases hq : b.testBit j
        · rfl
        · have := (hbit j hq).2.2 rfl; omega, by decide⟩
  obtain ⟨M, hM1, hM2⟩ := hM
  have hcost := hW.cost M hM1 (Nat.zero_le _)
  rw [Nat.sub_zero] at hcost
  have hlen := join_lens L hLne
  have hcF : costF i ≤ 114 := by unfold costF; (repeat' split) <;> decide
  have hlt : (Lib.join L [44]).length ≤ costF i := by omega
  have h44 : ∀ w, w ∈ L → 44 ∉ w := fun w hwL => by
    obtain ⟨n, e, rfl, hn, he⟩ := hw w hwL
    exact (word_no n e hn he).2.1
  refine ⟨Lib.join L [44], ?_, ?_, hlt, ?_, ?_, ?_⟩
  · unfold cron_runs strings_Join
    rw [hL, List.nil_append, Option.bind_some, decide_eq_true (show (Lib.join L [44]).length ≤ 140737488355328 by omega)]; rfl
  · intro q
    rw [q] at hlen
    cases L with
    | nil => exact hLne rfl
    | cons w L =>
      obtain ⟨n, e, rfl, hn, he⟩ := hw w List.mem_cons_self
      have := (word_len n e).1
      simp [lens] at hlen
      omega
  · intro c hc
    rcases hjn c hc with rfl | ⟨w, hwL, hcw⟩
    · decide
    · obtain ⟨n, e, rfl, hn, he⟩ := hw w hwL
      exact (word_no n e hn he).2.2.2 c hcw
  · intro q
    rcases hjn 42 (by rw [q]; simp) with h | ⟨w, hwL, hcw⟩
    · cases h
    · obtain ⟨n, e, rfl, hn, he⟩ := hw w hwL
      exact (word_no n e hn he).2.2.1 hcw
  · obtain ⟨s, hs, hf, hsb⟩ := fold_runs i b hb60 (fun j hj => ⟨(hbit j hj).1, (hbit j hj).2.1⟩) hW 0 (by decide)
    have hsb' : s = b := by
      apply Nat.eq_of_testBit_eq
      intro j
      have := hsb j
      rw [Nat.zero_testBit, cov_zero] at this
      rw [Bool.eq_iff_iff, this]; simp
    subst hsb'
    have hfo : fieldO i (Lib.join L [44]) = some (s, 0) := by
      unfold fieldO
      rw [split_join L hLne h44]; exact hf
    unfold FR
    rw [field_eq i hi _ (by omega), hfo]
    have : postF i s = s := by
      unfold postF
      rw [if_neg]
      rintro ⟨h4, q⟩
      have : s < 2 ^ 7 := Nat.lt_pow_two_of_testBit _ fun j hj => by
        cases hq : s.testBit j
        · rfl
        · have := (hbit j hq).2.2 h4; omega
      omega
    simp only [this]
theorem star0 : FR 0 [42] 1152921504606846975 := by unfold FR; kernel_rfl
theorem star1 : FR 1 [42] 16777215 := by unfold FR; kernel_rfl
theorem star3 : FR 3 [42] 8190 := by unfold FR; kernel_rfl
theorem starI (i : Nat) (hi : i < 5) : FR i [42] (fullN i) := by
  have h5 : i = 0 ∨ i = 1 ∨ i = 2 ∨ i = 3 ∨ i = 4 := by omega
  rcases h5 with rfl | rfl | rfl | rfl | rfl
  · exact star0
  · exact star1
  · exact star2
  · exact star3
  · exact star4
/-- a field, printed -/
theorem field_print (i b : Nat) (hi : i < 5) (hb : b < 2 ^ 64) (h : okF (b : Int) ((fullN i : Nat) : Int) = true) (star : Bool) (hs : star = true → b = fullN i) :
    ∃ t, (bif star then some ([42] : List UInt8) else cron_runs 4000000 (b : Int)) = some t ∧ t ≠ [] ∧ t.length ≤ costF i ∧ (∀ c, c ∈ t → blankB c = false) ∧ ((t == [42]) = star) ∧ FR i t b := by
  cases star with
  | true =>
    refine ⟨[42], rfl, by simp, by unfold costF; (repeat' split) <;> decide, fun c hc => by simp at hc; subst hc; decide, by decide, ?_⟩
    rw [hs rfl]; exact starI i hi
  | false =>
    obtain ⟨t, h1, h2, h3, h4, h5, h6⟩ := field_text i b hi hb h
    exact ⟨t, h1, h2, h3, h4, by simpa using h5, h6⟩
theorem print_read (a1 a2 a3 a4 a5 : Nat) (ad aw : Bool) (l1 : a1 < 2 ^ 64) (l2 : a2 < 2 ^ 64) (l3 : a3 < 2 ^ 64) (l4 : a4 < 2 ^ 64) (l5 : a5 < 2 ^ 64) (h1 : chkB ⟨a1, a2, a3, a4, a5, ad, aw⟩ = true) :
    ∃ t, cron_Print 4000000 ⟨a1, a2, a3, a4, a5, ad, aw⟩ = some (t, 0) ∧ cron_Parse 4000000 t = some (⟨a1, a2, a3, a4, a5, ad, aw⟩, 0, 0) := by
  have hk := check_eq 3999994 ⟨a1, a2, a3, a4, a5, ad, aw⟩
  simp only [show 3999994 + 6 = 4000000 from rfl] at hk
  have h1' := h1
  simp only [chkB, Bool.and_eq_true] at h1
  obtain ⟨⟨⟨⟨⟨⟨k1, k2⟩, k3⟩, k4⟩, k5⟩, k6⟩, k7⟩ := h1
  obtain ⟨t1, u1, n1, c1, d1, s1, f1⟩ := field_print 0 a1 (by decide) l1 k1 ((a1 : Int) == 1152921504606846975) (fun q => by have := beq_iff_eq.1 q; show a1 = 1152921504606846975; omega)
  obtain ⟨t2, u2, n2, c2, d2, s2, f2⟩ := field_print 1 a2 (by decide) l2 k2 ((a2 : Int) == 16777215) (fun q => by have := beq_iff_eq.1 q; show a2 = 16777215; omega)
  obtain ⟨t3, u3, n3, c3, d3, s3, f3⟩ := field_print 2 a3 (by decide) l3 k3 ad (fun q => by
    subst q
    have : ((a3 : Int) == 4294967294) = true := by simpa using k6
    have := beq_iff_eq.1 this; show a3 = 4294967294; omega)
  obtain ⟨t4, u4, n4, c4, d4, s4, f4⟩ := field_print 3 a4 (by decide) l4 k4 ((a4 : Int) == 8190) (fun q => by have := beq_iff_eq.1 q; show a4 = 8190; omega)
  obtain ⟨t5, u5, n5, c5, d5, s5, f5⟩ := field_print 4 a5 (by decide) l5 k5 aw (fun q => by
    subst q
    have : ((a5 : Int) == 127) = true := by simpa using k7
    have := beq_iff_eq.1 this; show a5 = 127; omega)
  let A : A_5_uint64 := ⟨a1, a2, a3, a4, a5⟩
  let C : api_Cron := ⟨a1, a2, a3, a4, a5, ad, aw⟩
  have r1 := print_step C 3999999 A 0 a1 _ _ [] t1 (by decide) (by decide) (full0 _) rfl rfl u1 (by simp)
  have r2 := print_step C 3999998 A 1 a2 _ _ [t1] t2 (by decide) (by decide) (full1 _) rfl rfl u2 (by simp)
  have r3 := print_step C 3999997 A 2 a3 _ _ [t1, t2] t3 (by decide) (by decide) (full2 _) rfl rfl u3 (by simp)
  have r4 := print_step C 3999996 A 3 a4 _ _ [t1, t2, t3] t4 (by decide) (by decide) (full3 _) rfl rfl u4 (by simp)
  have r5 := print_step C 3999995 A 4 a5 _ _ [t1, t2, t3, t4] t5 (by decide) (by decide) (full4 _) rfl rfl u5 (by simp)
  have r6 : cron_Print_l0 4000000 C A (3999994 + 1) 5 [t1, t2, t3, t4, t5] = some [t1, t2, t3, t4, t5] := by
    rw [cron_Print_l0.eq_2]; rfl
  have hS : cron_Print_l0 4000000 C A 4000000 0 [] = some [t1, t2, t3, t4, t5] := by
    refine r1.trans ?_
    refine r2.trans ?_
    refine r3.trans ?_
    refine r4.trans ?_
    exact r5.trans r6
  have hj : Lib.join [t1, t2, t3, t4, t5] [32] = t1 ++ ([32] ++ (t2 ++ ([32] ++ (t3 ++ ([32] ++ (t4 ++ ([32] ++ t5))))))) := by
    rw [Lib.join_cons]
    simp [Lib.joinTail]
  have q1 : costF 0 = 114 := rfl
  have q2 : costF 1 = 42 := rfl
  have q3 : costF 2 = 58 := rfl
  have q4 : costF 3 = 20 := rfl
  have q5 : costF 4 = 9 := rfl
  have hjl : (Lib.join [t1, t2, t3, t4, t5] [32]).length ≤ 256 := by
    rw [hj]; simp only [List.length_append, List.length_cons, List.length_nil]; omega
  refine ⟨Lib.join [t1, t2, t3, t4, t5] [32], ?_, ?_⟩
  · unfold cron_Print
    rw [hk, h1', Option.bind_some]
    simp only [Bool.not_true, cond_false, cron_fields, Option.bind_some]
    rw [hS, Option.bind_some]
    unfold strings_Join
    rw [decide_eq_true (show (Lib.join [t1, t2, t3, t4, t5] [32]).length ≤ 140737488355328 by omega)]; rfl
  · have hw := words_join [t1, t2, t3, t4, t5] (fun w hw => by
      simp only [List.mem_cons, List.mem_nil_iff, or_false] at hw
      rcases hw with rfl | rfl | rfl | rfl | rfl
      · exact ⟨n1, d1⟩
      · exact ⟨n2, d2⟩
      · exact ⟨n3, d3⟩
      · exact ⟨n4, d4⟩
      · exact ⟨n5, d5⟩)
    rw [parse_mk _ hjl t1 t2 t3 t4 t5 hw a1 a2 a3 a4 a5 f1 f2 f3 f4 f5, s3, s5]
theorem CronBack_true (c : api_Cron) (text : List UInt8) (hc : api_Cron.ok 1048576 c) : matinslaw06_CronBack 4000000 c text = some true := by
  unfold matinslaw06_CronBack
  rw [awake_ok, Option.bind_some]
  simp only [Bool.not_true, cond_false]
  have hk := check_eq 3999994 c
  simp only [show 3999994 + 6 = 4000000 from rfl] at hk
  have first : ∃ y, cron_Print 4000000 c = some y ∧ (y.2 = 0 → cron_Parse 4000000 y.1 = some (c, 0, 0)) := by
    cases h1 : chkB c
    · refine ⟨([], 1), ?_, fun q => by cases q⟩
      unfold cron_Print
      rw [hk, h1]; rfl
    · obtain ⟨mi, ho, da, mo, we, ad, aw⟩ := c
      obtain ⟨c1, c2, c3, c4, c5, -⟩ := hc
      have p1 := okI_u64 c1
      have p2 := okI_u64 c2
      have p3 := okI_u64 c3
      have p4 := okI_u64 c4
      have p5 := okI_u64 c5
      obtain ⟨a1, rfl⟩ := Int.eq_ofNat_of_zero_le p1.1
      obtain ⟨a2, rfl⟩ := Int.eq_ofNat_of_zero_le p2.1
      obtain ⟨a3, rfl⟩ := Int.eq_ofNat_of_zero_le p3.1
      obtain ⟨a4, rfl⟩ := Int.eq_ofNat_of_zero_le p4.1
      obtain ⟨a5, rfl⟩ := Int.eq_ofNat_of_zero_le p5.1
      have l1 : a1 < 2 ^ 64 := by have := p1.2; simp only at this; omega
      have l2 : a2 < 2 ^ 64 := by have := p2.2; simp only at this; omega
      have l3 : a3 < 2 ^ 64 := by have := p3.2; simp only at this; omega
      have l4 : a4 < 2 ^ 64 := by have := p4.2; simp only at this; omega
      have l5 : a5 < 2 ^ 64 := by have := p5.2; simp only at this; omega
      obtain ⟨t, h2, h3⟩ := print_read a1 a2 a3 a4 a5 ad aw l1 l2 l3 l4 l5 h1
      exact ⟨_, h2, fun _ => h3⟩
  obtain ⟨y, hy, hp⟩ := first
  rw [hy, Option.bind_some]
  have one : (bif (y.2 == (0 : Int)) then (Option.bind (cron_Parse 4000000 y.1) fun y_4 => (Option.bind (bif (!((y_4.1.Minute == c.Minute) && ((y_4.1.Hour == c.Hour) && ((y_4.1.Day == c.Day) && ((y_4.1.Month == c.Month) && ((y_4.1.Week == c.Week) && ((y_4.1.AnyDay == c.AnyDay) && ((y_4.1.AnyWeek == c.AnyWeek) && true)))))))) then some true else (bif (y_4.2.1 != (0 : Int)) then some true else some (y_4.2.2 != (0 : Int)))) fun t43_5 => (bif t43_5 then some (Sum.inl false : Bool ⊕ Unit) else some (Sum.inr ())))) else some (Sum.inr ())) = some (Sum.inr ()) := by
    by_cases h0 : y.2 = 0
    · rw [show (y.2 == 0) = true by simpa using h0, cond_true, hp h0]
      simp
    · rw [show (y.2 == 0) = false by simpa using h0]; rfl
  rw [one, Option.bind_some]
  simp only [Sum.elim_inr]
  obtain ⟨r, hr, hz, _, hok⟩ := parse_ex text
  rw [hr, Option.bind_some]
  by_cases he : r.2.2 = 0
  · obtain ⟨hl, w0, w1, w2, w3, w4, b0, b1, b2, b3, b4, hw, f0, f1, f2, f3, f4⟩ := hok he
    have R := hr.symm.trans (parse_mk _ hl _ _ _ _ _ hw b0 b1 b2 b3 b4 f0 f1 f2 f3 f4)
    injection R with R
    subst R
    have lx := (wordsA_len text []).1
    rw [hw] at lx
    have hlx : ∀ p, p ∈ [w0, w1, w2, w3, w4] → p.length ≤ 900 := fun p hp => by have := lx p hp; simp at this; omega
    have kx := read_chk _ _ _ _ _ hlx b0 b1 b2 b3 b4 f0 f1 f2 f3 f4
    obtain ⟨t, h2, h3⟩ := print_read b0 b1 b2 b3 b4 _ _ (f0.okF (by decide) (hlx _ (by simp))).1 (f1.okF (by decide) (hlx _ (by simp))).1 (f2.okF (by decide) (hlx _ (by simp))).1 (f3.okF (by decide) (hlx _ (by simp))).1 (f4.okF (by decide) (hlx _ (by simp))).1 kx
    have hk2 := check_eq 3999994 ⟨b0, b1, b2, b3, b4, w2 == [42], w4 == [42]⟩
    simp only [show 3999994 + 6 = 4000000 from rfl] at hk2
    simp only [bne_self_eq_false, cond_false, h2, h3, hk2, kx, Option.bind_some, cond_true, beq_self_eq_true, Bool.and_true]
  · rw [show (r.2.2 != 0) = true by simpa using he, hz he]; rfl
end Go.T
