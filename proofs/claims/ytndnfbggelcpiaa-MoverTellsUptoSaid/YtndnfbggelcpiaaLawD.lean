/-
  LawD: the order that goes out next.
-/
import Derived.Test.YtndnfbggelcpiaaLawC
namespace Go.T
open Go Go.Ab

theorem plan_facts {F : Nat} {a : api_Atlas} (ha : api_Atlas.ok 1048576 a) (hF : 1048577 ≤ F) (h : matinsref19_Check F a = some true) (hk : a.Plan.Kind ≠ 0) :
    a.Plan.Kind = 1 ∨ a.Plan.Kind = 2 ∨ (a.Plan.Kind = 3 ∧ ∃ (j : Nat) (hj : j + 1 < a.Spans.length), plc a.Spans a.Plan.Shard = j ∧ a.Spans[j + 1].Shard = a.Plan.Other) := by
  have hs : a.Spans.length ≤ 1048576 := ha.2.2.1.1
  unfold matinsref19_Check at h
  obtain ⟨y, hy, h⟩ := bind_e h
  have hz : ((a.Plan.Kind == (0 : Int)) && ((a.Plan.Phase == (0 : Int)) && ((a.Plan.Shard == (0 : Int)) && ((a.Plan.Other == (0 : Int)) && ((a.Plan.Group == (0 : Int)) && ((a.Plan.Past == (0 : Int)) && ((a.Plan.Epoch == (0 : Int)) && ((a.Plan.Key == ([] : List UInt8)) && true)))))))) = false := by
    have : (a.Plan.Kind == 0) = false := by simpa using hk
    rw [this]; rfl
  cases y with
  | false => cases h
  | true =>
    simp only [Bool.not_true, cond_false, hz, ref19_Place_ok hs hF, Option.bind_some] at h
    by_cases k1 : a.Plan.Kind = 1
    · exact .inl k1
    by_cases k2 : a.Plan.Kind = 2
    · exact .inr (.inl k2)
    right; right
    rcases plc_spec a.Spans a.Plan.Shard with ⟨j, hj, _, _, hp⟩ | ⟨_, hp⟩
    rotate_left
    · rw [hp] at h; cases h
    rw [hp] at h
    by_cases k3 : a.Plan.Kind = 3
    rotate_left
    · exfalso
      have zr : (bif decide ((j : Int) < 0) then some true else bif decide (a.Plan.Kind < 1) then some true else bif decide (3 < a.Plan.Kind) then some true else
          bif decide (a.Plan.Epoch < 1) then some true else some (decide (1099511627774 < a.Plan.Epoch))) = some true := by
        have : a.Plan.Kind < 1 ∨ 3 < a.Plan.Kind := by omega
        rw [decide_eq_false (show ¬ (j : Int) < 0 by omega)]
        rcases this with k | k
        · rw [decide_eq_true k]; rfl
        · rw [decide_eq_true k, decide_eq_false (show ¬ a.Plan.Kind < 1 by omega)]; rfl
      rw [zr] at h
      cases h
    refine ⟨k3, j, ?_⟩
    have e1 : decide ((j : Int) < 0) = false := decide_eq_false (by omega)
    have e2 : decide ((0 : Int) ≤ (j : Int)) = true := decide_eq_true (by omega)
    have e3 : IntKind.wrap IntKind.i64 ((j : Int) + 1) = ((j + 1 : Nat) : Int) := by rw [wrap_id (by omega) (by omega)]; omega
    have e4 : decide ((0 : Int) ≤ ((j + 1 : Nat) : Int)) = true := decide_eq_true (by omega)
    simp only [e1, e2, e3, e4, cond_true, cond_false, Int.toNat_natCast, List.getElem?_eq_getElem hj, Option.bind_some, k3] at h
    obtain ⟨y, hy, h⟩ := bind_e h
    cases y with
    | true => cases h
    | false =>
      simp only [cond_false] at h
      obtain ⟨y2, hy2, h⟩ := bind_e h
      cases y2 with
      | true => cases h
      | false =>
        have hb2 : ((3 : Int) == 2) = false := rfl
        have hb1 : ((3 : Int) == 1) = false := rfl
        simp only [cond_false, hb2] at h
        cases hk : (a.Plan.Key == ([] : List UInt8)) with
        | false => rw [hk] at h; cases h
        | true =>
          rw [hk, cond_true] at h
          by_cases hl : j + 1 < a.Spans.length
          · refine ⟨hl, hp, ?_⟩
            have : decide (((j + 1 : Nat) : Int) < ((a.Spans.length : Nat) : Int)) = true := decide_eq_true (by omega)
            rw [this, cond_true, List.getElem?_eq_getElem hl] at h
            simp only [Option.bind_some] at h
            cases hq : (a.Spans[j + 1].Shard == a.Plan.Other) with
            | false => rw [hq] at h; cases h
            | true => simpa using hq
          · have : decide (((j + 1 : Nat) : Int) < ((a.Spans.length : Nat) : Int)) = false := decide_eq_false (by omega)
            rw [this] at h; cases h

theorem Clone_Job_ok {F : Nat} {l : List api_Job} (h : l.length ≤ 1048576) : slices_Clone___api_Job_api_Job_ F l = some l := by
  unfold slices_Clone___api_Job_api_Job_
  rw [decide_eq_true (show l.length ≤ LIM by unfold LIM; omega)]; rfl
theorem Clone_Seen_ok {F : Nat} {l : List api_Seen} (h : l.length ≤ 1048576) : slices_Clone___api_Seen_api_Seen_ F l = some l := by
  unfold slices_Clone___api_Seen_api_Seen_
  rw [decide_eq_true (show l.length ≤ LIM by unfold LIM; omega)]; rfl

theorem moving_loop {F : Nat} {l : List api_Seen} (hl : l.length ≤ 1048576) (hj : ∀ y, y ∈ l → y.Result.Jobs.length ≤ 1048576) :
    ∀ n (i : Nat), l.length - i < n → mover_moving_l0 F l n (i : Int) l = some l := by
  intro n
  induction n with
  | zero => intro i h; omega
  | succ n ih =>
    intro i h
    simp only [mover_moving_l0]
    by_cases hi : i < l.length
    · have f1 : decide ((i : Int) < ((l.length : Nat) : Int)) = true := decide_eq_true (by omega)
      have f2 : decide ((0 : Int) ≤ (i : Int)) = true := decide_eq_true (by omega)
      have f4 : IntKind.wrap IntKind.i64 ((i : Int) + 1) = ((i + 1 : Nat) : Int) := by rw [wrap_id (by omega) (by omega)]; omega
      simp only [f1, f2, f4, cond_true, Int.toNat_natCast, List.getElem?_eq_getElem hi, Option.bind_some, Clone_Job_ok (hj _ (List.getElem_mem hi))]
      have e : l.set i ⟨l[i].Client, l[i].Seq, ⟨l[i].Result.Err, l[i].Result.Time, l[i].Result.Jobs⟩⟩ = l := List.set_getElem_self hi
      rw [e]
      exact ih (i + 1) (by omega)
    · have f1 : decide ((i : Int) < ((l.length : Nat) : Int)) = false := decide_eq_false (by omega)
      rw [f1]; rfl

theorem has_same {F : Nat} (p : api_Plan) (h : api_Shard) : ∃ b, mover_has F p h = some b ∧ matinsref20_Has F p h = some b := by
  unfold mover_has matinsref20_Has
  cases (h.Id == p.Shard) <;> exact ⟨_, rfl, rfl⟩

theorem find_other {F : Nat} {a : api_Atlas} (hs : a.Spans.length ≤ 1048576) (hF : 1048577 ≤ F) : slices_IndexFunc___api_Span_api_Span__i1 F a.Spans a.Plan = some (plc a.Spans a.Plan.Other) := by
  have hl := findLoop (fun n i => slices_IndexFunc___api_Span_api_Span__i1_l0 F a.Spans a.Plan n i) a.Spans.length (at_sh a.Spans a.Plan.Other)
    (fun n i hi => by
      simp only [slices_IndexFunc___api_Span_api_Span__i1_l0, mover_Next_1]
      have e1 : (decide ((i : Int) < ((List.length a.Spans : Nat) : Int))) = true := by simp [hi]
      have e2 : decide ((0 : Int) ≤ (i : Int)) = true := by simp
      simp only [e1, e2, cond_true, Int.toNat_natCast, List.getElem?_eq_getElem hi, Option.bind_some]
      rw [wrap_id (by omega) (by omega)]
      rw [at_sh_lt hi])
    (fun n i hi => by
      simp only [slices_IndexFunc___api_Span_api_Span__i1_l0]
      have e1 : (decide ((i : Int) < ((List.length a.Spans : Nat) : Int))) = false := by simp; omega
      simp only [e1, cond_false]) F 0 (by omega)
  unfold slices_IndexFunc___api_Span_api_Span__i1
  simp only [Int.natCast_zero] at hl
  rcases hl with ⟨j, _, h2, h3, h4, h5⟩ | ⟨h3, h5⟩
  · rw [h5, plc_unique h2 (by rw [at_sh_lt h2] at h3; simpa using h3) (fun i hi e => by have := h4 i (Nat.zero_le _) hi; rw [at_sh_lt (by omega)] at this; simp [e] at this)]; rfl
  · rw [h5, plc_none (fun i hi e => by have := h3 i (Nat.zero_le _) hi; rw [at_sh_lt hi] at this; simp [e] at this)]; rfl

theorem Next_same {F : Nat} {a : api_Atlas} {h : api_Shard} (ha : api_Atlas.ok 1048576 a) (hh : api_Shard.ok 1048576 h) (hF : 1048577 ≤ F) :
    ∃ y, mover_Next F a h = some y ∧ matinsref20_Next F a h = some y := by
  have hs : a.Spans.length ≤ 1048576 := ha.2.2.1.1
  obtain ⟨b, hc1, hc2, hS⟩ := Check_same ha hF
  unfold mover_Next matinsref20_Next
  simp only [hc1, hc2, Option.bind_some]
  cases b with
  | false => exact ⟨_, rfl, rfl⟩
  | true =>
    simp only [Bool.not_true, cond_false, Option.bind_some]
    by_cases k0 : a.Plan.Kind = 0
    · rw [k0]; exact ⟨_, rfl, rfl⟩
    have hk0 : (a.Plan.Kind == 0) = false := by simpa using k0
    simp only [hk0, cond_false]
    obtain ⟨hb, h1, h2⟩ := has_same (F := F) a.Plan h
    simp only [h1, h2, mover_thawing, mover_moving, Option.bind_some]
    have hsn := hS rfl
    rcases plan_facts ha hF hc2 k0 with k | k | ⟨k, j, hj, hp, ho⟩
    · rw [k]
      by_cases p9 : a.Plan.Phase = 9
      · rw [p9]
        generalize (h.State != 4) = q
        cases hb <;> cases q <;> exact ⟨_, rfl, rfl⟩
      by_cases p1 : a.Plan.Phase = 1
      · rw [p1]
        have hc3 := Clone_Job_ok (F := F) (l := h.Jobs) hh.2.2.2.2.2.1.1
        have hc4 := Clone_Seen_ok (F := F) (l := h.Seen) hh.2.2.2.2.2.2.1.1
        have hlp := moving_loop (F := F) (l := h.Seen) hh.2.2.2.2.2.2.1.1 (fun y hy => (hh.2.2.2.2.2.2.1.2 y hy).2.2.1.2.2.1.1) F 0 (by have := hh.2.2.2.2.2.2.1.1; omega)
        simp only [Int.natCast_zero] at hlp
        simp only [hc3, hc4, hlp, Option.bind_some]
        cases hb <;> exact ⟨_, rfl, rfl⟩
      have r9 : (a.Plan.Phase == 9) = false := by simpa using p9
      have r1 : (a.Plan.Phase == 1) = false := by simpa using p1
      simp only [r9, r1]
      generalize (a.Plan.Phase == 2) = q
      cases q <;> exact ⟨_, rfl, rfl⟩
    · rw [k]
      by_cases p9 : a.Plan.Phase = 9
      · rw [p9]
        cases hb <;> exact ⟨_, rfl, rfl⟩
      have r9 : (a.Plan.Phase == 9) = false := by simpa using p9
      simp only [r9]
      exact ⟨_, rfl, rfl⟩
    · rw [k]
      by_cases p9 : a.Plan.Phase = 9
      · rw [p9]
        cases hb <;> exact ⟨_, rfl, rfl⟩
      have r9 : (a.Plan.Phase == 9) = false := by simpa using p9
      have hn16 : a.Spans.length ≤ 16 := hsn.2.2.2.1.2.1
      have hpo : plc a.Spans a.Plan.Other = ((j + 1 : Nat) : Int) := by
        have := hsn.2.2.2.2 (j + 1) hj
        unfold own at this
        rw [List.getElem?_eq_getElem hj] at this
        simp only [Bool.and_eq_true, beq_iff_eq] at this
        rw [← ho]; exact this.1.1.1.1.2
      have e3 : IntKind.wrap IntKind.i64 ((j : Int) + 1) = ((j + 1 : Nat) : Int) := by rw [wrap_id (by omega) (by omega)]; omega
      have e4 : decide ((0 : Int) ≤ ((j + 1 : Nat) : Int)) = true := decide_eq_true (by omega)
      have b1 : ((3 : Int) == 1) = false := rfl
      have b2 : ((3 : Int) == 2) = false := rfl
      have b3 : ((3 : Int) == 3) = true := rfl
      simp only [r9, b1, b2, b3, find_other hs hF, ref19_Place_ok hs hF, hpo, hp, e3, e4, cond_true, cond_false, Int.toNat_natCast, List.getElem?_eq_getElem hj, Option.bind_some]
      by_cases hlt : a.Plan.Epoch < a.Spans[j + 1].Epoch
      · rw [decide_eq_true hlt, if_pos (show a.Spans[j + 1].Epoch > a.Plan.Epoch from hlt)]; exact ⟨_, rfl, rfl⟩
      · rw [decide_eq_false hlt, if_neg (show ¬ a.Spans[j + 1].Epoch > a.Plan.Epoch from hlt)]; exact ⟨_, rfl, rfl⟩
end Go.T
