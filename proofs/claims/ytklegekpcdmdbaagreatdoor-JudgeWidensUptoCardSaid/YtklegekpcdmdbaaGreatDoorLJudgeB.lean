/-
  LJudgeB: a call that is borne out is so in a wider history.
-/
import Derived.Test.YtklegekpcdmdbaaGreatDoorLJudgeA
set_option linter.unusedVariables false
set_option linter.unusedSimpArgs false
namespace Go.T
open Go Go.Ab

theorem awake24 : matinslaw24_awake 4000000 = some true := by kernel_rfl

theorem borne_le {l m : List api_Event} {c d : api_Call} (h1 : d.Cmd = c.Cmd) (h2 : d.Result = c.Result) (h3 : d.From ≤ c.From) (h4 : c.To ≤ d.To) (h : borne l c = true) : borne (l ++ m) d = true := by
  unfold borne at h ⊢
  rw [Bool.or_eq_true] at h ⊢
  rw [h2]
  rcases h with h | h
  · exact .inl h
  · refine .inr ?_
    rw [List.any_eq_true] at h ⊢
    obtain ⟨e, he, hb⟩ := h
    refine ⟨e, List.mem_append_left _ he, ?_⟩
    unfold bears at hb ⊢
    rw [decide_eq_true_eq] at hb ⊢
    rw [h1, h2]
    exact ⟨hb.1, hb.2.1, by omega, by omega, hb.2.2.2.2⟩

theorem JudgeWidens_true (list more : List api_Event) (c : api_Call) (early late : Int)
    (hl : List.length list ≤ 1048576 ∧ ∀ y, y ∈ list → api_Event.ok 1048576 y) (hm : List.length more ≤ 1048576 ∧ ∀ y, y ∈ more → api_Event.ok 1048576 y) :
    matinslaw24_JudgeWidens 4000000 list more c early late = some true := by
  unfold matinslaw24_JudgeWidens
  rw [awake24]
  simp only [Option.bind_some, Bool.not_true, cond_false]
  by_cases g1 : (200 : Int) < ((List.length list : Nat) : Int)
  · simp [g1]
  by_cases g2 : (200 : Int) < ((List.length more : Nat) : Int)
  · simp [g2]
  by_cases g3 : early < 0
  · simp [g3]
  by_cases g4 : 1073741824 < early
  · simp [g4]
  by_cases g5 : late < 0
  · simp [g5]
  by_cases g6 : 1073741824 < late
  · simp [g6]
  by_cases g7 : c.From < -1099511627776
  · simp [g7]
  by_cases g8 : 1099511627776 < c.From
  · simp [g8]
  by_cases g9 : c.To < -1099511627776
  · simp [g9]
  by_cases g10 : 1099511627776 < c.To
  · simp [g10]
  have a1 : decide (0 + list.length ≤ LIM) = true := by unfold LIM; simp; omega
  have a2 : decide (list.length + more.length ≤ LIM) = true := by unfold LIM; simp; omega
  have w1 : IntKind.wrap IntKind.i64 (c.From - early) = c.From - early := wrap_id (by omega) (by omega)
  have w2 : IntKind.wrap IntKind.i64 (c.To + late) = c.To + late := wrap_id (by omega) (by omega)
  have k1 := calls1_eq (F := 4000000) (s := list) (c := c) hl.1 (fun e he => ((hl.2 e he).2.2.2.1).2.2.1.1) (by omega)
  have k2 := calls1_eq (F := 4000000) (s := list ++ more) (c := api_Call.mk c.Client c.Seq c.Cmd (c.From - early) (c.To + late) c.Result) (by simp; omega)
    (fun e he => by
      rcases List.mem_append.1 he with h | h
      · exact ((hl.2 e h).2.2.2.1).2.2.1.1
      · exact ((hm.2 e h).2.2.2.1).2.2.1.1) (by omega)
  simp only [g1, g2, g3, g4, g5, g6, g7, g8, g9, g10, decide_false, cond_false, Option.bind_some, a1, a2, cond_true, List.nil_append, w1, w2, k1, k2]
  have hle := fun h => borne_le (m := more) (d := api_Call.mk c.Client c.Seq c.Cmd (c.From - early) (c.To + late) c.Result) rfl rfl (show c.From - early ≤ c.From by omega) (show c.To ≤ c.To + late by omega) (l := list) (c := c) h
  cases hb : borne list c
  · cases borne (list ++ more) _ <;> rfl
  · rw [hle hb]; rfl
end Go.T
