/-
  LJudgeA: which results are the same, and which calls are borne out.
-/
import Derived.Test.YtklegekpcdmdbaaGreatDoorLGen
set_option linter.unusedVariables false
set_option linter.unusedSimpArgs false
namespace Go.T
open Go Go.Ab

theorem job_eq (a b : api_Job) : ((a.Name == b.Name) && ((a.Expr == b.Expr) && ((a.Zone == b.Zone) && ((a.Token == b.Token) && ((a.Client == b.Client) && ((a.Seq == b.Seq) && ((a.Paused == b.Paused) && ((a.Mark == b.Mark) && true)))))))) = decide (a = b) := by
  cases a; cases b
  rw [Bool.eq_iff_iff]
  simp
theorem cmd_eq (a b : api_Cmd) : ((a.Kind == b.Kind) && ((a.Client == b.Client) && ((a.Seq == b.Seq) && ((a.Name == b.Name) && ((a.Expr == b.Expr) && ((a.Zone == b.Zone) && ((a.Token == b.Token) && ((a.Time == b.Time) && true)))))))) = decide (a = b) := by
  cases a; cases b
  rw [Bool.eq_iff_iff]
  simp

theorem eqJobs {F : Nat} {s1 s2 : List api_Job} (h1 : s1.length < F) (h2 : s1.length ≤ 1048576) : slices_Equal___api_Job_api_Job_ F s1 s2 = some (decide (s1 = s2)) := by
  unfold slices_Equal___api_Job_api_Job_
  by_cases hl : s1.length = s2.length
  · have hne : (((List.length s1 : Nat) : Int) != ((List.length s2 : Nat) : Int)) = false := by simp [hl]
    rw [hne, cond_false]
    have hl1 := allLoop (fun n i => slices_Equal___api_Job_api_Job__l0 F s1 s2 n i) s1.length (fun i => decide (s1[i]? = s2[i]?)) false
      (fun n i hi => by
        simp only [slices_Equal___api_Job_api_Job__l0]
        have e1 : (decide ((i : Int) < ((List.length s1 : Nat) : Int))) = true := by simp [hi]
        have e2 : (decide ((0 : Int) ≤ (i : Int))) = true := by simp
        have hi2 : i < s2.length := by omega
        simp only [e1, e2, cond_true, toNat_cast, List.getElem?_eq_getElem hi, List.getElem?_eq_getElem hi2, Option.bind_some, job_eq, Option.some.injEq]
        rw [wrap_id (by omega) (by omega)]
        cases decide (s1[i] = s2[i]) <;> rfl)
      (fun n i hi => by
        simp only [slices_Equal___api_Job_api_Job__l0]
        have e1 : (decide ((i : Int) < ((List.length s1 : Nat) : Int))) = false := by simp; omega
        rw [e1, cond_false])
    rcases hl1 F 0 (by omega) with ⟨h3, h4⟩ | ⟨⟨j, _, h5, h6⟩, h4⟩
    · have e : s1 = s2 := List.ext_getElem? fun i => by
        by_cases hi : i < s1.length
        · exact of_decide_eq_true (h3 i (Nat.zero_le _) hi)
        · rw [List.getElem?_eq_none (by omega), List.getElem?_eq_none (by omega)]
      rw [show slices_Equal___api_Job_api_Job__l0 F s1 s2 F 0 = _ from h4]
      simp [e]
    · rw [show slices_Equal___api_Job_api_Job__l0 F s1 s2 F 0 = _ from h4]
      have : s1 ≠ s2 := fun e => by subst e; simp at h6
      simp [this]
  · have hne : (((List.length s1 : Nat) : Int) != ((List.length s2 : Nat) : Int)) = true := by simp; omega
    rw [hne, cond_true]
    have : s1 ≠ s2 := fun e => hl (by rw [e])
    simp [this]

theorem same_eq {F : Nat} {a b : api_Result} (h1 : a.Jobs.length < F) (h2 : a.Jobs.length ≤ 1048576) : judge_same F a b = some (decide (a = b)) := by
  unfold judge_same
  rw [eqJobs h1 h2]
  obtain ⟨x, y, z⟩ := a
  obtain ⟨x', y', z'⟩ := b
  simp only [Option.bind_some, api_Result.mk.injEq]
  by_cases e1 : x = x'
  · by_cases e2 : y = y'
    · simp [e1, e2]
    · have : (y == y') = false := by simpa using e2
      simp [e1, e2, this]
  · have : (x == x') = false := by simpa using e1
    simp [e1, this]

def bears (e : api_Event) (b : api_Call) : Bool := decide (e.Order.Kind = 1 ∧ e.Order.Cmd = b.Cmd ∧ b.From ≤ e.Step ∧ e.Step ≤ b.To ∧ e.Result = b.Result)
theorem bears_eq {F : Nat} {e : api_Event} {b : api_Call} (h1 : e.Result.Jobs.length < F) (h2 : e.Result.Jobs.length ≤ 1048576) : judge_Calls_1 F e b = some (bears e b) := by
  unfold judge_Calls_1
  rw [same_eq h1 h2, cmd_eq]
  simp only [Option.bind_some, bears]
  by_cases e1 : e.Order.Kind = 1
  · by_cases e2 : e.Order.Cmd = b.Cmd
    · by_cases e3 : b.From ≤ e.Step
      · by_cases e4 : e.Step ≤ b.To <;> simp [e1, e2, e3, e4]
      · simp [e1, e2, e3]
    · simp [e1, e2]
  · have : (e.Order.Kind == 1) = false := by simpa using e1
    simp [e1, this]

theorem contains_eq {F : Nat} {s : List api_Event} {b : api_Call} (h1 : s.length < F) (h2 : s.length ≤ 1048576) (h3 : ∀ e, e ∈ s → e.Result.Jobs.length ≤ 1048576) (h4 : 1048576 < F) :
    slices_ContainsFunc___api_Event_api_Event_ F s b = some (s.any fun e => bears e b) := by
  have hl := findLoop (fun n i => slices_IndexFunc___api_Event_api_Event__l0 F s b n i) s.length (fun i => match s[i]? with | some e => bears e b | none => false)
    (fun n i hi => by
      simp only [slices_IndexFunc___api_Event_api_Event__l0]
      have e1 : (decide ((i : Int) < ((List.length s : Nat) : Int))) = true := by simp [hi]
      have e2 : (decide ((0 : Int) ≤ (i : Int))) = true := by simp
      have hj := h3 _ (List.getElem_mem hi)
      simp only [e1, e2, cond_true, toNat_cast, List.getElem?_eq_getElem hi, Option.bind_some, bears_eq (show s[i].Result.Jobs.length < F by omega) hj]
      rw [wrap_id (by omega) (by omega)])
    (fun n i hi => by
      simp only [slices_IndexFunc___api_Event_api_Event__l0]
      have e1 : (decide ((i : Int) < ((List.length s : Nat) : Int))) = false := by simp; omega
      rw [e1, cond_false])
  unfold slices_ContainsFunc___api_Event_api_Event_ slices_IndexFunc___api_Event_api_Event_
  rcases hl F 0 (by omega) with ⟨j, _, h5, h6, _, h7⟩ | ⟨h5, h7⟩
  · rw [show slices_IndexFunc___api_Event_api_Event__l0 F s b F 0 = _ from h7]
    rw [List.getElem?_eq_getElem h5] at h6
    have : (s.any fun e => bears e b) = true := List.any_eq_true.2 ⟨_, List.getElem_mem h5, h6⟩
    rw [this]; simp
  · rw [show slices_IndexFunc___api_Event_api_Event__l0 F s b F 0 = _ from h7]
    have : (s.any fun e => bears e b) = false := by
      rw [List.any_eq_false]
      intro e he
      obtain ⟨i, hi, rfl⟩ := List.getElem_of_mem he
      have := h5 i (Nat.zero_le _) hi
      simpa [List.getElem?_eq_getElem hi] using this
    rw [this]; simp

def borne (list : List api_Event) (c : api_Call) : Bool := decide (c.Result.Err = 181) || list.any fun e => bears e c
theorem calls1_eq {F : Nat} {s : List api_Event} {c : api_Call} (h1 : s.length ≤ 1048576) (h3 : ∀ e, e ∈ s → e.Result.Jobs.length ≤ 1048576) (h4 : 1048578 < F) :
    judge_Calls F s [c] = some (if borne s c then 1 else 0) := by
  obtain ⟨n, rfl⟩ : ∃ n, F = n + 2 := ⟨F - 2, by omega⟩
  unfold judge_Calls
  simp only [judge_Calls_l0]
  have hc : slices_ContainsFunc___api_Event_api_Event_ (n + 2) s c = _ := contains_eq (by omega) h1 h3 (by omega)
  have hw : IntKind.wrap IntKind.i64 1 = 1 := by decide
  unfold borne
  by_cases he : c.Result.Err = 181
  · cases hb : (s.any fun e => bears e c) <;> simp [he, hw]
  · have he2 : (c.Result.Err != 181) = true := by simpa using he
    cases hb : (s.any fun e => bears e c) <;> rw [hb] at hc <;> simp [he, he2, hc, hw]
end Go.T
