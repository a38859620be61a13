/-
  LawE: what an answer means; the law MoverTells.
-/
import Derived.Test.YtndnfbggelcpiaaLawD
namespace Go.T
open Go Go.Ab

theorem Jobs_refl {F : Nat} {l : List api_Job} (h : l.length ≤ 1048576) (hF : 1048577 ≤ F) : matinsref16_Jobs F l l = some true := by
  unfold matinsref16_Jobs
  have hl := allLoop (fun n i => matinsref16_Jobs_l0 F l l n i) l.length (fun _ => true) false
    (fun n i hi => by
      simp only [matinsref16_Jobs_l0]
      have f1 : decide ((i : Int) < ((l.length : Nat) : Int)) = true := decide_eq_true (by omega)
      have f2 : decide ((0 : Int) ≤ (i : Int)) = true := decide_eq_true (by omega)
      have f4 : IntKind.wrap IntKind.i64 ((i : Int) + 1) = (i : Int) + 1 := by rw [wrap_id (by omega) (by omega)]
      simp only [f1, f2, f4, cond_true, Int.toNat_natCast, List.getElem?_eq_getElem hi, Option.bind_some, beq_self_eq_true, Bool.and_self, Bool.not_true, cond_false])
    (fun n i hi => by
      simp only [matinsref16_Jobs_l0]
      have f1 : decide ((i : Int) < ((l.length : Nat) : Int)) = false := decide_eq_false (by omega)
      simp only [f1, cond_false]) F 0 (by omega)
  have e : ((((List.length l) : Nat) : Int) != (((List.length l) : Nat) : Int)) = false := by simp
  rw [e]
  simp only [Int.natCast_zero] at hl
  rcases hl with ⟨_, hl⟩ | ⟨⟨j, _, _, hg⟩, _⟩
  · rw [cond_false, hl]; rfl
  · cases hg
theorem Result_refl {F : Nat} {r : api_Result} (h : r.Jobs.length ≤ 1048576) (hF : 1048577 ≤ F) : matinsref16_Result F r r = some true := by
  unfold matinsref16_Result
  rw [Jobs_refl h hF]
  simp
theorem Books_refl {F : Nat} {l : List api_Seen} (h : l.length ≤ 1048576) (hj : ∀ y, y ∈ l → y.Result.Jobs.length ≤ 1048576) (hF : 1048577 ≤ F) : matinsref17_Books F l l = some true := by
  unfold matinsref17_Books
  have hl := allLoop (fun n i => matinsref17_Books_l0 F l l n i) l.length (fun _ => true) false
    (fun n i hi => by
      simp only [matinsref17_Books_l0]
      have f1 : decide ((i : Int) < ((l.length : Nat) : Int)) = true := decide_eq_true (by omega)
      have f2 : decide ((0 : Int) ≤ (i : Int)) = true := decide_eq_true (by omega)
      have f4 : IntKind.wrap IntKind.i64 ((i : Int) + 1) = (i : Int) + 1 := by rw [wrap_id (by omega) (by omega)]
      simp only [f1, f2, f4, cond_true, Int.toNat_natCast, List.getElem?_eq_getElem hi, Option.bind_some, bne_self_eq_false, Result_refl (hj _ (List.getElem_mem hi)) hF, Bool.not_true, cond_false])
    (fun n i hi => by
      simp only [matinsref17_Books_l0]
      have f1 : decide ((i : Int) < ((l.length : Nat) : Int)) = false := decide_eq_false (by omega)
      simp only [f1, cond_false]) F 0 (by omega)
  have e : ((((List.length l) : Nat) : Int) != (((List.length l) : Nat) : Int)) = false := by simp
  rw [e]
  simp only [Int.natCast_zero] at hl
  rcases hl with ⟨_, hl⟩ | ⟨⟨j, _, _, hg⟩, _⟩
  · rw [cond_false, hl]; rfl
  · cases hg

/-- a shard whose lists are not too long -/
def SmallS (s : api_Shard) : Prop := s.Jobs.length ≤ 1048576 ∧ s.Seen.length ≤ 1048576 ∧ ∀ y, y ∈ s.Seen → y.Result.Jobs.length ≤ 1048576
theorem Shard_refl {F : Nat} {s : api_Shard} (h : SmallS s) (hF : 1048577 ≤ F) : matinsref18_Shard F s s = some true := by
  unfold matinsref18_Shard
  rw [Jobs_refl h.1 hF, Books_refl h.2.1 h.2.2 hF]
  simp
theorem Order_refl {F : Nat} {o : api_Order} : matinsref18_Order F o o = some true := by
  unfold matinsref18_Order
  simp
theorem small_of {s : api_Shard} (h : api_Shard.ok 1048576 s) : SmallS s :=
  ⟨h.2.2.2.2.2.1.1, h.2.2.2.2.2.2.1.1, fun y hy => (h.2.2.2.2.2.2.1.2 y hy).2.2.1.2.2.1.1⟩

set_option maxHeartbeats 4000000 in
theorem Heard_same {F : Nat} {a : api_Atlas} {h s : api_Shard} {r : api_Result} {y : Int × api_Order × Bool} (h1 : mover_Next F a h = some y) (h2 : matinsref20_Next F a h = some y) (sh : SmallS h) (ss : SmallS s) :
    ∃ z, mover_Heard F a h r s = some z ∧ matinsref20_Heard F a h r s = some z ∧ SmallS z.1 := by
  unfold mover_Heard matinsref20_Heard
  simp only [h1, h2, Option.bind_some]
  obtain ⟨g, o, b⟩ := y
  cases b with
  | false => exact ⟨_, rfl, rfl, sh⟩
  | true =>
    have s0 : ∀ (x y z : Int) (u v : List UInt8), SmallS ⟨x, y, z, u, v, [], []⟩ := fun x y z u v => ⟨Nat.zero_le _, Nat.zero_le _, fun q hq => by cases hq⟩
    obtain ⟨k, o2, o3, o4, o5, o6, o7, o8⟩ := o
    obtain ⟨e, r2, r3⟩ := r
    simp only
    have he : (e = 0 ∨ e = 3 ∨ e = 1 ∨ e = 4 ∨ e = 171) ∨ ((e == 0) = false ∧ (e == 3) = false ∧ (e == 1) = false ∧ (e == 4) = false ∧ (e == 171) = false) := by
      by_cases h0 : e = 0 ∨ e = 3 ∨ e = 1 ∨ e = 4 ∨ e = 171
      · exact .inl h0
      · refine .inr ?_
        simp only [not_or] at h0
        simpa using h0
    have hk : (k = 2 ∨ k = 3 ∨ k = 4 ∨ k = 5 ∨ k = 6 ∨ k = 7 ∨ k = 8) ∨ ((k == 2) = false ∧ (k == 3) = false ∧ (k == 4) = false ∧ (k == 5) = false ∧ (k == 6) = false ∧ (k == 7) = false ∧ (k == 8) = false) := by
      by_cases h0 : k = 2 ∨ k = 3 ∨ k = 4 ∨ k = 5 ∨ k = 6 ∨ k = 7 ∨ k = 8
      · exact .inl h0
      · refine .inr ?_
        simp only [not_or] at h0
        simpa using h0
    generalize (a.Plan.Phase == (9 : Int)) = q
    rcases he with he | ⟨x0, x3, x1, x4, x5⟩
    · rcases he with rfl | rfl | rfl | rfl | rfl
      all_goals
        rcases hk with hk | ⟨k2, k3, k4, k5, k6, k7, k8⟩
        · rcases hk with rfl | rfl | rfl | rfl | rfl | rfl | rfl
          all_goals (cases q <;> (refine ⟨_, rfl, rfl, ?_⟩; first | exact sh | exact ss | exact s0 _ _ _ _ _))
        · simp only [k2, k3, k4, k5, k6, k7, k8, cond_false]
          (cases q <;> (refine ⟨_, rfl, rfl, ?_⟩; first | exact sh | exact ss | exact s0 _ _ _ _ _))
    · have x6 : (e != 171) = true := by simp [bne, x5]
      simp only [x0, x3, x1, x4, x5, x6, cond_false]
      rcases hk with hk | ⟨k2, k3, k4, k5, k6, k7, k8⟩
      · rcases hk with rfl | rfl | rfl | rfl | rfl | rfl | rfl
        all_goals (cases q <;> (refine ⟨_, rfl, rfl, ?_⟩; first | exact sh | exact ss | exact s0 _ _ _ _ _))
      · simp only [k2, k3, k4, k5, k6, k7, k8, cond_false]
        (cases q <;> (refine ⟨_, rfl, rfl, ?_⟩; first | exact sh | exact ss | exact s0 _ _ _ _ _))

/-- the state that an order carries is small -/
theorem Next_small {F : Nat} {a : api_Atlas} {h : api_Shard} {y : Int × api_Order × Bool} (hh : SmallS h) (hy : matinsref20_Next F a h = some y) : SmallS y.2.1.State := by
  have s0 : ∀ (x y z : Int) (u v : List UInt8), SmallS ⟨x, y, z, u, v, [], []⟩ := fun x y z u v => ⟨Nat.zero_le _, Nat.zero_le _, fun q hq => by cases hq⟩
  unfold matinsref20_Next at hy
  obtain ⟨c, _, hy⟩ := bind_e hy
  cases c with
  | true => obtain rfl := Option.some.inj hy; exact s0 _ _ _ _ _
  | false =>
    simp only [cond_false] at hy
    obtain ⟨c, _, hy⟩ := bind_e hy
    obtain ⟨d, _, hy⟩ := bind_e hy
    cases d with
    | true => obtain rfl := Option.some.inj hy; exact s0 _ _ _ _ _
    | false =>
      simp only [cond_false] at hy
      obtain ⟨d, _, hy⟩ := bind_e hy
      cases d with
      | true => obtain rfl := Option.some.inj hy; exact s0 _ _ _ _ _
      | false =>
        simp only [cond_false] at hy
        obtain ⟨d, _, hy⟩ := bind_e hy
        cases d with
        | true => obtain rfl := Option.some.inj hy; exact s0 _ _ _ _ _
        | false =>
          simp only [cond_false] at hy
          cases h2 : (a.Plan.Kind == 2) with
          | true => rw [h2] at hy; obtain rfl := Option.some.inj hy; exact s0 _ _ _ _ _
          | false =>
            rw [h2, cond_false] at hy
            cases h3 : (a.Plan.Kind == 3) with
            | true =>
              rw [h3, cond_true] at hy
              obtain ⟨d, _, hy⟩ := bind_e hy
              obtain ⟨_, hy⟩ := grd_e hy
              obtain ⟨d2, _, hy⟩ := bind_e hy
              obtain ⟨d3, _, hy⟩ := bind_e hy
              obtain rfl := Option.some.inj hy; exact s0 _ _ _ _ _
            | false =>
              rw [h3, cond_false] at hy
              cases h4 : (a.Plan.Phase == 1) with
              | true => rw [h4] at hy; obtain rfl := Option.some.inj hy; exact hh
              | false =>
                rw [h4, cond_false] at hy
                cases h5 : (a.Plan.Phase == 2) with
                | true => rw [h5] at hy; obtain rfl := Option.some.inj hy; exact s0 _ _ _ _ _
                | false => rw [h5] at hy; obtain rfl := Option.some.inj hy; exact s0 _ _ _ _ _

/-- THE LAW -/
theorem MoverTells_true {F : Nat} (hF : 1048577 ≤ F) (hw : matinslaw20_awake F = some true) {a : api_Atlas} {h s : api_Shard} {r : api_Result} (ha : api_Atlas.ok 1048576 a) (hh : api_Shard.ok 1048576 h)
    (hs : api_Shard.ok 1048576 s) : matinslaw20_MoverTells F a h r s = some true := by
  obtain ⟨y, h1, h2⟩ := Next_same ha hh hF
  obtain ⟨z, h3, h4, h5⟩ := Heard_same (r := r) h1 h2 (small_of hh) (small_of hs)
  have h6 := Next_small (small_of hh) h2
  unfold matinslaw20_MoverTells
  simp only [hw, h1, h2, h3, h4, Option.bind_some, Bool.not_true, cond_false, beq_self_eq_true, cond_true, Order_refl, Shard_refl h6 hF, Shard_refl h5 hF]
end Go.T
