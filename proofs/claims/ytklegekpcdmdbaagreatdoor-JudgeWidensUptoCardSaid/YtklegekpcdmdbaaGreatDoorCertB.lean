/-
  CertJw: the program's functions compute them. Printed by a program.
-/
import Derived.Test.YtklegekpcdmdbaaGreatDoorCertA
import Derived.Test.YtklegekpcdmdbaaGreatDoorProg
import Derived.KernelRfl
import Derived.Test.YtklegekpcdmdbaaGreatDoorPlain
import Derived.WalkKit
set_option linter.unusedVariables false
set_option maxRecDepth 200000
set_option maxHeartbeats 4000000
namespace Go.T
open Go Go.Ab Go.Proofs
theorem jobs_Do_FC {ml : Int} (F : Nat) (list : (List api_Job)) (c : api_Cmd) (r : ((List api_Job) × api_Result)) (h : jobs_Do F list c = some r) : FC Tryz.prog (GM ml) 12 [] [(AV.sl (List.map api_Job.c list)), (AV.agg (api_Cmd.c c))] (.tup [(.sl (List.map api_Job.c r.1)), (.agg (api_Result.c r.2))]) [] := by
  refine FC_of 2000 Tryz.func12 rfl (by kernel_rfl) mixed (by show 2 ≤ 41; decide) ?_
  unfold jobs_Do at h
  conv => whnf
  refine Or.inl ?_
  conv => whnf
  obtain ⟨y_0, hy, h⟩ := bind_e h
  refine ⟨_, _, (jobs_Check_FC F list y_0 hy), Or.inl ⟨rfl, rfl, ?_⟩⟩
  conv => whnf
  refine Or.inl ?_
  conv => whnf
  refine brn_i (fun hb => ?_) (fun hb => ?_)
  · replace h := cond_t h hb
    conv => whnf
    refine Or.inl ?_
    conv => whnf
    obtain ⟨y_1, hy, h⟩ := bind_e h
    refine ⟨_, _, (jobs_no_FC F (4 : Int) y_1 hy), Or.inr ⟨[], rfl, ?_⟩⟩
    conv => whnf
    obtain rfl := Option.some.inj h
    exact rfl
  · replace h := cond_f h hb
    conv => whnf
    refine Or.inl ?_
    conv => whnf
    obtain ⟨y_2, hy, h⟩ := bind_e h
    refine ⟨_, _, (slices_Clone___api_Job_api_Job__FC0 F list y_2 hy), Or.inr ⟨[], rfl, ?_⟩⟩
    conv => whnf
    refine Or.inl ?_
    conv => whnf
    obtain ⟨y_3, hy, h⟩ := bind_e h
    refine ⟨_, _, (jobs_commands_FC0 F y_3 hy), Or.inr ⟨[], rfl, ?_⟩⟩
    conv => whnf
    refine And.intro (by kernel_rfl) ?_
    conv => whnf
    refine Or.inl ?_
    conv => whnf
    refine brn_i (fun hb => ?_) (fun hb => ?_)
    · replace h := cond_t h hb
      conv => whnf
      refine And.intro (by kernel_rfl) ?_
      conv => whnf
      refine Or.inl ?_
      conv => whnf
      obtain ⟨y_4, hy, h⟩ := bind_e h
      rcases y_4 with y_4 | y_4
      · replace h := elim_l h
        refine Or.inr (callG_i [80, 64] (__jobs_table__add_i1_FC0 F c y_2 y_4 hy) rfl rfl rfl rfl ?_)
        conv => whnf
        refine And.intro (by kernel_rfl) ?_
        conv => whnf
        obtain rfl := Option.some.inj h
        exact rfl
      · replace h := elim_r h
        rcases y_4 with y_4 | y_4
        · replace h := elim_l h
          refine Or.inr (callG_i [80, 64] (__jobs_table__add_i1_FC1 F c y_2 y_4 hy) rfl rfl rfl rfl ?_)
          conv => whnf
          refine And.intro (by kernel_rfl) ?_
          conv => whnf
          obtain rfl := Option.some.inj h
          exact rfl
        · replace h := elim_r h
          refine Or.inr (callG_i [80, 64] (__jobs_table__add_i1_FC2 F c y_2 y_4 hy) rfl rfl rfl rfl ?_)
          conv => whnf
          refine And.intro (by kernel_rfl) ?_
          conv => whnf
          obtain rfl := Option.some.inj h
          exact rfl
    · replace h := cond_f h hb
      conv => whnf
      refine brn_i (fun hb => ?_) (fun hb => ?_)
      · replace h := cond_t h hb
        conv => whnf
        refine And.intro (by kernel_rfl) ?_
        conv => whnf
        refine Or.inl ?_
        conv => whnf
        obtain ⟨y_5, hy, h⟩ := bind_e h
        rcases y_5 with y_5 | y_5
        · replace h := elim_l h
          refine Or.inr (callG_i [80, 64] (__jobs_table__remove_i1_FC0 F c y_2 y_5 hy) rfl rfl rfl rfl ?_)
          conv => whnf
          refine And.intro (by kernel_rfl) ?_
          conv => whnf
          obtain rfl := Option.some.inj h
          exact rfl
        · replace h := elim_r h
          refine Or.inr (callG_i [80, 64] (__jobs_table__remove_i1_FC1 F c y_2 y_5 hy) rfl rfl rfl rfl ?_)
          conv => whnf
          refine And.intro (by kernel_rfl) ?_
          conv => whnf
          obtain rfl := Option.some.inj h
          exact rfl
      · replace h := cond_f h hb
        conv => whnf
        refine brn_i (fun hb => ?_) (fun hb => ?_)
        · replace h := cond_t h hb
          conv => whnf
          refine And.intro (by kernel_rfl) ?_
          conv => whnf
          refine Or.inl ?_
          conv => whnf
          obtain ⟨y_6, hy, h⟩ := bind_e h
          refine Or.inr (callG_i [80, 64] (__jobs_table__pause_i1_FC0 F c y_2 y_6 hy) rfl rfl rfl rfl ?_)
          conv => whnf
          refine And.intro (by kernel_rfl) ?_
          conv => whnf
          obtain rfl := Option.some.inj h
          exact rfl
        · replace h := cond_f h hb
          conv => whnf
          refine brn_i (fun hb => ?_) (fun hb => ?_)
          · replace h := cond_t h hb
            conv => whnf
            refine And.intro (by kernel_rfl) ?_
            conv => whnf
            refine Or.inl ?_
            conv => whnf
            obtain ⟨y_7, hy, h⟩ := bind_e h
            refine Or.inr (callG_i [80, 64] (__jobs_table__resume_i1_FC0 F c y_2 y_7 hy) rfl rfl rfl rfl ?_)
            conv => whnf
            refine And.intro (by kernel_rfl) ?_
            conv => whnf
            obtain rfl := Option.some.inj h
            exact rfl
          · replace h := cond_f h hb
            conv => whnf
            refine brn_i (fun hb => ?_) (fun hb => ?_)
            · replace h := cond_t h hb
              conv => whnf
              refine And.intro (by kernel_rfl) ?_
              conv => whnf
              refine Or.inl ?_
              conv => whnf
              obtain ⟨y_8, hy, h⟩ := bind_e h
              refine Or.inr (callG_i [80, 64] (__jobs_table__get_i1_FC0 F c y_2 y_8 hy) rfl rfl rfl rfl ?_)
              conv => whnf
              refine And.intro (by kernel_rfl) ?_
              conv => whnf
              obtain rfl := Option.some.inj h
              exact rfl
            · replace h := cond_f h hb
              conv => whnf
              refine brn_i (fun hb => ?_) (fun hb => ?_)
              · replace h := cond_t h hb
                conv => whnf
                refine And.intro (by kernel_rfl) ?_
                conv => whnf
                refine Or.inl ?_
                conv => whnf
                obtain ⟨y_9, hy, h⟩ := bind_e h
                refine Or.inr (callG_i [80, 64] (__jobs_table__next_i1_FC0 F c y_2 y_9 hy) rfl rfl rfl rfl ?_)
                conv => whnf
                refine And.intro (by kernel_rfl) ?_
                conv => whnf
                obtain rfl := Option.some.inj h
                exact rfl
              · replace h := cond_f h hb
                conv => whnf
                refine brn_i (fun hb => ?_) (fun hb => ?_)
                · replace h := cond_t h hb
                  conv => whnf
                  refine And.intro (by kernel_rfl) ?_
                  conv => whnf
                  refine Or.inl ?_
                  conv => whnf
                  obtain ⟨y_10, hy, h⟩ := bind_e h
                  refine Or.inr (callG_i [80, 64] (__jobs_table__list_i1_FC0 F c y_2 y_10 hy) rfl rfl rfl rfl ?_)
                  conv => whnf
                  refine And.intro (by kernel_rfl) ?_
                  conv => whnf
                  obtain rfl := Option.some.inj h
                  exact rfl
                · replace h := cond_f h hb
                  conv => whnf
                  refine brn_i (fun hb => ?_) (fun hb => ?_)
                  · replace h := cond_t h hb
                    conv => whnf
                    refine And.intro (by kernel_rfl) ?_
                    conv => whnf
                    refine Or.inl ?_
                    conv => whnf
                    obtain ⟨y_11, hy, h⟩ := bind_e h
                    rcases y_11 with y_11 | y_11
                    · replace h := elim_l h
                      refine Or.inr (callG_i [80, 64] (__jobs_table__launch_i1_FC0 F c y_2 y_11 hy) rfl rfl rfl rfl ?_)
                      conv => whnf
                      refine And.intro (by kernel_rfl) ?_
                      conv => whnf
                      obtain rfl := Option.some.inj h
                      exact rfl
                    · replace h := elim_r h
                      refine Or.inr (callG_i [80, 64] (__jobs_table__launch_i1_FC1 F c y_2 y_11 hy) rfl rfl rfl rfl ?_)
                      conv => whnf
                      refine And.intro (by kernel_rfl) ?_
                      conv => whnf
                      obtain rfl := Option.some.inj h
                      exact rfl
                  · replace h := cond_f h hb
                    conv => whnf
                    refine And.intro (by kernel_rfl) ?_
                    conv => whnf
                    refine Or.inl ?_
                    conv => whnf
                    refine Or.inl ?_
                    conv => whnf
                    obtain ⟨y_12, hy, h⟩ := bind_e h
                    refine ⟨_, _, (jobs_no_FC F (1 : Int) y_12 hy), Or.inr ⟨[], rfl, ?_⟩⟩
                    conv => whnf
                    refine And.intro (by kernel_rfl) ?_
                    conv => whnf
                    obtain rfl := Option.some.inj h
                    exact rfl

theorem matinslaw24_added_FC {ml : Int} (F : Nat) (seq : Int) (r : api_Event) (h : matinslaw24_added F seq = some r) : FC Tryz.prog (GM ml) 6 [] [(AV.int IntKind.i64 seq)] (.agg (api_Event.c r)) [] := by
  refine FC_of 2000 Tryz.func6 rfl (by kernel_rfl) mixed (by show 1 ≤ 17; decide) ?_
  unfold matinslaw24_added at h
  conv => whnf
  refine Or.inl ?_
  conv => whnf
  obtain ⟨y_0, hy, h⟩ := bind_e h
  refine ⟨_, _, (FC_arg2 (cons2 (congrArg AV.sl (by first | (simp; done) | rfl | (rw [List.map_append]; rfl))) rfl) (jobs_Do_FC F [] (api_Cmd.mk (1 : Int) (1 : Int) seq ([97] : List UInt8) ([48, 32, 48, 32, 42, 32, 42, 32, 42] : List UInt8) ([117, 116, 99] : List UInt8) ([] : List UInt8) (100 : Int)) y_0 hy)), Or.inr ⟨[], rfl, ?_⟩⟩
  conv => whnf
  obtain rfl := Option.some.inj h
  exact rfl

theorem judge_refused_FC {ml : Int} (F : Nat) (e : Int) (r : Bool) (h : judge_refused F e = some r) : FC Tryz.prog (GM ml) 30 [] [(AV.int IntKind.i64 e)] (.bool r) [] := by
  refine FC_of 2000 Tryz.func30 rfl (by kernel_rfl) mixed (by show 1 ≤ 17; decide) ?_
  unfold judge_refused at h
  conv => whnf
  refine Or.inl ?_
  conv => whnf
  refine brn_i (fun hb => ?_) (fun hb => ?_)
  · replace h := cond_t h hb
    conv => whnf
    obtain rfl := Option.some.inj h
    exact rfl
  · replace h := cond_f h hb
    conv => whnf
    refine brn_i (fun hb => ?_) (fun hb => ?_)
    · replace h := cond_t h hb
      conv => whnf
      obtain rfl := Option.some.inj h
      exact rfl
    · replace h := cond_f h hb
      conv => whnf
      refine brn_i (fun hb => ?_) (fun hb => ?_)
      · replace h := cond_t h hb
        conv => whnf
        obtain rfl := Option.some.inj h
        exact rfl
      · replace h := cond_f h hb
        conv => whnf
        obtain rfl := Option.some.inj h
        exact rfl

theorem slices_Equal___api_Job_api_Job__FC {ml : Int} (F : Nat) (s1 : (List api_Job)) (s2 : (List api_Job)) (r : Bool) (h : slices_Equal___api_Job_api_Job_ F s1 s2 = some r) : FC Tryz.prog (GM ml) 15 [] [(AV.sl (List.map api_Job.c s1)), (AV.sl (List.map api_Job.c s2))] (.bool r) [] := by
  refine FC_of 2000 Tryz.func15 rfl (by kernel_rfl) mixed (by show 2 ≤ 26; decide) ?_
  unfold slices_Equal___api_Job_api_Job_ at h
  conv => whnf
  refine Or.inl ?_
  conv => whnf
  refine brn_i (fun hb => ?_) (fun hb => ?_)
  · replace h := cond_t h (by first | exact hb | (simp; done) | simpa using hb | simpa [chunk] using hb)
    conv => whnf
    obtain rfl := Option.some.inj h
    exact rfl
  · replace h := cond_f h (by first | exact hb | (simp; done) | simpa using hb | simpa [chunk] using hb)
    conv => whnf
    obtain ⟨o0, h0, k0⟩ := bind_e h
    refine Or.inr (joins_i (o0 = Sum.inr (outR o0)) [] [] 0 ?_ (fun hR => ?_))
    · conv => whnf
      refine Or.inl ?_
      conv => whnf
      refine loops_i (α := (Nat × Int)) (fun xq => ((0, (AV.sl (List.map api_Job.c s1))) :: ((1, (AV.sl (List.map api_Job.c s2))) :: ((12, (AV.int IntKind.i64 (@Nat.cast Int instNatCastInt (List.length (List.map api_Job.c s1))))) :: ((13, (AV.int IntKind.i64 xq.2)) :: []))))) (fun xq => []) 0 (fun xq => slices_Equal___api_Job_api_Job__l0 F s1 s2 xq.1 xq.2 = some o0) (fun xq => xq.1) (F, (0 : Int)) [] h0 rfl rfl rfl ?_
      rintro ⟨n_12, t13_13⟩ h0
      replace h0 : slices_Equal___api_Job_api_Job__l0 F s1 s2 n_12 t13_13 = some o0 := h0
      cases n_12 with
      | zero => rw [slices_Equal___api_Job_api_Job__l0.eq_1] at h0; cases h0
      | succ n_12 =>
        rw [slices_Equal___api_Job_api_Job__l0.eq_2] at h0
        conv => whnf
        refine Or.inl ?_
        conv => whnf
        refine brn_i (fun hb => ?_) (fun hb => ?_)
        · replace h0 := cond_t h0 (by first | exact hb | (simp; done) | simpa using hb | simpa [chunk] using hb)
          conv => whnf
          refine Or.inl ?_
          conv => whnf
          obtain ⟨hg, h0⟩ := grd_e h0
          refine And.intro hg ?_
          conv => whnf
          obtain ⟨y_16, hy, h0⟩ := bind_e h0
          refine opt_i (api_Job.c y_16) (getE rfl hy) ?_
          conv => whnf
          obtain ⟨hg, h0⟩ := grd_e h0
          refine And.intro hg ?_
          conv => whnf
          obtain ⟨y_17, hy, h0⟩ := bind_e h0
          refine opt_i (api_Job.c y_17) (getE rfl hy) ?_
          conv => whnf
          refine And.intro ⟨by kernel_rfl, _, rfl⟩ ?_
          conv => whnf
          refine And.intro (by kernel_rfl) ?_
          conv => whnf
          refine Or.inl ?_
          conv => whnf
          refine brn_i (fun hb => ?_) (fun hb => ?_)
          · replace h0 := cond_t h0 hb
            conv => whnf
            obtain rfl := Option.some.inj h0
            obtain rfl := Option.some.inj k0
            exact rfl
          · replace h0 := cond_f h0 hb
            conv => whnf
            exact round_i (n_12, (IntKind.wrap IntKind.i64 (t13_13 + (1 : Int)))) [] h0 (Nat.lt_succ_self _) rfl rfl rfl
        · replace h0 := cond_f h0 (by first | exact hb | (simp; done) | simpa using hb | simpa [chunk] using hb)
          conv => whnf
          obtain rfl := Option.some.inj h0
          exact end_i rfl [] rfl rfl rfl
    · replace k0 := elim_e hR k0
      generalize outR o0 = v at k0 ⊢
      conv => whnf
      obtain rfl := Option.some.inj k0
      exact rfl

theorem judge_same_FC {ml : Int} (F : Nat) (a : api_Result) (b : api_Result) (r : Bool) (h : judge_same F a b = some r) : FC Tryz.prog (GM ml) 10 [] [(AV.agg (api_Result.c a)), (AV.agg (api_Result.c b))] (.bool r) [] := by
  refine FC_of 2000 Tryz.func10 rfl (by kernel_rfl) mixed (by show 2 ≤ 24; decide) ?_
  unfold judge_same at h
  conv => whnf
  refine Or.inl ?_
  conv => whnf
  refine brn_i (fun hb => ?_) (fun hb => ?_)
  · replace h := cond_t h hb
    conv => whnf
    refine brn_i (fun hb => ?_) (fun hb => ?_)
    · replace h := cond_t h hb
      conv => whnf
      refine Or.inl ?_
      conv => whnf
      obtain ⟨y_0, hy, h⟩ := bind_e h
      refine ⟨_, _, (slices_Equal___api_Job_api_Job__FC F a.Jobs b.Jobs y_0 hy), Or.inl ⟨rfl, rfl, ?_⟩⟩
      conv => whnf
      obtain rfl := Option.some.inj h
      exact rfl
    · replace h := cond_f h hb
      conv => whnf
      obtain rfl := Option.some.inj h
      exact rfl
  · replace h := cond_f h hb
    conv => whnf
    obtain rfl := Option.some.inj h
    exact rfl

theorem __judge_table__does_FC0 {ml : Int} (F : Nat) (c : api_Cmd) (r_ : api_Result) (c_2 : (List api_Job)) (c_3 : Bool) (m : (List (judge_mark × api_Result))) (m_5 : (List (Int × Int))) (r : (Bool × (List api_Job) × Bool)) (h : __judge_table__does F c r_ c_2 c_3 m m_5 = some r) : FC Tryz.prog (GM ml) 31 ((0, (AO.rows false (((AV.sl (List.map api_Job.c c_2)) :: ((AV.mapo 1) :: ((AV.mapo 2) :: ((AV.bool c_3) :: [])))) :: []))) :: ((1, (AO.mapo true (encM (fun (k_13 : judge_mark) => (AV.agg (judge_mark.c k_13))) (fun (k_13 : api_Result) => (AV.agg (api_Result.c k_13))) m))) :: ((2, (AO.mapo true (encM (fun (k_13 : Int) => (AV.int IntKind.i64 k_13)) (fun (k_13 : Int) => (AV.int IntKind.i64 k_13)) m_5))) :: []))) [(AV.ptr 0 0 0), (AV.agg (api_Cmd.c c)), (AV.agg (api_Result.c r_))] (AV.bool r.1) ((0, (AO.rows false (((AV.sl (List.map api_Job.c r.2.1)) :: ((AV.mapo 1) :: ((AV.mapo 2) :: ((AV.bool r.2.2) :: [])))) :: []))) :: ((1, (AO.mapo true (encM (fun (k_13 : judge_mark) => (AV.agg (judge_mark.c k_13))) (fun (k_13 : api_Result) => (AV.agg (api_Result.c k_13))) m))) :: ((2, (AO.mapo true (encM (fun (k_13 : Int) => (AV.int IntKind.i64 k_13)) (fun (k_13 : Int) => (AV.int IntKind.i64 k_13)) m_5))) :: []))) := by
  refine FC_ofG 2000 Tryz.func31 rfl (by kernel_rfl) mixed (by show 3 ≤ 25; decide) (by show 3 ≤ W; decide) rfl ?_
  unfold __judge_table__does at h
  conv => whnf
  refine Or.inl ?_
  conv => whnf
  obtain ⟨y_0, hy, h⟩ := bind_e h
  refine ⟨_, _, (jobs_Do_FC F c_2 c y_0 hy), Or.inr ⟨[], rfl, ?_⟩⟩
  conv => whnf
  refine And.intro (by kernel_rfl) ?_
  conv => whnf
  refine Or.inl ?_
  conv => whnf
  obtain ⟨y_1, hy, h⟩ := bind_e h
  refine ⟨_, _, (judge_same_FC F y_0.2 r_ y_1 hy), Or.inl ⟨rfl, rfl, ?_⟩⟩
  conv => whnf
  obtain rfl := Option.some.inj h
  exact endG_i [(0, 0), (1, 1), (2, 2)] rfl rfl rfl

theorem __judge_table__lists_1_FC0 {ml : Int} (F : Nat) (j : api_Job) (b : (List UInt8)) (r : Bool) (h : __judge_table__lists_1 F j b = some r) : FC Tryz.prog (GM ml) 43 ((0, (AO.rows false ((@cStr b) :: []))) :: []) [(AV.agg (api_Job.c j)), (AV.ptr 0 0 0)] (AV.bool r) ((0, (AO.rows false ((@cStr b) :: []))) :: []) := by
  refine FC_ofG 2000 Tryz.func43 rfl (by kernel_rfl) mixed (by show 2 ≤ 8; decide) (by show 1 ≤ W; decide) rfl ?_
  unfold __judge_table__lists_1 at h
  conv => whnf
  obtain rfl := Option.some.inj h
  exact endG_i [(0, 0)] rfl rfl rfl

theorem slices_IndexFunc___api_Job_api_Job__FC0 {ml : Int} (F : Nat) (s : (List api_Job)) (b : (List UInt8)) (r : Int) (h : slices_IndexFunc___api_Job_api_Job_ F s b = some r) : FC Tryz.prog (GM ml) 42 ((0, (AO.rows false ((@cStr b) :: []))) :: []) [(AV.sl (List.map api_Job.c s)), (AV.fn 43 ((AV.ptr 0 0 0) :: []))] (AV.int IntKind.i64 r) ((0, (AO.rows false ((@cStr b) :: []))) :: []) := by
  refine FC_ofG 2000 Tryz.func42 rfl (by kernel_rfl) mixed (by show 2 ≤ 19; decide) (by show 1 ≤ W; decide) rfl ?_
  unfold slices_IndexFunc___api_Job_api_Job_ at h
  conv => whnf
  obtain ⟨o0, h0, k0⟩ := bind_e h
  refine Or.inr (joins_i (o0 = Sum.inr (outR o0)) [] ((0, (AO.rows false (((AV.str b) :: []) :: []))) :: []) 1 ?_ (fun hR => ?_))
  · conv => whnf
    refine Or.inl ?_
    conv => whnf
    refine loops_i (α := (Nat × Int)) (fun xq => ((0, (AV.sl (List.map api_Job.c s))) :: ((1, (AV.fn 43 ((AV.ptr 0 0 0) :: []))) :: ((7, (AV.int IntKind.i64 (@Nat.cast Int instNatCastInt (List.length (List.map api_Job.c s))))) :: ((8, (AV.int IntKind.i64 xq.2)) :: []))))) (fun xq => ((0, (AO.rows false (((AV.str b) :: []) :: []))) :: [])) 1 (fun xq => slices_IndexFunc___api_Job_api_Job__l0 F s b xq.1 xq.2 = some o0) (fun xq => xq.1) (F, (0 : Int)) [(0, 0)] h0 rfl rfl rfl ?_
    rintro ⟨n_12, t8_13⟩ h0
    replace h0 : slices_IndexFunc___api_Job_api_Job__l0 F s b n_12 t8_13 = some o0 := h0
    cases n_12 with
    | zero => rw [slices_IndexFunc___api_Job_api_Job__l0.eq_1] at h0; cases h0
    | succ n_12 =>
      rw [slices_IndexFunc___api_Job_api_Job__l0.eq_2] at h0
      conv => whnf
      refine Or.inl ?_
      conv => whnf
      refine brn_i (fun hb => ?_) (fun hb => ?_)
      · replace h0 := cond_t h0 (by first | exact hb | (simp; done) | simpa using hb | simpa [chunk] using hb)
        conv => whnf
        refine Or.inl ?_
        conv => whnf
        obtain ⟨hg, h0⟩ := grd_e h0
        refine And.intro hg ?_
        conv => whnf
        obtain ⟨y_16, hy, h0⟩ := bind_e h0
        refine opt_i (api_Job.c y_16) (getE rfl hy) ?_
        conv => whnf
        obtain ⟨y_17, hy, h0⟩ := bind_e h0
        refine Or.inr (callG_i [0] (__judge_table__lists_1_FC0 F y_16 b y_17 hy) rfl rfl rfl rfl ?_)
        conv => whnf
        refine Or.inl ?_
        conv => whnf
        refine brn_i (fun hb => ?_) (fun hb => ?_)
        · replace h0 := cond_t h0 hb
          conv => whnf
          obtain rfl := Option.some.inj h0
          obtain rfl := Option.some.inj k0
          exact endG_i [(0, 0)] rfl rfl rfl
        · replace h0 := cond_f h0 hb
          conv => whnf
          exact round_i (n_12, (IntKind.wrap IntKind.i64 (t8_13 + (1 : Int)))) [(0, 0)] h0 (Nat.lt_succ_self _) rfl rfl rfl
      · replace h0 := cond_f h0 (by first | exact hb | (simp; done) | simpa using hb | simpa [chunk] using hb)
        conv => whnf
        obtain rfl := Option.some.inj h0
        exact end_i rfl [(0, 0)] rfl rfl rfl
  · replace k0 := elim_e hR k0
    generalize outR o0 = v at k0 ⊢
    conv => whnf
    obtain rfl := Option.some.inj k0
    exact endG_i [(0, 0)] rfl rfl rfl

theorem __judge_table__lists_FC0 {ml : Int} (F : Nat) (c : api_Cmd) (r_ : api_Result) (c_2 : (List api_Job)) (c_3 : Bool) (m : (List (judge_mark × api_Result))) (m_5 : (List (Int × Int))) (r : Bool) (h : __judge_table__lists F c r_ c_2 c_3 m m_5 = some r) : FC Tryz.prog (GM ml) 32 ((0, (AO.rows false (((AV.sl (List.map api_Job.c c_2)) :: ((AV.mapo 1) :: ((AV.mapo 2) :: ((AV.bool c_3) :: [])))) :: []))) :: ((1, (AO.mapo true (encM (fun (k_13 : judge_mark) => (AV.agg (judge_mark.c k_13))) (fun (k_13 : api_Result) => (AV.agg (api_Result.c k_13))) m))) :: ((2, (AO.mapo true (encM (fun (k_13 : Int) => (AV.int IntKind.i64 k_13)) (fun (k_13 : Int) => (AV.int IntKind.i64 k_13)) m_5))) :: []))) [(AV.ptr 0 0 0), (AV.agg (api_Cmd.c c)), (AV.agg (api_Result.c r_))] (AV.bool r) ((0, (AO.rows false (((AV.sl (List.map api_Job.c c_2)) :: ((AV.mapo 1) :: ((AV.mapo 2) :: ((AV.bool c_3) :: [])))) :: []))) :: ((1, (AO.mapo true (encM (fun (k_13 : judge_mark) => (AV.agg (judge_mark.c k_13))) (fun (k_13 : api_Result) => (AV.agg (api_Result.c k_13))) m))) :: ((2, (AO.mapo true (encM (fun (k_13 : Int) => (AV.int IntKind.i64 k_13)) (fun (k_13 : Int) => (AV.int IntKind.i64 k_13)) m_5))) :: []))) := by
  refine FC_ofG 2000 Tryz.func32 rfl (by kernel_rfl) mixed (by show 3 ≤ 63; decide) (by show 3 ≤ W; decide) rfl ?_
  unfold __judge_table__lists at h
  conv => whnf
  obtain ⟨c_1, h0, k0⟩ := bind_e h
  refine Or.inr (joins_i True ((0, (AV.ptr 0 0 0)) :: ((5, (AV.ptr 3 0 0)) :: ((7, (AV.ptr 4 0 0)) :: []))) ((0, (AO.rows false (((AV.sl (List.map api_Job.c c_2)) :: ((AV.mapo 1) :: ((AV.mapo 2) :: ((AV.bool c_3) :: [])))) :: []))) :: ((1, (AO.mapo true (encM (fun (k_13 : judge_mark) => (AV.agg (judge_mark.c k_13))) (fun (k_13 : api_Result) => (AV.agg (api_Result.c k_13))) m))) :: ((2, (AO.mapo true (encM (fun (k_13 : Int) => (AV.int IntKind.i64 k_13)) (fun (k_13 : Int) => (AV.int IntKind.i64 k_13)) m_5))) :: ((3, (AO.rows false (((AV.int IntKind.i64 r_.Err) :: ((AV.int IntKind.i64 r_.Time) :: ((AV.sl (List.map api_Job.c r_.Jobs)) :: []))) :: []))) :: ((4, (AO.rows false (((AV.str c_1) :: []) :: []))) :: []))))) 5 ?_ (fun _ => ?_))
  · conv => whnf
    refine Or.inl ?_
    conv => whnf
    refine brn_i (fun hb => ?_) (fun hb => ?_)
    · replace h0 := cond_t h0 (by first | exact hb | (simp; done) | simpa using hb | simpa [chunk] using hb)
      conv => whnf
      refine And.intro (by decide) ?_
      conv => whnf
      obtain ⟨y_2, hy, h0⟩ := bind_e h0
      refine opt_i (api_Job.c y_2) (getE rfl hy) ?_
      conv => whnf
      refine And.intro (by kernel_rfl) ?_
      conv => whnf
      obtain rfl := Option.some.inj h0
      exact end_i trivial [(0, 0), (1, 1), (2, 2), (3, 16), (4, 48)] rfl rfl rfl
    · replace h0 := cond_f h0 (by first | exact hb | (simp; done) | simpa using hb | simpa [chunk] using hb)
      conv => whnf
      obtain rfl := Option.some.inj h0
      exact end_i trivial [(0, 0), (1, 1), (2, 2), (3, 16), (4, 48)] rfl rfl rfl
  · conv => whnf
    obtain ⟨y_3, hy, k0⟩ := bind_e k0
    refine Or.inr (callG_i [4] (slices_IndexFunc___api_Job_api_Job__FC0 F c_2 c_1 y_3 hy) rfl rfl rfl rfl ?_)
    conv => whnf
    obtain ⟨i_4, h1, k1⟩ := bind_e k0
    refine Or.inr (joins_i True ((0, (AV.ptr 0 0 0)) :: ((5, (AV.ptr 3 0 0)) :: ((8, (AV.int IntKind.i64 i_4)) :: []))) ((0, (AO.rows false (((AV.sl (List.map api_Job.c c_2)) :: ((AV.mapo 1) :: ((AV.mapo 2) :: ((AV.bool c_3) :: [])))) :: []))) :: ((1, (AO.mapo true (encM (fun (k_13 : judge_mark) => (AV.agg (judge_mark.c k_13))) (fun (k_13 : api_Result) => (AV.agg (api_Result.c k_13))) m))) :: ((2, (AO.mapo true (encM (fun (k_13 : Int) => (AV.int IntKind.i64 k_13)) (fun (k_13 : Int) => (AV.int IntKind.i64 k_13)) m_5))) :: ((3, (AO.rows false (((AV.int IntKind.i64 r_.Err) :: ((AV.int IntKind.i64 r_.Time) :: ((AV.sl (List.map api_Job.c r_.Jobs)) :: []))) :: []))) :: [])))) 4 ?_ (fun _ => ?_))
    · conv => whnf
      refine Or.inl ?_
      conv => whnf
      refine brn_i (fun hb => ?_) (fun hb => ?_)
      · replace h1 := cond_t h1 hb
        conv => whnf
        obtain rfl := Option.some.inj h1
        exact end_i trivial [(0, 0), (1, 1), (2, 2), (3, 3)] rfl rfl rfl
      · replace h1 := cond_f h1 hb
        conv => whnf
        obtain rfl := Option.some.inj h1
        exact end_i trivial [(0, 0), (1, 1), (2, 2), (3, 3)] rfl rfl rfl
    · conv => whnf
      refine And.intro (LenAll.map (fun _ => rfl)) ?_
      conv => whnf
      obtain ⟨hg, k1⟩ := grd_e k1
      refine And.intro hg ?_
      conv => whnf
      obtain ⟨hg, k1⟩ := grd_e k1
      refine And.intro (by first | exact hg | (simp; done) | simpa using hg | simpa [chunk] using hg | (simp [chunk] at hg ⊢; omega)) ?_
      conv => whnf
      obtain ⟨hg, k1⟩ := grd_e k1
      refine And.intro (by first | exact hg | (simp; done) | simpa using hg | simpa [chunk] using hg | (simp [chunk] at hg ⊢; omega)) ?_
      conv => whnf
      refine Or.inl ?_
      conv => whnf
      refine brn_i (fun hb => ?_) (fun hb => ?_)
      · replace k1 := cond_t k1 hb
        conv => whnf
        refine brn_i (fun hb => ?_) (fun hb => ?_)
        · replace k1 := cond_t k1 (by first | exact hb | (simp; done) | simpa using hb | simpa [chunk] using hb)
          conv => whnf
          refine And.intro trivial ?_
          conv => whnf
          refine And.intro (by omega) ?_
          conv => whnf
          obtain ⟨hg, k1⟩ := grd_e k1
          refine And.intro (by first | exact hg | (simp; done) | simpa using hg | simpa [chunk] using hg | (simp [chunk] at hg ⊢; omega)) ?_
          conv => whnf
          obtain ⟨hg, k1⟩ := grd_e k1
          refine And.intro (by first | exact hg | (simp; done) | simpa using hg | simpa [chunk] using hg | (simp [chunk] at hg ⊢; omega)) ?_
          conv => whnf
          refine Or.inl ?_
          conv => whnf
          obtain ⟨y_5, hy, k1⟩ := bind_e k1
          refine ⟨_, _, (FC_arg2 (cons2 (congrArg AV.sl (by first | (simp; done) | rfl | (rw [List.map_append]; rfl))) rfl) (slices_Equal___api_Job_api_Job__FC F (List.take (Int.toNat (@Nat.cast Int instNatCastInt (List.length (List.map api_Job.c r_.Jobs)))) (List.drop (Int.toNat i_4) c_2)) r_.Jobs y_5 hy)), Or.inl ⟨rfl, rfl, ?_⟩⟩
          conv => whnf
          refine And.intro (by kernel_rfl) ?_
          conv => whnf
          obtain rfl := Option.some.inj k1
          exact endG_i [(0, 0), (1, 1), (2, 2)] rfl rfl rfl
        · replace k1 := cond_f k1 (by first | exact hb | (simp; done) | simpa using hb | simpa [chunk] using hb)
          conv => whnf
          refine And.intro (by kernel_rfl) ?_
          conv => whnf
          obtain rfl := Option.some.inj k1
          exact endG_i [(0, 0), (1, 1), (2, 2)] rfl rfl rfl
      · replace k1 := cond_f k1 hb
        conv => whnf
        refine And.intro (by kernel_rfl) ?_
        conv => whnf
        obtain rfl := Option.some.inj k1
        exact endG_i [(0, 0), (1, 1), (2, 2)] rfl rfl rfl

theorem __judge_table__takes_FC0 {ml : Int} (F : Nat) (e : api_Event) (c : (List api_Job)) (c_2 : Bool) (m : (List (judge_mark × api_Result))) (m_4 : (List (Int × Int))) (r : (Bool × (List api_Job) × Bool × (List (judge_mark × api_Result)) × (List (Int × Int)))) (h : __judge_table__takes F e c c_2 m m_4 = some r) : FC Tryz.prog (GM ml) 20 ((0, (AO.rows false (((AV.sl (List.map api_Job.c c)) :: ((AV.mapo 1) :: ((AV.mapo 2) :: ((AV.bool c_2) :: [])))) :: []))) :: ((1, (AO.mapo true (encM (fun (k_13 : judge_mark) => (AV.agg (judge_mark.c k_13))) (fun (k_13 : api_Result) => (AV.agg (api_Result.c k_13))) m))) :: ((2, (AO.mapo true (encM (fun (k_13 : Int) => (AV.int IntKind.i64 k_13)) (fun (k_13 : Int) => (AV.int IntKind.i64 k_13)) m_4))) :: []))) [(AV.ptr 0 0 0), (AV.agg (api_Event.c e))] (AV.bool r.1) ((0, (AO.rows false (((AV.sl (List.map api_Job.c r.2.1)) :: ((AV.mapo 1) :: ((AV.mapo 2) :: ((AV.bool r.2.2.1) :: [])))) :: []))) :: ((1, (AO.mapo true (encM (fun (k_13 : judge_mark) => (AV.agg (judge_mark.c k_13))) (fun (k_13 : api_Result) => (AV.agg (api_Result.c k_13))) r.2.2.2.1))) :: ((2, (AO.mapo true (encM (fun (k_13 : Int) => (AV.int IntKind.i64 k_13)) (fun (k_13 : Int) => (AV.int IntKind.i64 k_13)) r.2.2.2.2))) :: []))) := by
  refine FC_ofG 2000 Tryz.func20 rfl (by kernel_rfl) mixed (by show 2 ≤ 124; decide) (by show 3 ≤ W; decide) rfl ?_
  unfold __judge_table__takes at h
  conv => whnf
  refine And.intro (by kernel_rfl) ?_
  conv => whnf
  obtain ⟨t31_1, h0, k0⟩ := bind_e h
  refine Or.inr (joins_i True ((0, (AV.ptr 0 0 0)) :: ((5, (AV.ptr 3 0 0)) :: ((6, (AV.ptr 4 0 0)) :: ((31, (AV.bool t31_1)) :: [])))) ((0, (AO.rows false (((AV.sl (List.map api_Job.c c)) :: ((AV.mapo 1) :: ((AV.mapo 2) :: ((AV.bool c_2) :: [])))) :: []))) :: ((1, (AO.mapo true (encM (fun (k_13 : judge_mark) => (AV.agg (judge_mark.c k_13))) (fun (k_13 : api_Result) => (AV.agg (api_Result.c k_13))) m))) :: ((2, (AO.mapo true (encM (fun (k_13 : Int) => (AV.int IntKind.i64 k_13)) (fun (k_13 : Int) => (AV.int IntKind.i64 k_13)) m_4))) :: ((3, (AO.rows false (((AV.int IntKind.i64 e.Order.Cmd.Kind) :: ((AV.int IntKind.i64 e.Order.Cmd.Client) :: ((AV.int IntKind.i64 e.Order.Cmd.Seq) :: ((AV.str e.Order.Cmd.Name) :: ((AV.str e.Order.Cmd.Expr) :: ((AV.str e.Order.Cmd.Zone) :: ((AV.str e.Order.Cmd.Token) :: ((AV.int IntKind.i64 e.Order.Cmd.Time) :: [])))))))) :: []))) :: ((4, (AO.rows false (((AV.int IntKind.i64 e.Result.Err) :: ((AV.int IntKind.i64 e.Result.Time) :: ((AV.sl (List.map api_Job.c e.Result.Jobs)) :: []))) :: []))) :: []))))) 5 ?_ (fun _ => ?_))
  · conv => whnf
    refine Or.inl ?_
    conv => whnf
    refine brn_i (fun hb => ?_) (fun hb => ?_)
    · replace h0 := cond_t h0 hb
      conv => whnf
      obtain rfl := Option.some.inj h0
      exact end_i trivial [(0, 0), (1, 1), (2, 2), (3, 64), (4, 72)] rfl rfl rfl
    · replace h0 := cond_f h0 hb
      conv => whnf
      refine brn_i (fun hb => ?_) (fun hb => ?_)
      · replace h0 := cond_t h0 hb
        conv => whnf
        obtain rfl := Option.some.inj h0
        exact end_i trivial [(0, 0), (1, 1), (2, 2), (3, 64), (4, 72)] rfl rfl rfl
      · replace h0 := cond_f h0 hb
        conv => whnf
        refine Or.inl ?_
        conv => whnf
        obtain ⟨y_2, hy, h0⟩ := bind_e h0
        refine ⟨_, _, (judge_refused_FC F e.Result.Err y_2 hy), Or.inl ⟨rfl, rfl, ?_⟩⟩
        conv => whnf
        obtain rfl := Option.some.inj h0
        exact end_i trivial [(0, 0), (1, 1), (2, 2), (3, 64), (4, 72)] rfl rfl rfl
  · conv => whnf
    refine Or.inl ?_
    conv => whnf
    refine brn_i (fun hb => ?_) (fun hb => ?_)
    · replace k0 := cond_t k0 hb
      conv => whnf
      obtain rfl := Option.some.inj k0
      exact endG_i [(0, 0), (1, 1), (2, 2)] rfl rfl rfl
    · replace k0 := cond_f k0 hb
      conv => whnf
      obtain ⟨t42_3, h1, k1⟩ := bind_e k0
      refine Or.inr (joins_i True ((0, (AV.ptr 0 0 0)) :: ((5, (AV.ptr 3 0 0)) :: ((6, (AV.ptr 4 0 0)) :: ((42, (AV.bool t42_3)) :: [])))) ((0, (AO.rows false (((AV.sl (List.map api_Job.c c)) :: ((AV.mapo 1) :: ((AV.mapo 2) :: ((AV.bool c_2) :: [])))) :: []))) :: ((1, (AO.mapo true (encM (fun (k_13 : judge_mark) => (AV.agg (judge_mark.c k_13))) (fun (k_13 : api_Result) => (AV.agg (api_Result.c k_13))) m))) :: ((2, (AO.mapo true (encM (fun (k_13 : Int) => (AV.int IntKind.i64 k_13)) (fun (k_13 : Int) => (AV.int IntKind.i64 k_13)) m_4))) :: ((3, (AO.rows false (((AV.int IntKind.i64 e.Order.Cmd.Kind) :: ((AV.int IntKind.i64 e.Order.Cmd.Client) :: ((AV.int IntKind.i64 e.Order.Cmd.Seq) :: ((AV.str e.Order.Cmd.Name) :: ((AV.str e.Order.Cmd.Expr) :: ((AV.str e.Order.Cmd.Zone) :: ((AV.str e.Order.Cmd.Token) :: ((AV.int IntKind.i64 e.Order.Cmd.Time) :: [])))))))) :: []))) :: ((4, (AO.rows false (((AV.int IntKind.i64 e.Result.Err) :: ((AV.int IntKind.i64 e.Result.Time) :: ((AV.sl (List.map api_Job.c e.Result.Jobs)) :: []))) :: []))) :: []))))) 5 ?_ (fun _ => ?_))
      · conv => whnf
        refine Or.inl ?_
        conv => whnf
        refine brn_i (fun hb => ?_) (fun hb => ?_)
        · replace h1 := cond_t h1 hb
          conv => whnf
          obtain rfl := Option.some.inj h1
          exact end_i trivial [(0, 0), (1, 1), (2, 2), (3, 3), (4, 4)] rfl rfl rfl
        · replace h1 := cond_f h1 hb
          conv => whnf
          obtain rfl := Option.some.inj h1
          exact end_i trivial [(0, 0), (1, 1), (2, 2), (3, 3), (4, 4)] rfl rfl rfl
      · conv => whnf
        refine Or.inl ?_
        conv => whnf
        refine brn_i (fun hb => ?_) (fun hb => ?_)
        · replace k1 := cond_t k1 hb
          conv => whnf
          obtain rfl := Option.some.inj k1
          exact endG_i [(0, 0), (1, 1), (2, 2)] rfl rfl rfl
        · replace k1 := cond_f k1 hb
          conv => whnf
          refine Or.inl ?_
          conv => whnf
          refine brn_i (fun hb => ?_) (fun hb => ?_)
          · replace k1 := cond_t k1 hb
            conv => whnf
            obtain ⟨y_4, hy, k1⟩ := bind_e k1
            refine Or.inr (callG_i [0, 1, 2] (__judge_table__does_FC0 F e.Order.Cmd e.Result c c_2 m m_4 y_4 hy) rfl rfl rfl rfl ?_)
            conv => whnf
            obtain rfl := Option.some.inj k1
            exact endG_i [(0, 0), (1, 1), (2, 2)] rfl rfl rfl
          · replace k1 := cond_f k1 hb
            conv => whnf
            refine And.intro (by kernel_rfl) ?_
            conv => whnf
            refine Or.inr (mlook_i (ek := (fun (k_13 : Int) => (AV.int IntKind.i64 k_13))) (en := (fun (k_13 : Int) => (AV.int IntKind.i64 k_13))) m_4 e.Order.Cmd.Client (0 : Int) rfl rfl (keq_int Tryz.underlying3) ⟨2, .int IntKind.i64 0, by kernel_rfl, by kernel_rfl, (Wk.refl _)⟩ ?_)
            conv => whnf
            refine And.intro (by kernel_rfl) ?_
            conv => whnf
            refine Or.inl ?_
            conv => whnf
            refine brn_i (fun hb => ?_) (fun hb => ?_)
            · replace k1 := cond_t k1 hb
              conv => whnf
              refine Or.inl ?_
              conv => whnf
              refine brn_i (fun hb => ?_) (fun hb => ?_)
              · replace k1 := cond_t k1 hb
                conv => whnf
                obtain rfl := Option.some.inj k1
                exact endG_i [(0, 0), (1, 1), (2, 2)] rfl rfl rfl
              · replace k1 := cond_f k1 hb
                conv => whnf
                obtain rfl := Option.some.inj k1
                exact endG_i [(0, 0), (1, 1), (2, 2)] rfl rfl rfl
            · replace k1 := cond_f k1 hb
              conv => whnf
              refine And.intro (by kernel_rfl) ?_
              conv => whnf
              refine Or.inr (mlook_i (ek := (fun (k_13 : judge_mark) => (AV.agg (judge_mark.c k_13)))) (en := (fun (k_13 : api_Result) => (AV.agg (api_Result.c k_13)))) m (judge_mark.mk e.Order.Cmd.Client e.Order.Cmd.Seq) (api_Result.mk (0 : Int) (0 : Int) []) rfl rfl (fun a b => (keq_pair Tryz.underlying77 _ _ _ _ _ _).trans (by cases a; cases b; simp)) ⟨28, .agg [.int IntKind.i64 0, .int IntKind.i64 0, .esl], by kernel_rfl, by kernel_rfl, (Wk.a (WkL.cons (Wk.refl _) (WkL.cons (Wk.refl _) (WkL.cons Wk.esl WkL.nil))))⟩ ?_)
              conv => whnf
              refine And.intro (by kernel_rfl) ?_
              conv => whnf
              refine Or.inl ?_
              conv => whnf
              refine brn_i (fun hb => ?_) (fun hb => ?_)
              · replace k1 := cond_t k1 hb
                conv => whnf
                refine Or.inl ?_
                conv => whnf
                obtain ⟨y_5, hy, k1⟩ := bind_e k1
                refine ⟨_, _, (judge_same_FC F (Option.getD (mget (judge_mark.mk e.Order.Cmd.Client e.Order.Cmd.Seq) m) (api_Result.mk (0 : Int) (0 : Int) [])) e.Result y_5 hy), Or.inl ⟨rfl, rfl, ?_⟩⟩
                conv => whnf
                obtain rfl := Option.some.inj k1
                exact endG_i [(0, 0), (1, 1), (2, 2)] rfl rfl rfl
              · replace k1 := cond_f k1 hb
                conv => whnf
                refine And.intro (by kernel_rfl) ?_
                conv => whnf
                obtain ⟨hg, k1⟩ := grd_e k1
                refine Or.inr (mput_i (ek := (fun (k_13 : judge_mark) => (AV.agg (judge_mark.c k_13)))) (en := (fun (k_13 : api_Result) => (AV.agg (api_Result.c k_13)))) m (judge_mark.mk e.Order.Cmd.Client e.Order.Cmd.Seq) e.Result rfl rfl (.refl _) rfl (fun a b => (keq_pair Tryz.underlying77 _ _ _ _ _ _).trans (by cases a; cases b; simp)) hg ?_)
                conv => whnf
                refine And.intro (by kernel_rfl) ?_
                conv => whnf
                obtain ⟨t104_6, h2, k2⟩ := bind_e k1
                refine Or.inr (joins_i True ((0, (AV.ptr 0 0 0)) :: ((5, (AV.ptr 3 0 0)) :: ((6, (AV.ptr 4 0 0)) :: ((104, (AV.bool t104_6)) :: [])))) ((0, (AO.rows false (((AV.sl (List.map api_Job.c c)) :: ((AV.mapo 1) :: ((AV.mapo 2) :: ((AV.bool c_2) :: [])))) :: []))) :: ((1, (AO.mapo true (encM (fun (k_13 : judge_mark) => (AV.agg (judge_mark.c k_13))) (fun (k_13 : api_Result) => (AV.agg (api_Result.c k_13))) (mput (judge_mark.mk e.Order.Cmd.Client e.Order.Cmd.Seq) e.Result m)))) :: ((2, (AO.mapo true (encM (fun (k_13 : Int) => (AV.int IntKind.i64 k_13)) (fun (k_13 : Int) => (AV.int IntKind.i64 k_13)) m_4))) :: ((3, (AO.rows false (((AV.int IntKind.i64 e.Order.Cmd.Kind) :: ((AV.int IntKind.i64 e.Order.Cmd.Client) :: ((AV.int IntKind.i64 e.Order.Cmd.Seq) :: ((AV.str e.Order.Cmd.Name) :: ((AV.str e.Order.Cmd.Expr) :: ((AV.str e.Order.Cmd.Zone) :: ((AV.str e.Order.Cmd.Token) :: ((AV.int IntKind.i64 e.Order.Cmd.Time) :: [])))))))) :: []))) :: ((4, (AO.rows false (((AV.int IntKind.i64 e.Result.Err) :: ((AV.int IntKind.i64 e.Result.Time) :: ((AV.sl (List.map api_Job.c e.Result.Jobs)) :: []))) :: []))) :: []))))) 5 ?_ (fun _ => ?_))
                · conv => whnf
                  refine Or.inl ?_
                  conv => whnf
                  refine brn_i (fun hb => ?_) (fun hb => ?_)
                  · replace h2 := cond_t h2 hb
                    conv => whnf
                    obtain rfl := Option.some.inj h2
                    exact end_i trivial [(0, 0), (1, 1), (2, 2), (3, 3), (4, 4)] rfl rfl rfl
                  · replace h2 := cond_f h2 hb
                    conv => whnf
                    obtain rfl := Option.some.inj h2
                    exact end_i trivial [(0, 0), (1, 1), (2, 2), (3, 3), (4, 4)] rfl rfl rfl
                · conv => whnf
                  obtain ⟨m_7, h3, k3⟩ := bind_e k2
                  refine Or.inr (joins_i True ((0, (AV.ptr 0 0 0)) :: ((5, (AV.ptr 3 0 0)) :: ((6, (AV.ptr 4 0 0)) :: []))) ((0, (AO.rows false (((AV.sl (List.map api_Job.c c)) :: ((AV.mapo 1) :: ((AV.mapo 2) :: ((AV.bool c_2) :: [])))) :: []))) :: ((1, (AO.mapo true (encM (fun (k_13 : judge_mark) => (AV.agg (judge_mark.c k_13))) (fun (k_13 : api_Result) => (AV.agg (api_Result.c k_13))) (mput (judge_mark.mk e.Order.Cmd.Client e.Order.Cmd.Seq) e.Result m)))) :: ((2, (AO.mapo true (encM (fun (k_13 : Int) => (AV.int IntKind.i64 k_13)) (fun (k_13 : Int) => (AV.int IntKind.i64 k_13)) m_7))) :: ((3, (AO.rows false (((AV.int IntKind.i64 e.Order.Cmd.Kind) :: ((AV.int IntKind.i64 e.Order.Cmd.Client) :: ((AV.int IntKind.i64 e.Order.Cmd.Seq) :: ((AV.str e.Order.Cmd.Name) :: ((AV.str e.Order.Cmd.Expr) :: ((AV.str e.Order.Cmd.Zone) :: ((AV.str e.Order.Cmd.Token) :: ((AV.int IntKind.i64 e.Order.Cmd.Time) :: [])))))))) :: []))) :: ((4, (AO.rows false (((AV.int IntKind.i64 e.Result.Err) :: ((AV.int IntKind.i64 e.Result.Time) :: ((AV.sl (List.map api_Job.c e.Result.Jobs)) :: []))) :: []))) :: []))))) 5 ?_ (fun _ => ?_))
                  · conv => whnf
                    refine Or.inl ?_
                    conv => whnf
                    refine brn_i (fun hb => ?_) (fun hb => ?_)
                    · replace h3 := cond_t h3 hb
                      conv => whnf
                      refine And.intro (by kernel_rfl) ?_
                      conv => whnf
                      obtain ⟨hg, h3⟩ := grd_e h3
                      refine Or.inr (mput_i (ek := (fun (k_13 : Int) => (AV.int IntKind.i64 k_13))) (en := (fun (k_13 : Int) => (AV.int IntKind.i64 k_13))) m_4 e.Order.Cmd.Client e.Order.Cmd.Seq rfl rfl (.refl _) rfl (keq_int Tryz.underlying3) hg ?_)
                      conv => whnf
                      refine And.intro (by kernel_rfl) ?_
                      conv => whnf
                      obtain rfl := Option.some.inj h3
                      exact end_i trivial [(0, 0), (1, 1), (2, 2), (3, 3), (4, 4)] rfl rfl rfl
                    · replace h3 := cond_f h3 hb
                      conv => whnf
                      obtain rfl := Option.some.inj h3
                      exact end_i trivial [(0, 0), (1, 1), (2, 2), (3, 3), (4, 4)] rfl rfl rfl
                  · conv => whnf
                    refine Or.inl ?_
                    conv => whnf
                    refine brn_i (fun hb => ?_) (fun hb => ?_)
                    · replace k3 := cond_t k3 hb
                      conv => whnf
                      obtain ⟨y_8, hy, k3⟩ := bind_e k3
                      refine Or.inr (callG_i [0, 1, 2] (__judge_table__lists_FC0 F e.Order.Cmd e.Result c c_2 (mput (judge_mark.mk e.Order.Cmd.Client e.Order.Cmd.Seq) e.Result m) m_7 y_8 hy) rfl rfl rfl rfl ?_)
                      conv => whnf
                      obtain rfl := Option.some.inj k3
                      exact endG_i [(0, 0), (1, 1), (2, 2)] rfl rfl rfl
                    · replace k3 := cond_f k3 hb
                      conv => whnf
                      obtain ⟨y_9, hy, k3⟩ := bind_e k3
                      refine Or.inr (callG_i [0, 1, 2] (__judge_table__does_FC0 F e.Order.Cmd e.Result c c_2 (mput (judge_mark.mk e.Order.Cmd.Client e.Order.Cmd.Seq) e.Result m) m_7 y_9 hy) rfl rfl rfl rfl ?_)
                      conv => whnf
                      obtain rfl := Option.some.inj k3
                      exact endG_i [(0, 0), (1, 1), (2, 2)] rfl rfl rfl

theorem judge_run_FC0 {ml : Int} (F : Nat) (list : (List api_Event)) (r : (Int × (List api_Job) × Bool × (List (judge_mark × api_Result)) × (List (Int × Int)))) (h : judge_run F list = some r) : FC Tryz.prog (GM ml) 13 [] [(AV.sl (List.map api_Event.c list))] (AV.tup ((AV.ptr 0 0 0) :: ((AV.int IntKind.i64 r.1) :: []))) ((0, (AO.rows false (((AV.sl (List.map api_Job.c r.2.1)) :: ((AV.mapo 1) :: ((AV.mapo 2) :: ((AV.bool r.2.2.1) :: [])))) :: []))) :: ((1, (AO.mapo true (encM (fun (k_13 : judge_mark) => (AV.agg (judge_mark.c k_13))) (fun (k_13 : api_Result) => (AV.agg (api_Result.c k_13))) r.2.2.2.1))) :: ((2, (AO.mapo true (encM (fun (k_13 : Int) => (AV.int IntKind.i64 k_13)) (fun (k_13 : Int) => (AV.int IntKind.i64 k_13)) r.2.2.2.2))) :: []))) := by
  refine FC_ofG 2000 Tryz.func13 rfl (by kernel_rfl) mixed (by show 1 ≤ 37; decide) (by show 0 ≤ W; decide) rfl ?_
  unfold judge_run at h
  conv => whnf
  obtain ⟨o0, h0, k0⟩ := bind_e h
  refine Or.inr (joins_i (o0 = Sum.inr (outR o0)) ((0, (AV.sl (List.map api_Event.c list))) :: ((4, (AV.ptr 0 0 0)) :: [])) ((0, (AO.rows false (((AV.sl (List.map api_Job.c (outR o0).1)) :: ((AV.mapo 1) :: ((AV.mapo 2) :: ((AV.bool (outR o0).2.1) :: [])))) :: []))) :: ((1, (AO.mapo true (encM (fun (k_13 : judge_mark) => (AV.agg (judge_mark.c k_13))) (fun (k_13 : api_Result) => (AV.agg (api_Result.c k_13))) (outR o0).2.2.1))) :: ((2, (AO.mapo true (encM (fun (k_13 : Int) => (AV.int IntKind.i64 k_13)) (fun (k_13 : Int) => (AV.int IntKind.i64 k_13)) (outR o0).2.2.2))) :: []))) 3 ?_ (fun hR => ?_))
  · conv => whnf
    refine Or.inl ?_
    conv => whnf
    refine loops_w (α := (Nat × Int × (List api_Job) × Bool × (List (judge_mark × api_Result)) × (List (Int × Int)))) (fun xq => ((0, (AV.sl (List.map api_Event.c list))) :: ((4, (AV.ptr 0 0 0)) :: ((12, (AV.sl (List.map api_Event.c list))) :: ((13, (AV.int IntKind.i64 (@Nat.cast Int instNatCastInt (List.length (List.map api_Event.c list))))) :: ((14, (AV.int IntKind.i64 xq.2.1)) :: [])))))) (fun xq => ((0, (AO.rows false (((AV.sl (List.map api_Job.c xq.2.2.1)) :: ((AV.mapo 1) :: ((AV.mapo 2) :: ((AV.bool xq.2.2.2.1) :: [])))) :: []))) :: ((1, (AO.mapo true (encM (fun (k_13 : judge_mark) => (AV.agg (judge_mark.c k_13))) (fun (k_13 : api_Result) => (AV.agg (api_Result.c k_13))) xq.2.2.2.2.1))) :: ((2, (AO.mapo true (encM (fun (k_13 : Int) => (AV.int IntKind.i64 k_13)) (fun (k_13 : Int) => (AV.int IntKind.i64 k_13)) xq.2.2.2.2.2))) :: [])))) 3 (fun xq => judge_run_l0 F list xq.1 xq.2.1 xq.2.2.1 xq.2.2.2.1 xq.2.2.2.2.1 xq.2.2.2.2.2 = some o0) (fun xq => xq.1) (F, (0 : Int), [], false, [], []) [(0, 48), (1, 24), (2, 32)] h0 (WkL.cons (Wk.eq rfl) (WkL.cons (Wk.eq rfl) (WkL.cons (Wk.eq rfl) (WkL.cons (Wk.eq rfl) (WkL.cons (Wk.eq rfl) WkL.nil))))) (WkOs.cons (WkO.r (WkR.cons (WkL.cons Wk.esl (WkL.cons (Wk.eq rfl) (WkL.cons (Wk.eq rfl) (WkL.cons (Wk.eq rfl) WkL.nil)))) WkR.nil)) (WkOs.cons (WkO.eq (Option.some.inj rfl)) (WkOs.cons (WkO.eq (Option.some.inj rfl)) WkOs.nil))) rfl ?_
    rintro ⟨n_16, t14_17, c_18, c_19, m_20, m_21⟩ h0
    replace h0 : judge_run_l0 F list n_16 t14_17 c_18 c_19 m_20 m_21 = some o0 := h0
    cases n_16 with
    | zero => rw [judge_run_l0.eq_1] at h0; cases h0
    | succ n_16 =>
      rw [judge_run_l0.eq_2] at h0
      conv => whnf
      refine Or.inl ?_
      conv => whnf
      refine brn_i (fun hb => ?_) (fun hb => ?_)
      · replace h0 := cond_t h0 (by first | exact hb | (simp; done) | simpa using hb | simpa [chunk] using hb)
        conv => whnf
        refine Or.inl ?_
        conv => whnf
        obtain ⟨hg, h0⟩ := grd_e h0
        refine And.intro hg ?_
        conv => whnf
        obtain ⟨y_24, hy, h0⟩ := bind_e h0
        refine opt_i (api_Event.c y_24) (getE rfl hy) ?_
        conv => whnf
        obtain ⟨y_25, hy, h0⟩ := bind_e h0
        refine Or.inr (callG_i [0, 1, 2] (__judge_table__takes_FC0 F y_24 c_18 c_19 m_20 m_21 y_25 hy) rfl rfl rfl rfl ?_)
        conv => whnf
        refine Or.inl ?_
        conv => whnf
        refine brn_i (fun hb => ?_) (fun hb => ?_)
        · replace h0 := cond_t h0 hb
          conv => whnf
          obtain rfl := Option.some.inj h0
          obtain rfl := Option.some.inj k0
          exact endG_i [(0, 0), (1, 1), (2, 2)] rfl rfl rfl
        · replace h0 := cond_f h0 hb
          conv => whnf
          exact round_i (n_16, (IntKind.wrap IntKind.i64 (t14_17 + (1 : Int))), y_25.2.1, y_25.2.2.1, y_25.2.2.2.1, y_25.2.2.2.2) [(0, 0), (1, 1), (2, 2)] h0 (Nat.lt_succ_self _) rfl rfl rfl
      · replace h0 := cond_f h0 (by first | exact hb | (simp; done) | simpa using hb | simpa [chunk] using hb)
        conv => whnf
        obtain rfl := Option.some.inj h0
        exact end_i rfl [(0, 0), (1, 1), (2, 2)] rfl rfl rfl
  · replace k0 := elim_e hR k0
    generalize outR o0 = v at k0 ⊢
    obtain ⟨c_8, c_9, m_10, m_11⟩ := v
    conv => whnf
    obtain rfl := Option.some.inj k0
    exact endG_i [(0, 0), (1, 1), (2, 2)] rfl rfl rfl

theorem judge_Events_FC {ml : Int} (F : Nat) (list : (List api_Event)) (r : Int) (h : judge_Events F list = some r) : FC Tryz.prog (GM ml) 7 [] [(AV.sl (List.map api_Event.c list))] (.int IntKind.i64 r) [] := by
  refine FC_of 2000 Tryz.func7 rfl (by kernel_rfl) mixed (by show 1 ≤ 11; decide) ?_
  unfold judge_Events at h
  conv => whnf
  refine Or.inl ?_
  conv => whnf
  obtain ⟨y_0, hy, h⟩ := bind_e h
  refine ⟨_, _, (judge_run_FC0 F list y_0 hy), Or.inr ⟨[], rfl, ?_⟩⟩
  conv => whnf
  obtain rfl := Option.some.inj h
  exact rfl

theorem judge_Table_FC {ml : Int} (F : Nat) (list : (List api_Event)) (r : (List api_Job)) (h : judge_Table F list = some r) : FC Tryz.prog (GM ml) 8 [] [(AV.sl (List.map api_Event.c list))] (.sl (List.map api_Job.c r)) [] := by
  refine FC_of 2000 Tryz.func8 rfl (by kernel_rfl) mixed (by show 1 ≤ 15; decide) ?_
  unfold judge_Table at h
  conv => whnf
  refine Or.inl ?_
  conv => whnf
  obtain ⟨y_0, hy, h⟩ := bind_e h
  refine ⟨_, _, (judge_run_FC0 F list y_0 hy), Or.inr ⟨[], rfl, ?_⟩⟩
  conv => whnf
  refine Or.inl ?_
  conv => whnf
  obtain ⟨y_1, hy, h⟩ := bind_e h
  refine ⟨_, _, (FC_close (slices_Clone___api_Job_api_Job__FC0 F y_0.2.1 y_1 hy) rfl), Or.inr ⟨[], rfl, ?_⟩⟩
  conv => whnf
  obtain rfl := Option.some.inj h
  exact rfl

theorem judge_Calls_1_FC0 {ml : Int} (F : Nat) (e : api_Event) (b : api_Call) (r : Bool) (h : judge_Calls_1 F e b = some r) : FC Tryz.prog (GM ml) 9 ((0, (AO.rows false ((api_Call.c b) :: []))) :: []) [(AV.agg (api_Event.c e)), (AV.ptr 0 0 0)] (AV.bool r) ((0, (AO.rows false ((api_Call.c b) :: []))) :: []) := by
  refine FC_ofG 2000 Tryz.func9 rfl (by kernel_rfl) mixed (by show 2 ≤ 37; decide) (by show 1 ≤ W; decide) rfl ?_
  unfold judge_Calls_1 at h
  conv => whnf
  refine Or.inl ?_
  conv => whnf
  refine brn_i (fun hb => ?_) (fun hb => ?_)
  · replace h := cond_t h hb
    conv => whnf
    refine And.intro ⟨by kernel_rfl, _, rfl⟩ ?_
    conv => whnf
    refine brn_i (fun hb => ?_) (fun hb => ?_)
    · replace h := cond_t h hb
      conv => whnf
      refine brn_i (fun hb => ?_) (fun hb => ?_)
      · replace h := cond_t h hb
        conv => whnf
        refine brn_i (fun hb => ?_) (fun hb => ?_)
        · replace h := cond_t h hb
          conv => whnf
          refine Or.inl ?_
          conv => whnf
          obtain ⟨y_0, hy, h⟩ := bind_e h
          refine ⟨_, _, (judge_same_FC F e.Result b.Result y_0 hy), Or.inl ⟨rfl, rfl, ?_⟩⟩
          conv => whnf
          obtain rfl := Option.some.inj h
          exact endG_i [(0, 0)] rfl rfl rfl
        · replace h := cond_f h hb
          conv => whnf
          obtain rfl := Option.some.inj h
          exact endG_i [(0, 0)] rfl rfl rfl
      · replace h := cond_f h hb
        conv => whnf
        obtain rfl := Option.some.inj h
        exact endG_i [(0, 0)] rfl rfl rfl
    · replace h := cond_f h hb
      conv => whnf
      obtain rfl := Option.some.inj h
      exact endG_i [(0, 0)] rfl rfl rfl
  · replace h := cond_f h hb
    conv => whnf
    obtain rfl := Option.some.inj h
    exact endG_i [(0, 0)] rfl rfl rfl

theorem slices_IndexFunc___api_Event_api_Event__FC0 {ml : Int} (F : Nat) (s : (List api_Event)) (b : api_Call) (r : Int) (h : slices_IndexFunc___api_Event_api_Event_ F s b = some r) : FC Tryz.prog (GM ml) 16 ((0, (AO.rows false ((api_Call.c b) :: []))) :: []) [(AV.sl (List.map api_Event.c s)), (AV.fn 9 ((AV.ptr 0 0 0) :: []))] (AV.int IntKind.i64 r) ((0, (AO.rows false ((api_Call.c b) :: []))) :: []) := by
  refine FC_ofG 2000 Tryz.func16 rfl (by kernel_rfl) mixed (by show 2 ≤ 19; decide) (by show 1 ≤ W; decide) rfl ?_
  unfold slices_IndexFunc___api_Event_api_Event_ at h
  conv => whnf
  obtain ⟨o0, h0, k0⟩ := bind_e h
  refine Or.inr (joins_i (o0 = Sum.inr (outR o0)) [] ((0, (AO.rows false (((AV.int IntKind.i64 b.Client) :: ((AV.int IntKind.i64 b.Seq) :: ((AV.int IntKind.i64 b.Cmd.Kind) :: ((AV.int IntKind.i64 b.Cmd.Client) :: ((AV.int IntKind.i64 b.Cmd.Seq) :: ((AV.str b.Cmd.Name) :: ((AV.str b.Cmd.Expr) :: ((AV.str b.Cmd.Zone) :: ((AV.str b.Cmd.Token) :: ((AV.int IntKind.i64 b.Cmd.Time) :: ((AV.int IntKind.i64 b.From) :: ((AV.int IntKind.i64 b.To) :: ((AV.int IntKind.i64 b.Result.Err) :: ((AV.int IntKind.i64 b.Result.Time) :: ((AV.sl (List.map api_Job.c b.Result.Jobs)) :: []))))))))))))))) :: []))) :: []) 1 ?_ (fun hR => ?_))
  · conv => whnf
    refine Or.inl ?_
    conv => whnf
    refine loops_i (α := (Nat × Int)) (fun xq => ((0, (AV.sl (List.map api_Event.c s))) :: ((1, (AV.fn 9 ((AV.ptr 0 0 0) :: []))) :: ((7, (AV.int IntKind.i64 (@Nat.cast Int instNatCastInt (List.length (List.map api_Event.c s))))) :: ((8, (AV.int IntKind.i64 xq.2)) :: []))))) (fun xq => ((0, (AO.rows false (((AV.int IntKind.i64 b.Client) :: ((AV.int IntKind.i64 b.Seq) :: ((AV.int IntKind.i64 b.Cmd.Kind) :: ((AV.int IntKind.i64 b.Cmd.Client) :: ((AV.int IntKind.i64 b.Cmd.Seq) :: ((AV.str b.Cmd.Name) :: ((AV.str b.Cmd.Expr) :: ((AV.str b.Cmd.Zone) :: ((AV.str b.Cmd.Token) :: ((AV.int IntKind.i64 b.Cmd.Time) :: ((AV.int IntKind.i64 b.From) :: ((AV.int IntKind.i64 b.To) :: ((AV.int IntKind.i64 b.Result.Err) :: ((AV.int IntKind.i64 b.Result.Time) :: ((AV.sl (List.map api_Job.c b.Result.Jobs)) :: []))))))))))))))) :: []))) :: [])) 1 (fun xq => slices_IndexFunc___api_Event_api_Event__l0 F s b xq.1 xq.2 = some o0) (fun xq => xq.1) (F, (0 : Int)) [(0, 0)] h0 rfl rfl rfl ?_
    rintro ⟨n_12, t8_13⟩ h0
    replace h0 : slices_IndexFunc___api_Event_api_Event__l0 F s b n_12 t8_13 = some o0 := h0
    cases n_12 with
    | zero => rw [slices_IndexFunc___api_Event_api_Event__l0.eq_1] at h0; cases h0
    | succ n_12 =>
      rw [slices_IndexFunc___api_Event_api_Event__l0.eq_2] at h0
      conv => whnf
      refine Or.inl ?_
      conv => whnf
      refine brn_i (fun hb => ?_) (fun hb => ?_)
      · replace h0 := cond_t h0 (by first | exact hb | (simp; done) | simpa using hb | simpa [chunk] using hb)
        conv => whnf
        refine Or.inl ?_
        conv => whnf
        obtain ⟨hg, h0⟩ := grd_e h0
        refine And.intro hg ?_
        conv => whnf
        obtain ⟨y_16, hy, h0⟩ := bind_e h0
        refine opt_i (api_Event.c y_16) (getE rfl hy) ?_
        conv => whnf
        obtain ⟨y_17, hy, h0⟩ := bind_e h0
        refine Or.inr (callG_i [0] (judge_Calls_1_FC0 F y_16 b y_17 hy) rfl rfl rfl rfl ?_)
        conv => whnf
        refine Or.inl ?_
        conv => whnf
        refine brn_i (fun hb => ?_) (fun hb => ?_)
        · replace h0 := cond_t h0 hb
          conv => whnf
          obtain rfl := Option.some.inj h0
          obtain rfl := Option.some.inj k0
          exact endG_i [(0, 0)] rfl rfl rfl
        · replace h0 := cond_f h0 hb
          conv => whnf
          exact round_i (n_12, (IntKind.wrap IntKind.i64 (t8_13 + (1 : Int)))) [(0, 0)] h0 (Nat.lt_succ_self _) rfl rfl rfl
      · replace h0 := cond_f h0 (by first | exact hb | (simp; done) | simpa using hb | simpa [chunk] using hb)
        conv => whnf
        obtain rfl := Option.some.inj h0
        exact end_i rfl [(0, 0)] rfl rfl rfl
  · replace k0 := elim_e hR k0
    generalize outR o0 = v at k0 ⊢
    conv => whnf
    obtain rfl := Option.some.inj k0
    exact endG_i [(0, 0)] rfl rfl rfl

theorem slices_ContainsFunc___api_Event_api_Event__FC0 {ml : Int} (F : Nat) (s : (List api_Event)) (b : api_Call) (r : Bool) (h : slices_ContainsFunc___api_Event_api_Event_ F s b = some r) : FC Tryz.prog (GM ml) 11 ((0, (AO.rows false ((api_Call.c b) :: []))) :: []) [(AV.sl (List.map api_Event.c s)), (AV.fn 9 ((AV.ptr 0 0 0) :: []))] (AV.bool r) ((0, (AO.rows false ((api_Call.c b) :: []))) :: []) := by
  refine FC_ofG 2000 Tryz.func11 rfl (by kernel_rfl) mixed (by show 2 ≤ 9; decide) (by show 1 ≤ W; decide) rfl ?_
  unfold slices_ContainsFunc___api_Event_api_Event_ at h
  conv => whnf
  obtain ⟨y_0, hy, h⟩ := bind_e h
  refine Or.inr (callG_i [0] (slices_IndexFunc___api_Event_api_Event__FC0 F s b y_0 hy) rfl rfl rfl rfl ?_)
  conv => whnf
  obtain rfl := Option.some.inj h
  exact endG_i [(0, 0)] rfl rfl rfl

theorem judge_Calls_FC {ml : Int} (F : Nat) (list : (List api_Event)) (calls : (List api_Call)) (r : Int) (h : judge_Calls F list calls = some r) : FC Tryz.prog (GM ml) 5 [] [(AV.sl (List.map api_Event.c list)), (AV.sl (List.map api_Call.c calls))] (.int IntKind.i64 r) [] := by
  refine FC_of 2000 Tryz.func5 rfl (by kernel_rfl) mixed (by show 2 ≤ 30; decide) ?_
  unfold judge_Calls at h
  conv => whnf
  obtain ⟨o4, h4, k4⟩ := bind_e h
  refine Or.inr (joins_i (o4 = Sum.inr (outR o4)) ((1, (AV.sl (List.map api_Call.c calls))) :: []) [] 0 ?_ (fun hR => ?_))
  · conv => whnf
    refine Or.inl ?_
    conv => whnf
    refine loops_i (α := (Nat × Int)) (fun xq => ((0, (AV.sl (List.map api_Event.c list))) :: ((1, (AV.sl (List.map api_Call.c calls))) :: ((8, (AV.sl (List.map api_Call.c calls))) :: ((9, (AV.int IntKind.i64 (@Nat.cast Int instNatCastInt (List.length (List.map api_Call.c calls))))) :: ((10, (AV.int IntKind.i64 xq.2)) :: [])))))) (fun xq => []) 0 (fun xq => judge_Calls_l0 F list calls xq.1 xq.2 = some o4) (fun xq => xq.1) (F, (0 : Int)) [] h4 rfl rfl rfl ?_
    rintro ⟨n_18, t10_19⟩ h4
    replace h4 : judge_Calls_l0 F list calls n_18 t10_19 = some o4 := h4
    cases n_18 with
    | zero => rw [judge_Calls_l0.eq_1] at h4; cases h4
    | succ n_18 =>
      rw [judge_Calls_l0.eq_2] at h4
      conv => whnf
      refine Or.inl ?_
      conv => whnf
      refine brn_i (fun hb => ?_) (fun hb => ?_)
      · replace h4 := cond_t h4 (by first | exact hb | (simp; done) | simpa using hb | simpa [chunk] using hb)
        conv => whnf
        refine Or.inl ?_
        conv => whnf
        obtain ⟨hg, h4⟩ := grd_e h4
        refine And.intro hg ?_
        conv => whnf
        obtain ⟨y_23, hy, h4⟩ := bind_e h4
        refine opt_i (api_Call.c y_23) (getE rfl hy) ?_
        conv => whnf
        obtain ⟨t25_25, h8, k8⟩ := bind_e h4
        refine Or.inr (joins_i True ((0, (AV.sl (List.map api_Event.c list))) :: ((1, (AV.sl (List.map api_Call.c calls))) :: ((5, (AV.int IntKind.i64 t10_19)) :: ((8, (AV.sl (List.map api_Call.c calls))) :: ((9, (AV.int IntKind.i64 (@Nat.cast Int instNatCastInt (List.length (List.map api_Call.c calls))))) :: ((10, (AV.int IntKind.i64 t10_19)) :: ((25, (AV.bool t25_25)) :: []))))))) [] 0 ?_ (fun _ => ?_))
        · conv => whnf
          refine Or.inl ?_
          conv => whnf
          refine brn_i (fun hb => ?_) (fun hb => ?_)
          · replace h8 := cond_t h8 hb
            conv => whnf
            obtain ⟨y_26, hy, h8⟩ := bind_e h8
            refine Or.inr (callG_i [32] (slices_ContainsFunc___api_Event_api_Event__FC0 F list y_23 y_26 hy) rfl rfl rfl rfl ?_)
            conv => whnf
            obtain rfl := Option.some.inj h8
            exact end_i trivial [] rfl rfl rfl
          · replace h8 := cond_f h8 hb
            conv => whnf
            obtain rfl := Option.some.inj h8
            exact end_i trivial [] rfl rfl rfl
        · conv => whnf
          refine Or.inl ?_
          conv => whnf
          refine brn_i (fun hb => ?_) (fun hb => ?_)
          · replace k8 := cond_t k8 hb
            conv => whnf
            obtain rfl := Option.some.inj k8
            obtain rfl := Option.some.inj k4
            exact rfl
          · replace k8 := cond_f k8 hb
            conv => whnf
            exact round_i (n_18, (IntKind.wrap IntKind.i64 (t10_19 + (1 : Int)))) [] k8 (Nat.lt_succ_self _) rfl rfl rfl
      · replace h4 := cond_f h4 (by first | exact hb | (simp; done) | simpa using hb | simpa [chunk] using hb)
        conv => whnf
        obtain rfl := Option.some.inj h4
        exact end_i rfl [] rfl rfl rfl
  · replace k4 := elim_e hR k4
    generalize outR o4 = v at k4 ⊢
    conv => whnf
    obtain rfl := Option.some.inj k4
    exact rfl

theorem matinslaw24_awake_FC {ml : Int} (F : Nat) (r : Bool) (h : matinslaw24_awake F = some r) : FC Tryz.prog (GM ml) 4 [] [] (.bool r) [] := by
  refine FC_of 2000 Tryz.func4 rfl (by kernel_rfl) mixed (by show 0 ≤ 42; decide) ?_
  unfold matinslaw24_awake at h
  conv => whnf
  refine Or.inl ?_
  conv => whnf
  obtain ⟨y_0, hy, h⟩ := bind_e h
  refine ⟨_, _, (matinslaw24_added_FC F (1 : Int) y_0 hy), Or.inr ⟨[], rfl, ?_⟩⟩
  conv => whnf
  refine Or.inl ?_
  conv => whnf
  obtain ⟨y_1, hy, h⟩ := bind_e h
  refine ⟨_, _, (matinslaw24_added_FC F (1 : Int) y_1 hy), Or.inr ⟨[], rfl, ?_⟩⟩
  conv => whnf
  refine Or.inl ?_
  conv => whnf
  obtain ⟨y_2, hy, h⟩ := bind_e h
  refine ⟨_, _, (matinslaw24_added_FC F (2 : Int) y_2 hy), Or.inr ⟨[], rfl, ?_⟩⟩
  conv => whnf
  refine Or.inl ?_
  conv => whnf
  refine Or.inl ?_
  conv => whnf
  obtain ⟨y_3, hy, h⟩ := bind_e h
  refine ⟨_, _, (FC_arg2 (cons2 (congrArg AV.sl (by first | (simp; done) | rfl | (rw [List.map_append]; rfl))) rfl) (judge_Events_FC F (y_0 :: (y_0 :: [])) y_3 hy)), Or.inl ⟨rfl, rfl, ?_⟩⟩
  conv => whnf
  refine brn_i (fun hb => ?_) (fun hb => ?_)
  · replace h := cond_t h hb
    conv => whnf
    refine Or.inl ?_
    conv => whnf
    obtain ⟨y_4, hy, h⟩ := bind_e h
    refine ⟨_, _, (FC_argw (WkL.cons (Wk.s (WkR.cons (WkL.of_eq (by first | rfl | (simp; done) | (rw [List.map_append]; rfl))) (WkR.cons (WkL.cons (Wk.eq (by first | rfl | (simp; done) | (rw [List.map_append]; rfl))) (WkL.cons (Wk.eq (by first | rfl | (simp; done) | (rw [List.map_append]; rfl))) (WkL.cons (Wk.eq (by first | rfl | (simp; done) | (rw [List.map_append]; rfl))) (WkL.cons (Wk.eq (by first | rfl | (simp; done) | (rw [List.map_append]; rfl))) (WkL.cons (Wk.eq (by first | rfl | (simp; done) | (rw [List.map_append]; rfl))) (WkL.cons (Wk.eq (by first | rfl | (simp; done) | (rw [List.map_append]; rfl))) (WkL.cons (Wk.eq (by first | rfl | (simp; done) | (rw [List.map_append]; rfl))) (WkL.cons (Wk.eq (by first | rfl | (simp; done) | (rw [List.map_append]; rfl))) (WkL.cons (Wk.eq (by first | rfl | (simp; done) | (rw [List.map_append]; rfl))) (WkL.cons (Wk.eq (by first | rfl | (simp; done) | (rw [List.map_append]; rfl))) (WkL.cons (Wk.eq (by first | rfl | (simp; done) | (rw [List.map_append]; rfl))) (WkL.cons (Wk.eq (by first | rfl | (simp; done) | (rw [List.map_append]; rfl))) (WkL.cons (Wk.eq (by first | rfl | (simp; done) | (rw [List.map_append]; rfl))) (WkL.cons (Wk.eq (by first | rfl | (simp; done) | (rw [List.map_append]; rfl))) (WkL.cons (Wk.eq (by first | rfl | (simp; done) | (rw [List.map_append]; rfl))) (WkL.cons (Wk.eq (by first | rfl | (simp; done) | (rw [List.map_append]; rfl))) (WkL.cons (Wk.eq (by first | rfl | (simp; done) | (rw [List.map_append]; rfl))) (WkL.cons (Wk.eq (by first | rfl | (simp; done) | (rw [List.map_append]; rfl))) (WkL.cons (Wk.eq (by first | rfl | (simp; done) | (rw [List.map_append]; rfl))) (WkL.cons (Wk.eq (by first | rfl | (simp; done) | (rw [List.map_append]; rfl))) (WkL.cons (Wk.eq (by first | rfl | (simp; done) | (rw [List.map_append]; rfl))) (WkL.cons (Wk.eq (by first | rfl | (simp; done) | (rw [List.map_append]; rfl))) (WkL.cons (Wk.eq (by first | rfl | (simp; done) | (rw [List.map_append]; rfl))) (WkL.cons (Wk.eq (by first | rfl | (simp; done) | (rw [List.map_append]; rfl))) (WkL.cons (Wk.eq (by first | rfl | (simp; done) | (rw [List.map_append]; rfl))) (WkL.cons Wk.esl WkL.nil)))))))))))))))))))))))))) (WkR.of_eq (by first | rfl | (simp; done) | (rw [List.map_append]; rfl)))))) WkL.nil) (judge_Events_FC F (y_0 :: ((api_Event.mk y_1.Step y_1.Group y_1.Order (api_Result.mk (150 : Int) (0 : Int) [])) :: [])) y_4 hy)), Or.inl ⟨rfl, rfl, ?_⟩⟩
    conv => whnf
    refine brn_i (fun hb => ?_) (fun hb => ?_)
    · replace h := cond_t h hb
      conv => whnf
      refine Or.inl ?_
      conv => whnf
      obtain ⟨y_5, hy, h⟩ := bind_e h
      refine ⟨_, _, (FC_arg2 (cons2 (congrArg AV.sl (by first | (simp; done) | rfl | (rw [List.map_append]; rfl))) rfl) (judge_Events_FC F (y_0 :: (y_2 :: [])) y_5 hy)), Or.inl ⟨rfl, rfl, ?_⟩⟩
      conv => whnf
      refine brn_i (fun hb => ?_) (fun hb => ?_)
      · replace h := cond_t h hb
        conv => whnf
        refine Or.inl ?_
        conv => whnf
        obtain ⟨y_6, hy, h⟩ := bind_e h
        refine ⟨_, _, (FC_arg2 (cons2 (congrArg AV.sl (by first | (simp; done) | rfl | (rw [List.map_append]; rfl))) rfl) (judge_Table_FC F (y_0 :: (y_0 :: [])) y_6 hy)), Or.inr ⟨[288], rfl, ?_⟩⟩
        conv => whnf
        refine brn_i (fun hb => ?_) (fun hb => ?_)
        · replace h := cond_t h (by first | exact hb | (simp; done) | simpa using hb | simpa [chunk] using hb)
          conv => whnf
          refine Or.inl ?_
          conv => whnf
          obtain ⟨y_7, hy, h⟩ := bind_e h
          refine ⟨_, _, (FC_argw (WkL.cons (Wk.eq (congrArg AV.sl (by first | (simp; done) | rfl | (rw [List.map_append]; rfl)))) (WkL.cons (Wk.s (WkR.cons (WkL.cons (Wk.eq (by first | rfl | (simp; done) | (rw [List.map_append]; rfl))) (WkL.cons (Wk.eq (by first | rfl | (simp; done) | (rw [List.map_append]; rfl))) (WkL.cons (Wk.eq (by first | rfl | (simp; done) | (rw [List.map_append]; rfl))) (WkL.cons (Wk.eq (by first | rfl | (simp; done) | (rw [List.map_append]; rfl))) (WkL.cons (Wk.eq (by first | rfl | (simp; done) | (rw [List.map_append]; rfl))) (WkL.cons (Wk.eq (by first | rfl | (simp; done) | (rw [List.map_append]; rfl))) (WkL.cons (Wk.eq (by first | rfl | (simp; done) | (rw [List.map_append]; rfl))) (WkL.cons (Wk.eq (by first | rfl | (simp; done) | (rw [List.map_append]; rfl))) (WkL.cons (Wk.eq (by first | rfl | (simp; done) | (rw [List.map_append]; rfl))) (WkL.cons (Wk.eq (by first | rfl | (simp; done) | (rw [List.map_append]; rfl))) (WkL.cons (Wk.eq (by first | rfl | (simp; done) | (rw [List.map_append]; rfl))) (WkL.cons (Wk.eq (by first | rfl | (simp; done) | (rw [List.map_append]; rfl))) (WkL.cons (Wk.eq (by first | rfl | (simp; done) | (rw [List.map_append]; rfl))) (WkL.cons (Wk.eq (by first | rfl | (simp; done) | (rw [List.map_append]; rfl))) (WkL.cons Wk.esl WkL.nil))))))))))))))) (WkR.of_eq (by first | rfl | (simp; done) | (rw [List.map_append]; rfl))))) WkL.nil)) (judge_Calls_FC F [] ((api_Call.mk (0 : Int) (0 : Int) (api_Cmd.mk (0 : Int) (0 : Int) (0 : Int) ([] : List UInt8) ([] : List UInt8) ([] : List UInt8) ([] : List UInt8) (0 : Int)) (0 : Int) (0 : Int) (api_Result.mk (0 : Int) (0 : Int) [])) :: []) y_7 hy)), Or.inl ⟨rfl, rfl, ?_⟩⟩
          conv => whnf
          obtain rfl := Option.some.inj h
          exact rfl
        · replace h := cond_f h (by first | exact hb | (simp; done) | simpa using hb | simpa [chunk] using hb)
          conv => whnf
          obtain rfl := Option.some.inj h
          exact rfl
      · replace h := cond_f h hb
        conv => whnf
        obtain rfl := Option.some.inj h
        exact rfl
    · replace h := cond_f h hb
      conv => whnf
      obtain rfl := Option.some.inj h
      exact rfl
  · replace h := cond_f h hb
    conv => whnf
    obtain rfl := Option.some.inj h
    exact rfl

theorem matinslaw24_JudgeWidens_FC {ml : Int} (F : Nat) (list : (List api_Event)) (more : (List api_Event)) (c : api_Call) (early : Int) (late : Int) (r : Bool) (h : matinslaw24_JudgeWidens F list more c early late = some r) : FC Tryz.prog (GM ml) 3 [] [(AV.sl (List.map api_Event.c list)), (AV.sl (List.map api_Event.c more)), (AV.agg (api_Call.c c)), (AV.int IntKind.i64 early), (AV.int IntKind.i64 late)] (.bool r) [] := by
  refine FC_of 2000 Tryz.func3 rfl (by kernel_rfl) mixed (by show 5 ≤ 105; decide) ?_
  unfold matinslaw24_JudgeWidens at h
  conv => whnf
  refine Or.inl ?_
  conv => whnf
  obtain ⟨y_0, hy, h⟩ := bind_e h
  refine ⟨_, _, (matinslaw24_awake_FC F y_0 hy), Or.inl ⟨rfl, rfl, ?_⟩⟩
  conv => whnf
  refine Or.inl ?_
  conv => whnf
  refine brn_i (fun hb => ?_) (fun hb => ?_)
  · replace h := cond_t h hb
    conv => whnf
    obtain rfl := Option.some.inj h
    exact rfl
  · replace h := cond_f h hb
    conv => whnf
    obtain ⟨t60_1, h0, k0⟩ := bind_e h
    refine Or.inr (joins_i True ((0, (AV.sl (List.map api_Event.c list))) :: ((1, (AV.sl (List.map api_Event.c more))) :: ((3, (AV.int IntKind.i64 early)) :: ((4, (AV.int IntKind.i64 late)) :: ((7, (AV.ptr 0 0 0)) :: ((60, (AV.bool t60_1)) :: [])))))) ((0, (AO.rows false (((AV.int IntKind.i64 c.Client) :: ((AV.int IntKind.i64 c.Seq) :: ((AV.int IntKind.i64 c.Cmd.Kind) :: ((AV.int IntKind.i64 c.Cmd.Client) :: ((AV.int IntKind.i64 c.Cmd.Seq) :: ((AV.str c.Cmd.Name) :: ((AV.str c.Cmd.Expr) :: ((AV.str c.Cmd.Zone) :: ((AV.str c.Cmd.Token) :: ((AV.int IntKind.i64 c.Cmd.Time) :: ((AV.int IntKind.i64 c.From) :: ((AV.int IntKind.i64 c.To) :: ((AV.int IntKind.i64 c.Result.Err) :: ((AV.int IntKind.i64 c.Result.Time) :: ((AV.sl (List.map api_Job.c c.Result.Jobs)) :: []))))))))))))))) :: []))) :: []) 1 ?_ (fun _ => ?_))
    · conv => whnf
      refine Or.inl ?_
      conv => whnf
      refine brn_i (fun hb => ?_) (fun hb => ?_)
      · replace h0 := cond_t h0 (by first | exact hb | (simp; done) | simpa using hb | simpa [chunk] using hb)
        conv => whnf
        obtain rfl := Option.some.inj h0
        exact end_i trivial [(0, 8)] rfl rfl rfl
      · replace h0 := cond_f h0 (by first | exact hb | (simp; done) | simpa using hb | simpa [chunk] using hb)
        conv => whnf
        refine brn_i (fun hb => ?_) (fun hb => ?_)
        · replace h0 := cond_t h0 (by first | exact hb | (simp; done) | simpa using hb | simpa [chunk] using hb)
          conv => whnf
          obtain rfl := Option.some.inj h0
          exact end_i trivial [(0, 8)] rfl rfl rfl
        · replace h0 := cond_f h0 (by first | exact hb | (simp; done) | simpa using hb | simpa [chunk] using hb)
          conv => whnf
          refine brn_i (fun hb => ?_) (fun hb => ?_)
          · replace h0 := cond_t h0 hb
            conv => whnf
            obtain rfl := Option.some.inj h0
            exact end_i trivial [(0, 8)] rfl rfl rfl
          · replace h0 := cond_f h0 hb
            conv => whnf
            refine brn_i (fun hb => ?_) (fun hb => ?_)
            · replace h0 := cond_t h0 hb
              conv => whnf
              obtain rfl := Option.some.inj h0
              exact end_i trivial [(0, 8)] rfl rfl rfl
            · replace h0 := cond_f h0 hb
              conv => whnf
              refine brn_i (fun hb => ?_) (fun hb => ?_)
              · replace h0 := cond_t h0 hb
                conv => whnf
                obtain rfl := Option.some.inj h0
                exact end_i trivial [(0, 8)] rfl rfl rfl
              · replace h0 := cond_f h0 hb
                conv => whnf
                refine brn_i (fun hb => ?_) (fun hb => ?_)
                · replace h0 := cond_t h0 hb
                  conv => whnf
                  obtain rfl := Option.some.inj h0
                  exact end_i trivial [(0, 8)] rfl rfl rfl
                · replace h0 := cond_f h0 hb
                  conv => whnf
                  refine brn_i (fun hb => ?_) (fun hb => ?_)
                  · replace h0 := cond_t h0 hb
                    conv => whnf
                    obtain rfl := Option.some.inj h0
                    exact end_i trivial [(0, 8)] rfl rfl rfl
                  · replace h0 := cond_f h0 hb
                    conv => whnf
                    refine brn_i (fun hb => ?_) (fun hb => ?_)
                    · replace h0 := cond_t h0 hb
                      conv => whnf
                      obtain rfl := Option.some.inj h0
                      exact end_i trivial [(0, 8)] rfl rfl rfl
                    · replace h0 := cond_f h0 hb
                      conv => whnf
                      refine brn_i (fun hb => ?_) (fun hb => ?_)
                      · replace h0 := cond_t h0 hb
                        conv => whnf
                        obtain rfl := Option.some.inj h0
                        exact end_i trivial [(0, 8)] rfl rfl rfl
                      · replace h0 := cond_f h0 hb
                        conv => whnf
                        obtain rfl := Option.some.inj h0
                        exact end_i trivial [(0, 8)] rfl rfl rfl
    · conv => whnf
      refine Or.inl ?_
      conv => whnf
      refine brn_i (fun hb => ?_) (fun hb => ?_)
      · replace k0 := cond_t k0 hb
        conv => whnf
        obtain rfl := Option.some.inj k0
        exact rfl
      · replace k0 := cond_f k0 hb
        conv => whnf
        refine And.intro (LenAll.map (fun _ => rfl)) ?_
        conv => whnf
        refine And.intro LenAll.nil ?_
        conv => whnf
        obtain ⟨hg, k0⟩ := grd_e k0
        refine And.intro (by first | exact hg | (simp; done) | simpa using hg | simpa [chunk] using hg | (simp [chunk] at hg ⊢; omega)) ?_
        conv => whnf
        refine And.intro (LenAll.map (fun _ => rfl)) ?_
        conv => whnf
        refine And.intro (LenAll.append LenAll.nil (LenAll.map (fun _ => rfl))) ?_
        conv => whnf
        obtain ⟨hg, k0⟩ := grd_e k0
        refine And.intro (by first | exact hg | (simp; done) | simpa using hg | simpa [chunk] using hg | (simp [chunk] at hg ⊢; omega)) ?_
        conv => whnf
        refine Or.inl ?_
        conv => whnf
        obtain ⟨y_2, hy, k0⟩ := bind_e k0
        refine ⟨_, _, (FC_arg2 (cons2 rfl (cons2 (congrArg AV.sl (by first | (simp; done) | rfl | (rw [List.map_append]; rfl))) rfl)) (judge_Calls_FC F list (c :: []) y_2 hy)), Or.inl ⟨rfl, rfl, ?_⟩⟩
        conv => whnf
        refine Or.inl ?_
        conv => whnf
        obtain ⟨y_3, hy, k0⟩ := bind_e k0
        refine ⟨_, _, (FC_arg2 (cons2 (congrArg AV.sl (by first | (simp; done) | rfl | (rw [List.map_append]; rfl))) (cons2 (congrArg AV.sl (by first | (simp; done) | rfl | (rw [List.map_append]; rfl))) rfl)) (judge_Calls_FC F (([] ++ list) ++ more) ((api_Call.mk c.Client c.Seq c.Cmd (IntKind.wrap IntKind.i64 (c.From - early)) (IntKind.wrap IntKind.i64 (c.To + late)) c.Result) :: []) y_3 hy)), Or.inl ⟨rfl, rfl, ?_⟩⟩
        conv => whnf
        refine Or.inl ?_
        conv => whnf
        refine brn_i (fun hb => ?_) (fun hb => ?_)
        · replace k0 := cond_t k0 hb
          conv => whnf
          refine brn_i (fun hb => ?_) (fun hb => ?_)
          · replace k0 := cond_t k0 hb
            conv => whnf
            obtain rfl := Option.some.inj k0
            exact rfl
          · replace k0 := cond_f k0 hb
            conv => whnf
            refine brn_i (fun hb => ?_) (fun hb => ?_)
            · replace k0 := cond_t k0 hb
              conv => whnf
              obtain rfl := Option.some.inj k0
              exact rfl
            · replace k0 := cond_f k0 hb
              conv => whnf
              obtain rfl := Option.some.inj k0
              exact rfl
        · replace k0 := cond_f k0 hb
          conv => whnf
          refine brn_i (fun hb => ?_) (fun hb => ?_)
          · replace k0 := cond_t k0 hb
            conv => whnf
            refine brn_i (fun hb => ?_) (fun hb => ?_)
            · replace k0 := cond_t k0 hb
              conv => whnf
              obtain rfl := Option.some.inj k0
              exact rfl
            · replace k0 := cond_f k0 hb
              conv => whnf
              refine brn_i (fun hb => ?_) (fun hb => ?_)
              · replace k0 := cond_t k0 hb
                conv => whnf
                obtain rfl := Option.some.inj k0
                exact rfl
              · replace k0 := cond_f k0 hb
                conv => whnf
                obtain rfl := Option.some.inj k0
                exact rfl
          · replace k0 := cond_f k0 hb
            conv => whnf
            obtain rfl := Option.some.inj k0
            exact rfl


end Go.T
