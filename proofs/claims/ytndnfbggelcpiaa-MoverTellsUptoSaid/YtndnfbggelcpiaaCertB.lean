/-
  CertTry: the program's functions compute them. Printed by a program.
-/
import Derived.Test.YtndnfbggelcpiaaCertA
import Derived.Test.YtndnfbggelcpiaaProg
import Derived.KernelRfl
set_option linter.unusedVariables false
set_option maxRecDepth 200000
set_option maxHeartbeats 4000000
namespace Go.T
open Go Go.Ab Go.Proofs
theorem matinsref20_Heard_FC (F : Nat) (a : api_Atlas) (have_ : api_Shard) (r_ : api_Result) (s : api_Shard) (r : (api_Shard × Int)) (h : matinsref20_Heard F a have_ r_ s = some r) : FC Try.prog G0 8 [] [(.agg (api_Atlas.c a)), (.agg (api_Shard.c have_)), (.agg (api_Result.c r_)), (.agg (api_Shard.c s))] (.tup [(.agg (api_Shard.c r.1)), (.int IntKind.i64 r.2)]) [] := by
  refine FC_of 2000 Try.func8 rfl (by kernel_rfl) mixed (by show 4 ≤ 117; decide) ?_
  unfold matinsref20_Heard at h
  conv => whnf
  refine Or.inl ?_
  conv => whnf
  obtain ⟨y_0, hy, h⟩ := bind_e h
  refine ⟨_, _, (matinsref20_Next_FC F a have_ y_0 hy), Or.inr ⟨[], rfl, ?_⟩⟩
  conv => whnf
  refine Or.inl ?_
  conv => whnf
  refine brn_i (fun hb => ?_) (fun hb => ?_)
  · replace h := cond_t h hb
    conv => whnf
    obtain rfl := Option.some.inj h
    exact rfl
  · replace h := cond_f h hb
    conv => whnf
    obtain ⟨o5, h5, k5⟩ := bind_e h
    refine Or.inr (joins_i (o5 = Sum.inr (outR o5)) ((5, (AV.ptr 0 0 0)) :: ((8, (AV.ptr 1 0 0)) :: [])) ((0, (AO.rows false (((AV.int IntKind.i64 have_.Id) :: ((AV.int IntKind.i64 have_.Epoch) :: ((AV.int IntKind.i64 have_.State) :: ((AV.str have_.From) :: ((AV.str have_.To) :: ((AV.sl (List.map api_Job.c have_.Jobs)) :: ((AV.sl (List.map api_Seen.c have_.Seen)) :: []))))))) :: []))) :: ((1, (AO.rows false (((AV.int IntKind.i64 (0 : Int)) :: ((AV.int IntKind.i64 (0 : Int)) :: ((AV.int IntKind.i64 (0 : Int)) :: ((AV.str ([] : List UInt8)) :: ((AV.str ([] : List UInt8)) :: (AV.esl :: (AV.esl :: []))))))) :: []))) :: [])) 2 ?_ (fun hR => ?_))
    · conv => whnf
      refine Or.inl ?_
      conv => whnf
      refine Or.inl ?_
      conv => whnf
      refine brn_i (fun hb => ?_) (fun hb => ?_)
      · replace h5 := cond_t h5 hb
        conv => whnf
        refine Or.inl ?_
        conv => whnf
        refine brn_i (fun hb => ?_) (fun hb => ?_)
        · replace h5 := cond_t h5 hb
          conv => whnf
          obtain rfl := Option.some.inj h5
          obtain rfl := Option.some.inj (elim_l k5)
          exact rfl
        · replace h5 := cond_f h5 hb
          conv => whnf
          obtain ⟨t41_6, h6, k6⟩ := bind_e h5
          refine Or.inr (joins_i True ((4, (AV.ptr 0 0 0)) :: ((5, (AV.ptr 1 0 0)) :: ((8, (AV.ptr 2 0 0)) :: ((41, (AV.bool t41_6)) :: [])))) ((0, (AO.rows false (((AV.int IntKind.i64 a.Groups) :: ((AV.int IntKind.i64 a.Last) :: ((AV.sl (List.map api_Span.c a.Spans)) :: ((AV.int IntKind.i64 a.Plan.Kind) :: ((AV.int IntKind.i64 a.Plan.Phase) :: ((AV.int IntKind.i64 a.Plan.Shard) :: ((AV.int IntKind.i64 a.Plan.Other) :: ((AV.int IntKind.i64 a.Plan.Group) :: ((AV.int IntKind.i64 a.Plan.Past) :: ((AV.int IntKind.i64 a.Plan.Epoch) :: ((AV.str a.Plan.Key) :: []))))))))))) :: []))) :: ((1, (AO.rows false (((AV.int IntKind.i64 have_.Id) :: ((AV.int IntKind.i64 have_.Epoch) :: ((AV.int IntKind.i64 have_.State) :: ((AV.str have_.From) :: ((AV.str have_.To) :: ((AV.sl (List.map api_Job.c have_.Jobs)) :: ((AV.sl (List.map api_Seen.c have_.Seen)) :: []))))))) :: []))) :: ((2, (AO.rows false (((AV.int IntKind.i64 (0 : Int)) :: ((AV.int IntKind.i64 (0 : Int)) :: ((AV.int IntKind.i64 (0 : Int)) :: ((AV.str ([] : List UInt8)) :: ((AV.str ([] : List UInt8)) :: (AV.esl :: (AV.esl :: []))))))) :: []))) :: []))) 3 ?_ (fun _ => ?_))
          · conv => whnf
            refine Or.inl ?_
            conv => whnf
            refine brn_i (fun hb => ?_) (fun hb => ?_)
            · replace h6 := cond_t h6 hb
              conv => whnf
              obtain rfl := Option.some.inj h6
              exact end_i trivial [(0, 8), (1, 16), (2, 40)] rfl rfl rfl
            · replace h6 := cond_f h6 hb
              conv => whnf
              obtain rfl := Option.some.inj h6
              exact end_i trivial [(0, 8), (1, 16), (2, 40)] rfl rfl rfl
          · conv => whnf
            refine Or.inl ?_
            conv => whnf
            refine brn_i (fun hb => ?_) (fun hb => ?_)
            · replace k6 := cond_t k6 hb
              conv => whnf
              obtain rfl := Option.some.inj k6
              obtain rfl := Option.some.inj (elim_l k5)
              exact rfl
            · replace k6 := cond_f k6 hb
              conv => whnf
              obtain rfl := Option.some.inj k6
              exact end_i rfl [(0, 1), (1, 2)] rfl rfl rfl
      · replace h5 := cond_f h5 hb
        conv => whnf
        refine Or.inl ?_
        conv => whnf
        refine brn_i (fun hb => ?_) (fun hb => ?_)
        · replace h5 := cond_t h5 hb
          conv => whnf
          refine Or.inl ?_
          conv => whnf
          refine brn_i (fun hb => ?_) (fun hb => ?_)
          · replace h5 := cond_t h5 hb
            conv => whnf
            obtain rfl := Option.some.inj h5
            obtain rfl := Option.some.inj (elim_l k5)
            exact rfl
          · replace h5 := cond_f h5 hb
            conv => whnf
            obtain ⟨t70_7, h7, k7⟩ := bind_e h5
            refine Or.inr (joins_i True ((5, (AV.ptr 0 0 0)) :: ((8, (AV.ptr 1 0 0)) :: ((70, (AV.bool t70_7)) :: []))) ((0, (AO.rows false (((AV.int IntKind.i64 have_.Id) :: ((AV.int IntKind.i64 have_.Epoch) :: ((AV.int IntKind.i64 have_.State) :: ((AV.str have_.From) :: ((AV.str have_.To) :: ((AV.sl (List.map api_Job.c have_.Jobs)) :: ((AV.sl (List.map api_Seen.c have_.Seen)) :: []))))))) :: []))) :: ((1, (AO.rows false (((AV.int IntKind.i64 (0 : Int)) :: ((AV.int IntKind.i64 (0 : Int)) :: ((AV.int IntKind.i64 (0 : Int)) :: ((AV.str ([] : List UInt8)) :: ((AV.str ([] : List UInt8)) :: (AV.esl :: (AV.esl :: []))))))) :: []))) :: [])) 2 ?_ (fun _ => ?_))
            · conv => whnf
              refine Or.inl ?_
              conv => whnf
              refine brn_i (fun hb => ?_) (fun hb => ?_)
              · replace h7 := cond_t h7 hb
                conv => whnf
                obtain rfl := Option.some.inj h7
                exact end_i trivial [(0, 16), (1, 40)] rfl rfl rfl
              · replace h7 := cond_f h7 hb
                conv => whnf
                refine brn_i (fun hb => ?_) (fun hb => ?_)
                · replace h7 := cond_t h7 hb
                  conv => whnf
                  obtain rfl := Option.some.inj h7
                  exact end_i trivial [(0, 16), (1, 40)] rfl rfl rfl
                · replace h7 := cond_f h7 hb
                  conv => whnf
                  refine brn_i (fun hb => ?_) (fun hb => ?_)
                  · replace h7 := cond_t h7 hb
                    conv => whnf
                    obtain rfl := Option.some.inj h7
                    exact end_i trivial [(0, 16), (1, 40)] rfl rfl rfl
                  · replace h7 := cond_f h7 hb
                    conv => whnf
                    obtain rfl := Option.some.inj h7
                    exact end_i trivial [(0, 16), (1, 40)] rfl rfl rfl
            · conv => whnf
              refine Or.inl ?_
              conv => whnf
              refine brn_i (fun hb => ?_) (fun hb => ?_)
              · replace k7 := cond_t k7 hb
                conv => whnf
                obtain rfl := Option.some.inj k7
                obtain rfl := Option.some.inj (elim_l k5)
                exact rfl
              · replace k7 := cond_f k7 hb
                conv => whnf
                obtain rfl := Option.some.inj k7
                exact end_i rfl [(0, 0), (1, 1)] rfl rfl rfl
        · replace h5 := cond_f h5 hb
          conv => whnf
          refine Or.inl ?_
          conv => whnf
          refine brn_i (fun hb => ?_) (fun hb => ?_)
          · replace h5 := cond_t h5 hb
            conv => whnf
            refine Or.inl ?_
            conv => whnf
            refine brn_i (fun hb => ?_) (fun hb => ?_)
            · replace h5 := cond_t h5 hb
              conv => whnf
              obtain rfl := Option.some.inj h5
              obtain rfl := Option.some.inj (elim_l k5)
              exact rfl
            · replace h5 := cond_f h5 hb
              conv => whnf
              obtain rfl := Option.some.inj h5
              exact end_i rfl [(0, 16), (1, 40)] rfl rfl rfl
          · replace h5 := cond_f h5 hb
            conv => whnf
            refine Or.inl ?_
            conv => whnf
            refine brn_i (fun hb => ?_) (fun hb => ?_)
            · replace h5 := cond_t h5 hb
              conv => whnf
              obtain ⟨t84_8, h8, k8⟩ := bind_e h5
              refine Or.inr (joins_i True ((4, (AV.ptr 0 0 0)) :: ((5, (AV.ptr 1 0 0)) :: ((8, (AV.ptr 2 0 0)) :: ((84, (AV.bool t84_8)) :: [])))) ((0, (AO.rows false (((AV.int IntKind.i64 a.Groups) :: ((AV.int IntKind.i64 a.Last) :: ((AV.sl (List.map api_Span.c a.Spans)) :: ((AV.int IntKind.i64 a.Plan.Kind) :: ((AV.int IntKind.i64 a.Plan.Phase) :: ((AV.int IntKind.i64 a.Plan.Shard) :: ((AV.int IntKind.i64 a.Plan.Other) :: ((AV.int IntKind.i64 a.Plan.Group) :: ((AV.int IntKind.i64 a.Plan.Past) :: ((AV.int IntKind.i64 a.Plan.Epoch) :: ((AV.str a.Plan.Key) :: []))))))))))) :: []))) :: ((1, (AO.rows false (((AV.int IntKind.i64 have_.Id) :: ((AV.int IntKind.i64 have_.Epoch) :: ((AV.int IntKind.i64 have_.State) :: ((AV.str have_.From) :: ((AV.str have_.To) :: ((AV.sl (List.map api_Job.c have_.Jobs)) :: ((AV.sl (List.map api_Seen.c have_.Seen)) :: []))))))) :: []))) :: ((2, (AO.rows false (((AV.int IntKind.i64 (0 : Int)) :: ((AV.int IntKind.i64 (0 : Int)) :: ((AV.int IntKind.i64 (0 : Int)) :: ((AV.str ([] : List UInt8)) :: ((AV.str ([] : List UInt8)) :: (AV.esl :: (AV.esl :: []))))))) :: []))) :: []))) 3 ?_ (fun _ => ?_))
              · conv => whnf
                refine Or.inl ?_
                conv => whnf
                refine brn_i (fun hb => ?_) (fun hb => ?_)
                · replace h8 := cond_t h8 hb
                  conv => whnf
                  obtain rfl := Option.some.inj h8
                  exact end_i trivial [(0, 8), (1, 16), (2, 40)] rfl rfl rfl
                · replace h8 := cond_f h8 hb
                  conv => whnf
                  obtain rfl := Option.some.inj h8
                  exact end_i trivial [(0, 8), (1, 16), (2, 40)] rfl rfl rfl
              · conv => whnf
                refine Or.inl ?_
                conv => whnf
                refine brn_i (fun hb => ?_) (fun hb => ?_)
                · replace k8 := cond_t k8 hb
                  conv => whnf
                  obtain rfl := Option.some.inj k8
                  obtain rfl := Option.some.inj (elim_l k5)
                  exact rfl
                · replace k8 := cond_f k8 hb
                  conv => whnf
                  refine Or.inl ?_
                  conv => whnf
                  refine brn_i (fun hb => ?_) (fun hb => ?_)
                  · replace k8 := cond_t k8 hb
                    conv => whnf
                    obtain rfl := Option.some.inj k8
                    obtain rfl := Option.some.inj (elim_l k5)
                    exact rfl
                  · replace k8 := cond_f k8 hb
                    conv => whnf
                    obtain rfl := Option.some.inj k8
                    obtain rfl := Option.some.inj (elim_l k5)
                    exact rfl
            · replace h5 := cond_f h5 hb
              conv => whnf
              refine Or.inl ?_
              conv => whnf
              refine brn_i (fun hb => ?_) (fun hb => ?_)
              · replace h5 := cond_t h5 hb
                conv => whnf
                refine Or.inl ?_
                conv => whnf
                refine brn_i (fun hb => ?_) (fun hb => ?_)
                · replace h5 := cond_t h5 hb
                  conv => whnf
                  obtain rfl := Option.some.inj h5
                  obtain rfl := Option.some.inj (elim_l k5)
                  exact rfl
                · replace h5 := cond_f h5 hb
                  conv => whnf
                  obtain rfl := Option.some.inj h5
                  exact end_i rfl [(0, 16), (1, 40)] rfl rfl rfl
              · replace h5 := cond_f h5 hb
                conv => whnf
                obtain ⟨t102_9, h9, k9⟩ := bind_e h5
                refine Or.inr (joins_i True ((5, (AV.ptr 0 0 0)) :: ((6, (AV.ptr 1 0 0)) :: ((8, (AV.ptr 2 0 0)) :: ((11, (AV.ptr 3 0 0)) :: ((13, (AV.bool (r_.Err == (0 : Int)))) :: ((102, (AV.bool t102_9)) :: [])))))) ((0, (AO.rows false (((AV.int IntKind.i64 have_.Id) :: ((AV.int IntKind.i64 have_.Epoch) :: ((AV.int IntKind.i64 have_.State) :: ((AV.str have_.From) :: ((AV.str have_.To) :: ((AV.sl (List.map api_Job.c have_.Jobs)) :: ((AV.sl (List.map api_Seen.c have_.Seen)) :: []))))))) :: []))) :: ((1, (AO.rows false (((AV.int IntKind.i64 r_.Err) :: ((AV.int IntKind.i64 r_.Time) :: ((AV.sl (List.map api_Job.c r_.Jobs)) :: []))) :: []))) :: ((2, (AO.rows false (((AV.int IntKind.i64 (0 : Int)) :: ((AV.int IntKind.i64 (0 : Int)) :: ((AV.int IntKind.i64 (0 : Int)) :: ((AV.str ([] : List UInt8)) :: ((AV.str ([] : List UInt8)) :: (AV.esl :: (AV.esl :: []))))))) :: []))) :: ((3, (AO.rows false (((AV.int IntKind.i64 y_0.2.1.Kind) :: ((AV.int IntKind.i64 y_0.2.1.Shard) :: ((AV.int IntKind.i64 y_0.2.1.Epoch) :: ((AV.int IntKind.i64 y_0.2.1.Other) :: ((AV.int IntKind.i64 y_0.2.1.Past) :: ((AV.str y_0.2.1.Key) :: ((AV.int IntKind.i64 y_0.2.1.Cmd.Kind) :: ((AV.int IntKind.i64 y_0.2.1.Cmd.Client) :: ((AV.int IntKind.i64 y_0.2.1.Cmd.Seq) :: ((AV.str y_0.2.1.Cmd.Name) :: ((AV.str y_0.2.1.Cmd.Expr) :: ((AV.str y_0.2.1.Cmd.Zone) :: ((AV.str y_0.2.1.Cmd.Token) :: ((AV.int IntKind.i64 y_0.2.1.Cmd.Time) :: ((AV.int IntKind.i64 y_0.2.1.State.Id) :: ((AV.int IntKind.i64 y_0.2.1.State.Epoch) :: ((AV.int IntKind.i64 y_0.2.1.State.State) :: ((AV.str y_0.2.1.State.From) :: ((AV.str y_0.2.1.State.To) :: ((AV.sl (List.map api_Job.c y_0.2.1.State.Jobs)) :: ((AV.sl (List.map api_Seen.c y_0.2.1.State.Seen)) :: []))))))))))))))))))))) :: []))) :: [])))) 4 ?_ (fun _ => ?_))
                · conv => whnf
                  refine Or.inl ?_
                  conv => whnf
                  refine brn_i (fun hb => ?_) (fun hb => ?_)
                  · replace h9 := cond_t h9 hb
                    conv => whnf
                    obtain rfl := Option.some.inj h9
                    exact end_i trivial [(0, 16), (1, 24), (2, 40), (3, 112)] rfl rfl rfl
                  · replace h9 := cond_f h9 hb
                    conv => whnf
                    obtain rfl := Option.some.inj h9
                    exact end_i trivial [(0, 16), (1, 24), (2, 40), (3, 112)] rfl rfl rfl
                · conv => whnf
                  refine Or.inl ?_
                  conv => whnf
                  refine brn_i (fun hb => ?_) (fun hb => ?_)
                  · replace k9 := cond_t k9 hb
                    conv => whnf
                    refine Or.inl ?_
                    conv => whnf
                    refine brn_i (fun hb => ?_) (fun hb => ?_)
                    · replace k9 := cond_t k9 hb
                      conv => whnf
                      obtain rfl := Option.some.inj k9
                      obtain rfl := Option.some.inj (elim_l k5)
                      exact rfl
                    · replace k9 := cond_f k9 hb
                      conv => whnf
                      obtain ⟨t114_10, h10, k10⟩ := bind_e k9
                      refine Or.inr (joins_i True ((5, (AV.ptr 0 0 0)) :: ((8, (AV.ptr 1 0 0)) :: ((114, (AV.bool t114_10)) :: []))) ((0, (AO.rows false (((AV.int IntKind.i64 have_.Id) :: ((AV.int IntKind.i64 have_.Epoch) :: ((AV.int IntKind.i64 have_.State) :: ((AV.str have_.From) :: ((AV.str have_.To) :: ((AV.sl (List.map api_Job.c have_.Jobs)) :: ((AV.sl (List.map api_Seen.c have_.Seen)) :: []))))))) :: []))) :: ((1, (AO.rows false (((AV.int IntKind.i64 (0 : Int)) :: ((AV.int IntKind.i64 (0 : Int)) :: ((AV.int IntKind.i64 (0 : Int)) :: ((AV.str ([] : List UInt8)) :: ((AV.str ([] : List UInt8)) :: (AV.esl :: (AV.esl :: []))))))) :: []))) :: [])) 2 ?_ (fun _ => ?_))
                      · conv => whnf
                        refine Or.inl ?_
                        conv => whnf
                        refine brn_i (fun hb => ?_) (fun hb => ?_)
                        · replace h10 := cond_t h10 hb
                          conv => whnf
                          obtain rfl := Option.some.inj h10
                          exact end_i trivial [(0, 0), (1, 2)] rfl rfl rfl
                        · replace h10 := cond_f h10 hb
                          conv => whnf
                          obtain rfl := Option.some.inj h10
                          exact end_i trivial [(0, 0), (1, 2)] rfl rfl rfl
                      · conv => whnf
                        refine Or.inl ?_
                        conv => whnf
                        refine brn_i (fun hb => ?_) (fun hb => ?_)
                        · replace k10 := cond_t k10 hb
                          conv => whnf
                          obtain rfl := Option.some.inj k10
                          obtain rfl := Option.some.inj (elim_l k5)
                          exact rfl
                        · replace k10 := cond_f k10 hb
                          conv => whnf
                          obtain rfl := Option.some.inj k10
                          exact end_i rfl [(0, 0), (1, 1)] rfl rfl rfl
                  · replace k9 := cond_f k9 hb
                    conv => whnf
                    obtain rfl := Option.some.inj k9
                    exact end_i rfl [(0, 0), (1, 2)] rfl rfl rfl
    · replace k5 := elim_e hR k5
      generalize outR o5 = v at k5 ⊢
      conv => whnf
      obtain rfl := Option.some.inj k5
      exact rfl

theorem matinsref18_Order_FC (F : Nat) (a : api_Order) (b : api_Order) (r : Bool) (h : matinsref18_Order F a b = some r) : FC Try.prog G0 9 [] [(.agg (api_Order.c a)), (.agg (api_Order.c b))] (.bool r) [] := by
  refine FC_of 2000 Try.func9 rfl (by kernel_rfl) mixed (by show 2 ≤ 52; decide) ?_
  unfold matinsref18_Order at h
  conv => whnf
  refine Or.inl ?_
  conv => whnf
  refine brn_i (fun hb => ?_) (fun hb => ?_)
  · replace h := cond_t h hb
    conv => whnf
    refine brn_i (fun hb => ?_) (fun hb => ?_)
    · replace h := cond_t h hb
      conv => whnf
      refine brn_i (fun hb => ?_) (fun hb => ?_)
      · replace h := cond_t h hb
        conv => whnf
        refine brn_i (fun hb => ?_) (fun hb => ?_)
        · replace h := cond_t h hb
          conv => whnf
          refine brn_i (fun hb => ?_) (fun hb => ?_)
          · replace h := cond_t h hb
            conv => whnf
            refine brn_i (fun hb => ?_) (fun hb => ?_)
            · replace h := cond_t h hb
              conv => whnf
              refine And.intro ⟨by kernel_rfl, _, rfl⟩ ?_
              conv => whnf
              obtain rfl := Option.some.inj h
              exact rfl
            · replace h := cond_f h hb
              conv => whnf
              obtain rfl := Option.some.inj h
              exact rfl
          · replace h := cond_f h hb
            conv => whnf
            obtain rfl := Option.some.inj h
            exact rfl
        · replace h := cond_f h hb
          conv => whnf
          obtain rfl := Option.some.inj h
          exact rfl
      · replace h := cond_f h hb
        conv => whnf
        obtain rfl := Option.some.inj h
        exact rfl
    · replace h := cond_f h hb
      conv => whnf
      obtain rfl := Option.some.inj h
      exact rfl
  · replace h := cond_f h hb
    conv => whnf
    obtain rfl := Option.some.inj h
    exact rfl

theorem matinsref16_Jobs_FC (F : Nat) (a : (List api_Job)) (b : (List api_Job)) (r : Bool) (h : matinsref16_Jobs F a b = some r) : FC Try.prog G0 21 [] [(.sl (List.map api_Job.c a)), (.sl (List.map api_Job.c b))] (.bool r) [] := by
  refine FC_of 2000 Try.func21 rfl (by kernel_rfl) mixed (by show 2 ≤ 26; decide) ?_
  unfold matinsref16_Jobs at h
  conv => whnf
  refine Or.inl ?_
  conv => whnf
  refine brn_i (fun hb => ?_) (fun hb => ?_)
  · replace h := cond_t h (by first | simpa only [length_enc8, List.length_map, List.length_append, List.length_cons, List.length_nil, List.length_set, List.length_replicate, List.length_take, List.length_drop, Nat.zero_add] using hb | simpa [length_enc8, List.length_map, List.length_append, List.length_cons, List.length_nil, List.length_set, List.length_replicate, List.length_take, List.length_drop, Nat.zero_add, chunk] using hb)
    conv => whnf
    obtain rfl := Option.some.inj h
    exact rfl
  · replace h := cond_f h (by first | simpa only [length_enc8, List.length_map, List.length_append, List.length_cons, List.length_nil, List.length_set, List.length_replicate, List.length_take, List.length_drop, Nat.zero_add] using hb | simpa [length_enc8, List.length_map, List.length_append, List.length_cons, List.length_nil, List.length_set, List.length_replicate, List.length_take, List.length_drop, Nat.zero_add, chunk] using hb)
    conv => whnf
    obtain ⟨o0, h0, k0⟩ := bind_e h
    refine Or.inr (joins_i (o0 = Sum.inr (outR o0)) [] [] 0 ?_ (fun hR => ?_))
    · conv => whnf
      refine Or.inl ?_
      conv => whnf
      refine loops_i (α := (Nat × Int)) (fun x => ((0, (AV.sl (List.map api_Job.c a))) :: ((1, (AV.sl (List.map api_Job.c b))) :: ((5, (AV.int IntKind.i64 x.2)) :: [])))) (fun x => []) 0 (fun x => matinsref16_Jobs_l0 F a b x.1 x.2 = some o0) (fun x => x.1) (F, (0 : Int)) [] h0 rfl rfl rfl ?_
      rintro ⟨n_12, i_13⟩ h0
      replace h0 : matinsref16_Jobs_l0 F a b n_12 i_13 = some o0 := h0
      cases n_12 with
      | zero => rw [matinsref16_Jobs_l0.eq_1] at h0; cases h0
      | succ n_12 =>
        rw [matinsref16_Jobs_l0.eq_2] at h0
        conv => whnf
        refine Or.inl ?_
        conv => whnf
        refine brn_i (fun hb => ?_) (fun hb => ?_)
        · replace h0 := cond_t h0 (by first | simpa only [length_enc8, List.length_map, List.length_append, List.length_cons, List.length_nil, List.length_set, List.length_replicate, List.length_take, List.length_drop, Nat.zero_add] using hb | simpa [length_enc8, List.length_map, List.length_append, List.length_cons, List.length_nil, List.length_set, List.length_replicate, List.length_take, List.length_drop, Nat.zero_add, chunk] using hb)
          conv => whnf
          refine Or.inl ?_
          conv => whnf
          obtain ⟨hg, h0⟩ := grd_e h0
          refine And.intro hg ?_
          conv => whnf
          obtain ⟨y_16, hy, h0⟩ := bind_e h0
          refine opt_i (api_Job.c y_16) (getE rfl hy) ?_
          conv => whnf
          obtain ⟨hg, h0⟩ := grd_e h0
          refine And.intro hg ?_
          conv => whnf
          obtain ⟨y_17, hy, h0⟩ := bind_e h0
          refine opt_i (api_Job.c y_17) (getE rfl hy) ?_
          conv => whnf
          refine And.intro ⟨by kernel_rfl, _, rfl⟩ ?_
          conv => whnf
          refine And.intro (by kernel_rfl) ?_
          conv => whnf
          refine Or.inl ?_
          conv => whnf
          refine brn_i (fun hb => ?_) (fun hb => ?_)
          · replace h0 := cond_t h0 hb
            conv => whnf
            obtain rfl := Option.some.inj h0
            obtain rfl := Option.some.inj (elim_l k0)
            exact rfl
          · replace h0 := cond_f h0 hb
            conv => whnf
            exact round_i (n_12, (IntKind.wrap IntKind.i64 (i_13 + (1 : Int)))) [] h0 (Nat.lt_succ_self _) rfl rfl rfl
        · replace h0 := cond_f h0 (by first | simpa only [length_enc8, List.length_map, List.length_append, List.length_cons, List.length_nil, List.length_set, List.length_replicate, List.length_take, List.length_drop, Nat.zero_add] using hb | simpa [length_enc8, List.length_map, List.length_append, List.length_cons, List.length_nil, List.length_set, List.length_replicate, List.length_take, List.length_drop, Nat.zero_add, chunk] using hb)
          conv => whnf
          obtain rfl := Option.some.inj h0
          exact end_i rfl [] rfl rfl rfl
    · replace k0 := elim_e hR k0
      generalize outR o0 = v at k0 ⊢
      conv => whnf
      obtain rfl := Option.some.inj k0
      exact rfl

theorem matinsref16_Result_FC (F : Nat) (a : api_Result) (b : api_Result) (r : Bool) (h : matinsref16_Result F a b = some r) : FC Try.prog G0 34 [] [(.agg (api_Result.c a)), (.agg (api_Result.c b))] (.bool r) [] := by
  refine FC_of 2000 Try.func34 rfl (by kernel_rfl) mixed (by show 2 ≤ 24; decide) ?_
  unfold matinsref16_Result at h
  conv => whnf
  refine Or.inl ?_
  conv => whnf
  refine brn_i (fun hb => ?_) (fun hb => ?_)
  · replace h := cond_t h hb
    conv => whnf
    refine brn_i (fun hb => ?_) (fun hb => ?_)
    · replace h := cond_t h hb
      conv => whnf
      refine Or.inl ?_
      conv => whnf
      obtain ⟨y_0, hy, h⟩ := bind_e h
      refine ⟨_, _, (matinsref16_Jobs_FC F a.Jobs b.Jobs y_0 hy), Or.inl ⟨rfl, rfl, ?_⟩⟩
      conv => whnf
      obtain rfl := Option.some.inj h
      exact rfl
    · replace h := cond_f h hb
      conv => whnf
      obtain rfl := Option.some.inj h
      exact rfl
  · replace h := cond_f h hb
    conv => whnf
    obtain rfl := Option.some.inj h
    exact rfl

theorem matinsref17_Books_FC (F : Nat) (a : (List api_Seen)) (b : (List api_Seen)) (r : Bool) (h : matinsref17_Books F a b = some r) : FC Try.prog G0 22 [] [(.sl (List.map api_Seen.c a)), (.sl (List.map api_Seen.c b))] (.bool r) [] := by
  refine FC_of 2000 Try.func22 rfl (by kernel_rfl) mixed (by show 2 ≤ 55; decide) ?_
  unfold matinsref17_Books at h
  conv => whnf
  refine Or.inl ?_
  conv => whnf
  refine brn_i (fun hb => ?_) (fun hb => ?_)
  · replace h := cond_t h (by first | simpa only [length_enc8, List.length_map, List.length_append, List.length_cons, List.length_nil, List.length_set, List.length_replicate, List.length_take, List.length_drop, Nat.zero_add] using hb | simpa [length_enc8, List.length_map, List.length_append, List.length_cons, List.length_nil, List.length_set, List.length_replicate, List.length_take, List.length_drop, Nat.zero_add, chunk] using hb)
    conv => whnf
    obtain rfl := Option.some.inj h
    exact rfl
  · replace h := cond_f h (by first | simpa only [length_enc8, List.length_map, List.length_append, List.length_cons, List.length_nil, List.length_set, List.length_replicate, List.length_take, List.length_drop, Nat.zero_add] using hb | simpa [length_enc8, List.length_map, List.length_append, List.length_cons, List.length_nil, List.length_set, List.length_replicate, List.length_take, List.length_drop, Nat.zero_add, chunk] using hb)
    conv => whnf
    obtain ⟨o4, h4, k4⟩ := bind_e h
    refine Or.inr (joins_i (o4 = Sum.inr (outR o4)) [] [] 0 ?_ (fun hR => ?_))
    · conv => whnf
      refine Or.inl ?_
      conv => whnf
      refine loops_i (α := (Nat × Int)) (fun x => ((0, (AV.sl (List.map api_Seen.c a))) :: ((1, (AV.sl (List.map api_Seen.c b))) :: ((5, (AV.int IntKind.i64 x.2)) :: [])))) (fun x => []) 0 (fun x => matinsref17_Books_l0 F a b x.1 x.2 = some o4) (fun x => x.1) (F, (0 : Int)) [] h4 rfl rfl rfl ?_
      rintro ⟨n_48, i_49⟩ h4
      replace h4 : matinsref17_Books_l0 F a b n_48 i_49 = some o4 := h4
      cases n_48 with
      | zero => rw [matinsref17_Books_l0.eq_1] at h4; cases h4
      | succ n_48 =>
        rw [matinsref17_Books_l0.eq_2] at h4
        conv => whnf
        refine Or.inl ?_
        conv => whnf
        refine brn_i (fun hb => ?_) (fun hb => ?_)
        · replace h4 := cond_t h4 (by first | simpa only [length_enc8, List.length_map, List.length_append, List.length_cons, List.length_nil, List.length_set, List.length_replicate, List.length_take, List.length_drop, Nat.zero_add] using hb | simpa [length_enc8, List.length_map, List.length_append, List.length_cons, List.length_nil, List.length_set, List.length_replicate, List.length_take, List.length_drop, Nat.zero_add, chunk] using hb)
          conv => whnf
          refine Or.inl ?_
          conv => whnf
          obtain ⟨t54_65, h8, k8⟩ := bind_e h4
          refine Or.inr (joins_i True ((0, (AV.sl (List.map api_Seen.c a))) :: ((1, (AV.sl (List.map api_Seen.c b))) :: ((5, (AV.int IntKind.i64 i_49)) :: ((54, (AV.bool t54_65)) :: [])))) [] 0 ?_ (fun _ => ?_))
          · conv => whnf
            refine Or.inl ?_
            conv => whnf
            obtain ⟨hg, h8⟩ := grd_e h8
            refine And.intro hg ?_
            conv => whnf
            obtain ⟨y_66, hy, h8⟩ := bind_e h8
            refine opt_i (api_Seen.c y_66) (getE rfl hy) ?_
            conv => whnf
            obtain ⟨hg, h8⟩ := grd_e h8
            refine And.intro hg ?_
            conv => whnf
            obtain ⟨y_67, hy, h8⟩ := bind_e h8
            refine opt_i (api_Seen.c y_67) (getE rfl hy) ?_
            conv => whnf
            refine brn_i (fun hb => ?_) (fun hb => ?_)
            · replace h8 := cond_t h8 hb
              conv => whnf
              refine And.intro (by kernel_rfl) ?_
              conv => whnf
              obtain rfl := Option.some.inj h8
              exact end_i trivial [] rfl rfl rfl
            · replace h8 := cond_f h8 hb
              conv => whnf
              obtain ⟨hg, h8⟩ := grd_e h8
              refine And.intro hg ?_
              conv => whnf
              obtain ⟨y_68, hy, h8⟩ := bind_e h8
              refine opt_i (api_Seen.c y_68) (getE rfl hy) ?_
              conv => whnf
              obtain ⟨hg, h8⟩ := grd_e h8
              refine And.intro hg ?_
              conv => whnf
              obtain ⟨y_69, hy, h8⟩ := bind_e h8
              refine opt_i (api_Seen.c y_69) (getE rfl hy) ?_
              conv => whnf
              refine brn_i (fun hb => ?_) (fun hb => ?_)
              · replace h8 := cond_t h8 hb
                conv => whnf
                refine And.intro (by kernel_rfl) ?_
                conv => whnf
                obtain rfl := Option.some.inj h8
                exact end_i trivial [] rfl rfl rfl
              · replace h8 := cond_f h8 hb
                conv => whnf
                obtain ⟨hg, h8⟩ := grd_e h8
                refine And.intro hg ?_
                conv => whnf
                obtain ⟨y_70, hy, h8⟩ := bind_e h8
                refine opt_i (api_Seen.c y_70) (getE rfl hy) ?_
                conv => whnf
                obtain ⟨hg, h8⟩ := grd_e h8
                refine And.intro hg ?_
                conv => whnf
                obtain ⟨y_71, hy, h8⟩ := bind_e h8
                refine opt_i (api_Seen.c y_71) (getE rfl hy) ?_
                conv => whnf
                refine Or.inl ?_
                conv => whnf
                obtain ⟨y_72, hy, h8⟩ := bind_e h8
                refine ⟨_, _, (matinsref16_Result_FC F y_70.Result y_71.Result y_72 hy), Or.inl ⟨rfl, rfl, ?_⟩⟩
                conv => whnf
                refine And.intro (by kernel_rfl) ?_
                conv => whnf
                obtain rfl := Option.some.inj h8
                exact end_i trivial [] rfl rfl rfl
          · conv => whnf
            refine Or.inl ?_
            conv => whnf
            refine brn_i (fun hb => ?_) (fun hb => ?_)
            · replace k8 := cond_t k8 hb
              conv => whnf
              obtain rfl := Option.some.inj k8
              obtain rfl := Option.some.inj (elim_l k4)
              exact rfl
            · replace k8 := cond_f k8 hb
              conv => whnf
              exact round_i (n_48, (IntKind.wrap IntKind.i64 (i_49 + (1 : Int)))) [] k8 (Nat.lt_succ_self _) rfl rfl rfl
        · replace h4 := cond_f h4 (by first | simpa only [length_enc8, List.length_map, List.length_append, List.length_cons, List.length_nil, List.length_set, List.length_replicate, List.length_take, List.length_drop, Nat.zero_add] using hb | simpa [length_enc8, List.length_map, List.length_append, List.length_cons, List.length_nil, List.length_set, List.length_replicate, List.length_take, List.length_drop, Nat.zero_add, chunk] using hb)
          conv => whnf
          obtain rfl := Option.some.inj h4
          exact end_i rfl [] rfl rfl rfl
    · replace k4 := elim_e hR k4
      generalize outR o4 = v at k4 ⊢
      conv => whnf
      obtain rfl := Option.some.inj k4
      exact rfl

theorem matinsref18_Shard_FC (F : Nat) (a : api_Shard) (b : api_Shard) (r : Bool) (h : matinsref18_Shard F a b = some r) : FC Try.prog G0 10 [] [(.agg (api_Shard.c a)), (.agg (api_Shard.c b))] (.bool r) [] := by
  refine FC_of 2000 Try.func10 rfl (by kernel_rfl) mixed (by show 2 ≤ 52; decide) ?_
  unfold matinsref18_Shard at h
  conv => whnf
  refine Or.inl ?_
  conv => whnf
  refine brn_i (fun hb => ?_) (fun hb => ?_)
  · replace h := cond_t h hb
    conv => whnf
    refine brn_i (fun hb => ?_) (fun hb => ?_)
    · replace h := cond_t h hb
      conv => whnf
      refine brn_i (fun hb => ?_) (fun hb => ?_)
      · replace h := cond_t h hb
        conv => whnf
        refine brn_i (fun hb => ?_) (fun hb => ?_)
        · replace h := cond_t h hb
          conv => whnf
          refine brn_i (fun hb => ?_) (fun hb => ?_)
          · replace h := cond_t h hb
            conv => whnf
            refine Or.inl ?_
            conv => whnf
            obtain ⟨y_0, hy, h⟩ := bind_e h
            refine ⟨_, _, (matinsref16_Jobs_FC F a.Jobs b.Jobs y_0 hy), Or.inl ⟨rfl, rfl, ?_⟩⟩
            conv => whnf
            refine brn_i (fun hb => ?_) (fun hb => ?_)
            · replace h := cond_t h hb
              conv => whnf
              refine Or.inl ?_
              conv => whnf
              obtain ⟨y_1, hy, h⟩ := bind_e h
              refine ⟨_, _, (matinsref17_Books_FC F a.Seen b.Seen y_1 hy), Or.inl ⟨rfl, rfl, ?_⟩⟩
              conv => whnf
              obtain rfl := Option.some.inj h
              exact rfl
            · replace h := cond_f h hb
              conv => whnf
              obtain rfl := Option.some.inj h
              exact rfl
          · replace h := cond_f h hb
            conv => whnf
            obtain rfl := Option.some.inj h
            exact rfl
        · replace h := cond_f h hb
          conv => whnf
          obtain rfl := Option.some.inj h
          exact rfl
      · replace h := cond_f h hb
        conv => whnf
        obtain rfl := Option.some.inj h
        exact rfl
    · replace h := cond_f h hb
      conv => whnf
      obtain rfl := Option.some.inj h
      exact rfl
  · replace h := cond_f h hb
    conv => whnf
    obtain rfl := Option.some.inj h
    exact rfl

theorem matinslaw20_MoverTells_FC (F : Nat) (a : api_Atlas) (have_ : api_Shard) (r_ : api_Result) (s : api_Shard) (r : Bool) (h : matinslaw20_MoverTells F a have_ r_ s = some r) : FC Try.prog G0 3 [] [(.agg (api_Atlas.c a)), (.agg (api_Shard.c have_)), (.agg (api_Result.c r_)), (.agg (api_Shard.c s))] (.bool r) [] := by
  refine FC_of 2000 Try.func3 rfl (by kernel_rfl) mixed (by show 4 ≤ 81; decide) ?_
  unfold matinslaw20_MoverTells at h
  conv => whnf
  refine Or.inl ?_
  conv => whnf
  obtain ⟨y_0, hy, h⟩ := bind_e h
  refine ⟨_, _, (matinslaw20_awake_FC F y_0 hy), Or.inl ⟨rfl, rfl, ?_⟩⟩
  conv => whnf
  refine Or.inl ?_
  conv => whnf
  refine brn_i (fun hb => ?_) (fun hb => ?_)
  · replace h := cond_t h hb
    conv => whnf
    obtain rfl := Option.some.inj h
    exact rfl
  · replace h := cond_f h hb
    conv => whnf
    refine Or.inl ?_
    conv => whnf
    obtain ⟨y_1, hy, h⟩ := bind_e h
    refine ⟨_, _, (mover_Next_FC F a have_ y_1 hy), Or.inr ⟨[], rfl, ?_⟩⟩
    conv => whnf
    refine Or.inl ?_
    conv => whnf
    obtain ⟨y_2, hy, h⟩ := bind_e h
    refine ⟨_, _, (matinsref20_Next_FC F a have_ y_2 hy), Or.inr ⟨[], rfl, ?_⟩⟩
    conv => whnf
    refine Or.inl ?_
    conv => whnf
    obtain ⟨y_3, hy, h⟩ := bind_e h
    refine ⟨_, _, (mover_Heard_FC F a have_ r_ s y_3 hy), Or.inr ⟨[], rfl, ?_⟩⟩
    conv => whnf
    refine Or.inl ?_
    conv => whnf
    obtain ⟨y_4, hy, h⟩ := bind_e h
    refine ⟨_, _, (matinsref20_Heard_FC F a have_ r_ s y_4 hy), Or.inr ⟨[], rfl, ?_⟩⟩
    conv => whnf
    refine Or.inl ?_
    conv => whnf
    refine brn_i (fun hb => ?_) (fun hb => ?_)
    · replace h := cond_t h hb
      conv => whnf
      refine Or.inl ?_
      conv => whnf
      obtain ⟨y_5, hy, h⟩ := bind_e h
      refine ⟨_, _, (matinsref18_Order_FC F y_1.2.1 y_2.2.1 y_5 hy), Or.inl ⟨rfl, rfl, ?_⟩⟩
      conv => whnf
      refine brn_i (fun hb => ?_) (fun hb => ?_)
      · replace h := cond_t h hb
        conv => whnf
        refine Or.inl ?_
        conv => whnf
        obtain ⟨y_6, hy, h⟩ := bind_e h
        refine ⟨_, _, (matinsref18_Shard_FC F y_1.2.1.State y_2.2.1.State y_6 hy), Or.inl ⟨rfl, rfl, ?_⟩⟩
        conv => whnf
        refine brn_i (fun hb => ?_) (fun hb => ?_)
        · replace h := cond_t h hb
          conv => whnf
          refine brn_i (fun hb => ?_) (fun hb => ?_)
          · replace h := cond_t h hb
            conv => whnf
            refine Or.inl ?_
            conv => whnf
            obtain ⟨y_7, hy, h⟩ := bind_e h
            refine ⟨_, _, (matinsref18_Shard_FC F y_3.1 y_4.1 y_7 hy), Or.inl ⟨rfl, rfl, ?_⟩⟩
            conv => whnf
            refine brn_i (fun hb => ?_) (fun hb => ?_)
            · replace h := cond_t h hb
              conv => whnf
              obtain rfl := Option.some.inj h
              exact rfl
            · replace h := cond_f h hb
              conv => whnf
              obtain rfl := Option.some.inj h
              exact rfl
          · replace h := cond_f h hb
            conv => whnf
            obtain rfl := Option.some.inj h
            exact rfl
        · replace h := cond_f h hb
          conv => whnf
          obtain rfl := Option.some.inj h
          exact rfl
      · replace h := cond_f h hb
        conv => whnf
        obtain rfl := Option.some.inj h
        exact rfl
    · replace h := cond_f h hb
      conv => whnf
      obtain rfl := Option.some.inj h
      exact rfl


end Go.T
