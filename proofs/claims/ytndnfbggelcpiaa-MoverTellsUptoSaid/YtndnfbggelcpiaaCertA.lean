/-
  CertTry: the program's functions compute them. Printed by a program.
-/
import Derived.Test.YtndnfbggelcpiaaSem
import Derived.Test.YtndnfbggelcpiaaProg
import Derived.KernelRfl
set_option linter.unusedVariables false
set_option maxRecDepth 200000
set_option maxHeartbeats 4000000
namespace Go.T
open Go Go.Ab Go.Proofs
theorem mixed : Try.prog.follows .mixedOrders = true := by kernel_rfl
theorem jobs_Named_FC (F : Nat) (s : (List UInt8)) (r : Bool) (h : jobs_Named F s = some r) : FC Try.prog G0 38 [] [(.str s)] (.bool r) [] := by
  refine FC_of 2000 Try.func38 rfl (by kernel_rfl) mixed (by show 1 ≤ 43; decide) ?_
  unfold jobs_Named at h
  conv => whnf
  obtain ⟨hg, h⟩ := grd_e h
  refine And.intro hg ?_
  conv => whnf
  obtain ⟨o4, h4, k4⟩ := bind_e h
  refine Or.inr (joins_i (o4 = Sum.inr (outR o4)) ((0, (AV.str s)) :: []) [] 0 ?_ (fun hR => ?_))
  · conv => whnf
    refine Or.inl ?_
    conv => whnf
    refine loops_i (α := (Nat × Int)) (fun x => ((0, (AV.str s)) :: ((6, (AV.osw 0 1)) :: ((7, (AV.int IntKind.i64 (((List.length (@enc8 s)) : Nat) : Int))) :: ((8, (AV.int IntKind.i64 x.2)) :: []))))) (fun x => ((0, (AO.rows true (List.map (cInt IntKind.u8) (List.map (fun (b_12 : UInt8) => (((UInt8.toNat b_12) : Nat) : Int)) s)))) :: [])) 1 (fun x => jobs_Named_l0 F s x.1 x.2 = some o4) (fun x => x.1) (F, (0 : Int)) [(0, 24)] h4 rfl (cons2 (congrArg (fun X => some (AO.rows true X)) (by simp [List.map_append, List.map_cons, List.map_nil, List.map_take, List.map_drop, List.map_set, List.map_replicate, List.map_map, enc8, cut, setAt, Function.comp_def, cInt, cBool, cStr, cSl])) rfl) rfl ?_
    rintro ⟨n_18, t8_19⟩ h4
    replace h4 : jobs_Named_l0 F s n_18 t8_19 = some o4 := h4
    cases n_18 with
    | zero => rw [jobs_Named_l0.eq_1] at h4; cases h4
    | succ n_18 =>
      rw [jobs_Named_l0.eq_2] at h4
      conv => whnf
      refine Or.inl ?_
      conv => whnf
      refine brn_i (fun hb => ?_) (fun hb => ?_)
      · replace h4 := cond_t h4 (by first | simpa only [length_enc8, List.length_map, List.length_append, List.length_cons, List.length_nil, List.length_set, List.length_replicate, List.length_take, List.length_drop, Nat.zero_add] using hb | simpa [length_enc8, List.length_map, List.length_append, List.length_cons, List.length_nil, List.length_set, List.length_replicate, List.length_take, List.length_drop, Nat.zero_add, chunk] using hb)
        conv => whnf
        refine Or.inl ?_
        conv => whnf
        obtain ⟨hg, h4⟩ := grd_e h4
        refine And.intro hg ?_
        conv => whnf
        obtain ⟨y_23, hy, h4⟩ := bind_e h4
        refine opt_i ((cInt IntKind.u8) y_23) (getE rfl hy) ?_
        conv => whnf
        obtain ⟨y_24, hy, h4⟩ := bind_e h4
        refine opt_i ((cInt IntKind.u8) y_24) (getE rfl hy) ?_
        conv => whnf
        obtain ⟨t33_25, h8, k8⟩ := bind_e h4
        refine Or.inr (joins_i True ((0, (AV.str s)) :: ((6, (AV.osw 0 1)) :: ((7, (AV.int IntKind.i64 (((List.length (@enc8 s)) : Nat) : Int))) :: ((8, (AV.int IntKind.i64 t8_19)) :: ((33, (AV.bool t33_25)) :: []))))) ((0, (AO.rows true (List.map (cInt IntKind.u8) (List.map (fun (b_12 : UInt8) => (((UInt8.toNat b_12) : Nat) : Int)) s)))) :: []) 1 ?_ (fun _ => ?_))
        · conv => whnf
          refine Or.inl ?_
          conv => whnf
          refine brn_i (fun hb => ?_) (fun hb => ?_)
          · replace h8 := cond_t h8 hb
            conv => whnf
            refine brn_i (fun hb => ?_) (fun hb => ?_)
            · replace h8 := cond_t h8 hb
              conv => whnf
              refine brn_i (fun hb => ?_) (fun hb => ?_)
              · replace h8 := cond_t h8 hb
                conv => whnf
                obtain rfl := Option.some.inj h8
                exact end_i trivial [(0, 0)] rfl rfl rfl
              · replace h8 := cond_f h8 hb
                conv => whnf
                obtain rfl := Option.some.inj h8
                exact end_i trivial [(0, 0)] rfl rfl rfl
            · replace h8 := cond_f h8 hb
              conv => whnf
              refine brn_i (fun hb => ?_) (fun hb => ?_)
              · replace h8 := cond_t h8 hb
                conv => whnf
                refine brn_i (fun hb => ?_) (fun hb => ?_)
                · replace h8 := cond_t h8 hb
                  conv => whnf
                  obtain rfl := Option.some.inj h8
                  exact end_i trivial [(0, 0)] rfl rfl rfl
                · replace h8 := cond_f h8 hb
                  conv => whnf
                  obtain rfl := Option.some.inj h8
                  exact end_i trivial [(0, 0)] rfl rfl rfl
              · replace h8 := cond_f h8 hb
                conv => whnf
                obtain rfl := Option.some.inj h8
                exact end_i trivial [(0, 0)] rfl rfl rfl
          · replace h8 := cond_f h8 hb
            conv => whnf
            refine brn_i (fun hb => ?_) (fun hb => ?_)
            · replace h8 := cond_t h8 hb
              conv => whnf
              refine brn_i (fun hb => ?_) (fun hb => ?_)
              · replace h8 := cond_t h8 hb
                conv => whnf
                refine brn_i (fun hb => ?_) (fun hb => ?_)
                · replace h8 := cond_t h8 hb
                  conv => whnf
                  obtain rfl := Option.some.inj h8
                  exact end_i trivial [(0, 0)] rfl rfl rfl
                · replace h8 := cond_f h8 hb
                  conv => whnf
                  obtain rfl := Option.some.inj h8
                  exact end_i trivial [(0, 0)] rfl rfl rfl
              · replace h8 := cond_f h8 hb
                conv => whnf
                refine brn_i (fun hb => ?_) (fun hb => ?_)
                · replace h8 := cond_t h8 hb
                  conv => whnf
                  refine brn_i (fun hb => ?_) (fun hb => ?_)
                  · replace h8 := cond_t h8 hb
                    conv => whnf
                    obtain rfl := Option.some.inj h8
                    exact end_i trivial [(0, 0)] rfl rfl rfl
                  · replace h8 := cond_f h8 hb
                    conv => whnf
                    obtain rfl := Option.some.inj h8
                    exact end_i trivial [(0, 0)] rfl rfl rfl
                · replace h8 := cond_f h8 hb
                  conv => whnf
                  obtain rfl := Option.some.inj h8
                  exact end_i trivial [(0, 0)] rfl rfl rfl
            · replace h8 := cond_f h8 hb
              conv => whnf
              obtain rfl := Option.some.inj h8
              exact end_i trivial [(0, 0)] rfl rfl rfl
        · conv => whnf
          refine Or.inl ?_
          conv => whnf
          refine brn_i (fun hb => ?_) (fun hb => ?_)
          · replace k8 := cond_t k8 hb
            conv => whnf
            obtain rfl := Option.some.inj k8
            obtain rfl := Option.some.inj (elim_l k4)
            exact rfl
          · replace k8 := cond_f k8 hb
            conv => whnf
            exact round_i (n_18, (IntKind.wrap IntKind.i64 (t8_19 + (1 : Int)))) [(0, 0)] k8 (Nat.lt_succ_self _) rfl rfl rfl
      · replace h4 := cond_f h4 (by first | simpa only [length_enc8, List.length_map, List.length_append, List.length_cons, List.length_nil, List.length_set, List.length_replicate, List.length_take, List.length_drop, Nat.zero_add] using hb | simpa [length_enc8, List.length_map, List.length_append, List.length_cons, List.length_nil, List.length_set, List.length_replicate, List.length_take, List.length_drop, Nat.zero_add, chunk] using hb)
        conv => whnf
        obtain rfl := Option.some.inj h4
        exact end_i rfl [] rfl rfl rfl
  · replace k4 := elim_e hR k4
    generalize outR o4 = v at k4 ⊢
    conv => whnf
    refine Or.inl ?_
    conv => whnf
    refine brn_i (fun hb => ?_) (fun hb => ?_)
    · replace k4 := cond_t k4 hb
      conv => whnf
      obtain rfl := Option.some.inj k4
      exact rfl
    · replace k4 := cond_f k4 hb
      conv => whnf
      obtain rfl := Option.some.inj k4
      exact rfl

theorem atlas_covers_FC (F : Nat) (spans : (List api_Span)) (r : Bool) (h : atlas_covers F spans = some r) : FC Try.prog G0 26 [] [(.sl (List.map api_Span.c spans))] (.bool r) [] := by
  refine FC_of 2000 Try.func26 rfl (by kernel_rfl) mixed (by show 1 ≤ 64; decide) ?_
  unfold atlas_covers at h
  conv => whnf
  obtain ⟨t29_2, h0, k0⟩ := bind_e h
  refine Or.inr (joins_i True ((0, (AV.sl (List.map api_Span.c spans))) :: ((29, (AV.bool t29_2)) :: [])) [] 0 ?_ (fun _ => ?_))
  · conv => whnf
    refine Or.inl ?_
    conv => whnf
    refine brn_i (fun hb => ?_) (fun hb => ?_)
    · replace h0 := cond_t h0 (by first | simpa only [length_enc8, List.length_map, List.length_append, List.length_cons, List.length_nil, List.length_set, List.length_replicate, List.length_take, List.length_drop, Nat.zero_add] using hb | simpa [length_enc8, List.length_map, List.length_append, List.length_cons, List.length_nil, List.length_set, List.length_replicate, List.length_take, List.length_drop, Nat.zero_add, chunk] using hb)
      conv => whnf
      obtain rfl := Option.some.inj h0
      exact end_i trivial [] rfl rfl rfl
    · replace h0 := cond_f h0 (by first | simpa only [length_enc8, List.length_map, List.length_append, List.length_cons, List.length_nil, List.length_set, List.length_replicate, List.length_take, List.length_drop, Nat.zero_add] using hb | simpa [length_enc8, List.length_map, List.length_append, List.length_cons, List.length_nil, List.length_set, List.length_replicate, List.length_take, List.length_drop, Nat.zero_add, chunk] using hb)
      conv => whnf
      refine brn_i (fun hb => ?_) (fun hb => ?_)
      · replace h0 := cond_t h0 (by first | simpa only [length_enc8, List.length_map, List.length_append, List.length_cons, List.length_nil, List.length_set, List.length_replicate, List.length_take, List.length_drop, Nat.zero_add] using hb | simpa [length_enc8, List.length_map, List.length_append, List.length_cons, List.length_nil, List.length_set, List.length_replicate, List.length_take, List.length_drop, Nat.zero_add, chunk] using hb)
        conv => whnf
        obtain rfl := Option.some.inj h0
        exact end_i trivial [] rfl rfl rfl
      · replace h0 := cond_f h0 (by first | simpa only [length_enc8, List.length_map, List.length_append, List.length_cons, List.length_nil, List.length_set, List.length_replicate, List.length_take, List.length_drop, Nat.zero_add] using hb | simpa [length_enc8, List.length_map, List.length_append, List.length_cons, List.length_nil, List.length_set, List.length_replicate, List.length_take, List.length_drop, Nat.zero_add, chunk] using hb)
        conv => whnf
        refine And.intro (by decide) ?_
        conv => whnf
        obtain ⟨y_3, hy, h0⟩ := bind_e h0
        refine opt_i (api_Span.c y_3) (getE rfl hy) ?_
        conv => whnf
        refine brn_i (fun hb => ?_) (fun hb => ?_)
        · replace h0 := cond_t h0 hb
          conv => whnf
          obtain rfl := Option.some.inj h0
          exact end_i trivial [] rfl rfl rfl
        · replace h0 := cond_f h0 hb
          conv => whnf
          obtain ⟨hg, h0⟩ := grd_e h0
          refine And.intro (by first | simpa only [length_enc8, List.length_map, List.length_append, List.length_cons, List.length_nil, List.length_set, List.length_replicate, List.length_take, List.length_drop, Nat.zero_add] using hg | simpa [length_enc8, List.length_map, List.length_append, List.length_cons, List.length_nil, List.length_set, List.length_replicate, List.length_take, List.length_drop, Nat.zero_add, chunk] using hg | (simp [length_enc8, List.length_map, List.length_append, List.length_cons, List.length_nil, List.length_set, List.length_replicate, List.length_take, List.length_drop, Nat.zero_add, chunk] at hg ⊢; omega)) ?_
          conv => whnf
          obtain ⟨y_4, hy, h0⟩ := bind_e h0
          refine opt_i (api_Span.c y_4) (getE rfl hy) ?_
          conv => whnf
          obtain rfl := Option.some.inj h0
          exact end_i trivial [] rfl rfl rfl
  · conv => whnf
    refine Or.inl ?_
    conv => whnf
    refine brn_i (fun hb => ?_) (fun hb => ?_)
    · replace k0 := cond_t k0 hb
      conv => whnf
      obtain rfl := Option.some.inj k0
      exact rfl
    · replace k0 := cond_f k0 hb
      conv => whnf
      refine And.intro trivial ?_
      conv => whnf
      obtain ⟨hg, k0⟩ := grd_e k0
      refine And.intro (by first | simpa only [length_enc8, List.length_map, List.length_append, List.length_cons, List.length_nil, List.length_set, List.length_replicate, List.length_take, List.length_drop, Nat.zero_add] using hg | simpa [length_enc8, List.length_map, List.length_append, List.length_cons, List.length_nil, List.length_set, List.length_replicate, List.length_take, List.length_drop, Nat.zero_add, chunk] using hg | (simp [length_enc8, List.length_map, List.length_append, List.length_cons, List.length_nil, List.length_set, List.length_replicate, List.length_take, List.length_drop, Nat.zero_add, chunk] at hg ⊢; omega)) ?_
      conv => whnf
      obtain ⟨hg, k0⟩ := grd_e k0
      refine And.intro (by first | simpa only [length_enc8, List.length_map, List.length_append, List.length_cons, List.length_nil, List.length_set, List.length_replicate, List.length_take, List.length_drop, Nat.zero_add] using hg | simpa [length_enc8, List.length_map, List.length_append, List.length_cons, List.length_nil, List.length_set, List.length_replicate, List.length_take, List.length_drop, Nat.zero_add, chunk] using hg | (simp [length_enc8, List.length_map, List.length_append, List.length_cons, List.length_nil, List.length_set, List.length_replicate, List.length_take, List.length_drop, Nat.zero_add, chunk] at hg ⊢; omega)) ?_
      conv => whnf
      obtain ⟨hg, k0⟩ := grd_e k0
      refine And.intro (by first | simpa only [length_enc8, List.length_map, List.length_append, List.length_cons, List.length_nil, List.length_set, List.length_replicate, List.length_take, List.length_drop, Nat.zero_add] using hg | simpa [length_enc8, List.length_map, List.length_append, List.length_cons, List.length_nil, List.length_set, List.length_replicate, List.length_take, List.length_drop, Nat.zero_add, chunk] using hg | (simp [length_enc8, List.length_map, List.length_append, List.length_cons, List.length_nil, List.length_set, List.length_replicate, List.length_take, List.length_drop, Nat.zero_add, chunk] at hg ⊢; omega)) ?_
      conv => whnf
      obtain ⟨o5, h5, k5⟩ := bind_e k0
      refine Or.inr (joins_i (o5 = Sum.inr (outR o5)) [] [] 0 ?_ (fun hR => ?_))
      · conv => whnf
        refine Or.inl ?_
        conv => whnf
        refine loops_i (α := (Nat × Int)) (fun x => ((0, (AV.sl (List.map api_Span.c spans))) :: ((34, (AV.sl (List.map api_Span.c (List.take (Int.toNat (IntKind.wrap IntKind.i64 ((((List.length (List.map api_Span.c spans)) : Nat) : Int) - (1 : Int)))) spans)))) :: ((35, (AV.int IntKind.i64 (((List.length (@cut (@List AV) none (some (Operand.tmp 33)) (List.map api_Span.c spans) 0 (Int.toNat (IntKind.wrap IntKind.i64 ((((List.length (List.map api_Span.c spans)) : Nat) : Int) - (1 : Int)))))) : Nat) : Int))) :: ((36, (AV.int IntKind.i64 x.2)) :: []))))) (fun x => []) 0 (fun x => atlas_covers_l0 F spans x.1 x.2 = some o5) (fun x => x.1) (F, (0 : Int)) [] h5 (cons2 rfl (cons2 (congrArg AV.sl (by simp [List.map_append, List.map_cons, List.map_nil, List.map_take, List.map_drop, List.map_set, List.map_replicate, List.map_map, enc8, cut, setAt, Function.comp_def, cInt, cBool, cStr, cSl, api_Span.c])) rfl)) rfl rfl ?_
        rintro ⟨n_29, t36_30⟩ h5
        replace h5 : atlas_covers_l0 F spans n_29 t36_30 = some o5 := h5
        cases n_29 with
        | zero => rw [atlas_covers_l0.eq_1] at h5; cases h5
        | succ n_29 =>
          rw [atlas_covers_l0.eq_2] at h5
          conv => whnf
          refine Or.inl ?_
          conv => whnf
          refine brn_i (fun hb => ?_) (fun hb => ?_)
          · replace h5 := cond_t h5 (by first | simpa only [length_enc8, List.length_map, List.length_append, List.length_cons, List.length_nil, List.length_set, List.length_replicate, List.length_take, List.length_drop, Nat.zero_add] using hb | simpa [length_enc8, List.length_map, List.length_append, List.length_cons, List.length_nil, List.length_set, List.length_replicate, List.length_take, List.length_drop, Nat.zero_add, chunk] using hb)
            conv => whnf
            refine Or.inl ?_
            conv => whnf
            obtain ⟨hg, h5⟩ := grd_e h5
            refine And.intro hg ?_
            conv => whnf
            obtain ⟨y_35, hy, h5⟩ := bind_e h5
            refine opt_i (api_Span.c y_35) (getE rfl hy) ?_
            conv => whnf
            obtain ⟨t62_38, h9, k9⟩ := bind_e h5
            refine Or.inr (joins_i True ((0, (AV.sl (List.map api_Span.c spans))) :: ((34, (AV.sl (List.map api_Span.c (List.take (Int.toNat (IntKind.wrap IntKind.i64 ((((List.length (List.map api_Span.c spans)) : Nat) : Int) - (1 : Int)))) spans)))) :: ((35, (AV.int IntKind.i64 (((List.length (@cut (@List AV) none (some (Operand.tmp 33)) (List.map api_Span.c spans) 0 (Int.toNat (IntKind.wrap IntKind.i64 ((((List.length (List.map api_Span.c spans)) : Nat) : Int) - (1 : Int)))))) : Nat) : Int))) :: ((36, (AV.int IntKind.i64 t36_30)) :: ((62, (AV.bool t62_38)) :: []))))) [] 0 ?_ (fun _ => ?_))
            · conv => whnf
              refine Or.inl ?_
              conv => whnf
              refine Or.inl ?_
              conv => whnf
              obtain ⟨y_39, hy, h9⟩ := bind_e h9
              refine ⟨_, _, (jobs_Named_FC F y_35.To y_39 hy), Or.inl ⟨rfl, rfl, ?_⟩⟩
              conv => whnf
              refine brn_i (fun hb => ?_) (fun hb => ?_)
              · replace h9 := cond_t h9 hb
                conv => whnf
                refine And.intro (by kernel_rfl) ?_
                conv => whnf
                obtain rfl := Option.some.inj h9
                exact end_i trivial [] rfl rfl rfl
              · replace h9 := cond_f h9 hb
                conv => whnf
                refine brn_i (fun hb => ?_) (fun hb => ?_)
                · replace h9 := cond_t h9 hb
                  conv => whnf
                  refine And.intro (by kernel_rfl) ?_
                  conv => whnf
                  obtain rfl := Option.some.inj h9
                  exact end_i trivial [] rfl rfl rfl
                · replace h9 := cond_f h9 hb
                  conv => whnf
                  obtain ⟨hg, h9⟩ := grd_e h9
                  refine And.intro hg ?_
                  conv => whnf
                  obtain ⟨y_40, hy, h9⟩ := bind_e h9
                  refine opt_i (api_Span.c y_40) (getE rfl hy) ?_
                  conv => whnf
                  refine And.intro (by kernel_rfl) ?_
                  conv => whnf
                  obtain rfl := Option.some.inj h9
                  exact end_i trivial [] rfl rfl rfl
            · conv => whnf
              refine Or.inl ?_
              conv => whnf
              refine brn_i (fun hb => ?_) (fun hb => ?_)
              · replace k9 := cond_t k9 hb
                conv => whnf
                obtain rfl := Option.some.inj k9
                obtain rfl := Option.some.inj (elim_l k5)
                exact rfl
              · replace k9 := cond_f k9 hb
                conv => whnf
                exact round_i (n_29, (IntKind.wrap IntKind.i64 (t36_30 + (1 : Int)))) [] k9 (Nat.lt_succ_self _) rfl rfl rfl
          · replace h5 := cond_f h5 (by first | simpa only [length_enc8, List.length_map, List.length_append, List.length_cons, List.length_nil, List.length_set, List.length_replicate, List.length_take, List.length_drop, Nat.zero_add] using hb | simpa [length_enc8, List.length_map, List.length_append, List.length_cons, List.length_nil, List.length_set, List.length_replicate, List.length_take, List.length_drop, Nat.zero_add, chunk] using hb)
            conv => whnf
            obtain rfl := Option.some.inj h5
            exact end_i rfl [] rfl rfl rfl
      · replace k5 := elim_e hR k5
        generalize outR o5 = v at k5 ⊢
        conv => whnf
        obtain rfl := Option.some.inj k5
        exact rfl

theorem atlas_place_1_FC (F : Nat) (s : api_Span) (a1 : Int) (r : Bool) (h : atlas_place_1 F s a1 = some r) : FC Try.prog G0 36 [] [(.agg (api_Span.c s)), (.rp ((cInt IntKind.i64) a1) 0)] (.bool r) [] := by
  refine FC_of 2000 Try.func36 rfl (by kernel_rfl) mixed (by show 2 ≤ 8; decide) ?_
  unfold atlas_place_1 at h
  conv => whnf
  obtain rfl := Option.some.inj h
  exact rfl

theorem slices_IndexFunc___api_Span_api_Span__FC (F : Nat) (s : (List api_Span)) (f_0 : Int) (r : Int) (h : slices_IndexFunc___api_Span_api_Span_ F s f_0 = some r) : FC Try.prog G0 16 [] [(.sl (List.map api_Span.c s)), (.fn 36 [(.rp ((cInt IntKind.i64) f_0) 0)])] (.int IntKind.i64 r) [] := by
  refine FC_of 2000 Try.func16 rfl (by kernel_rfl) mixed (by show 2 ≤ 19; decide) ?_
  unfold slices_IndexFunc___api_Span_api_Span_ at h
  conv => whnf
  obtain ⟨o0, h0, k0⟩ := bind_e h
  refine Or.inr (joins_i (o0 = Sum.inr (outR o0)) [] [] 0 ?_ (fun hR => ?_))
  · conv => whnf
    refine Or.inl ?_
    conv => whnf
    refine loops_i (α := (Nat × Int)) (fun x => ((0, (AV.sl (List.map api_Span.c s))) :: ((1, (AV.fn 36 ((AV.rp ((AV.int IntKind.i64 f_0) :: []) 0) :: []))) :: ((7, (AV.int IntKind.i64 (((List.length (List.map api_Span.c s)) : Nat) : Int))) :: ((8, (AV.int IntKind.i64 x.2)) :: []))))) (fun x => []) 0 (fun x => slices_IndexFunc___api_Span_api_Span__l0 F s f_0 x.1 x.2 = some o0) (fun x => x.1) (F, (0 : Int)) [] h0 rfl rfl rfl ?_
    rintro ⟨n_12, t8_13⟩ h0
    replace h0 : slices_IndexFunc___api_Span_api_Span__l0 F s f_0 n_12 t8_13 = some o0 := h0
    cases n_12 with
    | zero => rw [slices_IndexFunc___api_Span_api_Span__l0.eq_1] at h0; cases h0
    | succ n_12 =>
      rw [slices_IndexFunc___api_Span_api_Span__l0.eq_2] at h0
      conv => whnf
      refine Or.inl ?_
      conv => whnf
      refine brn_i (fun hb => ?_) (fun hb => ?_)
      · replace h0 := cond_t h0 (by first | simpa only [length_enc8, List.length_map, List.length_append, List.length_cons, List.length_nil, List.length_set, List.length_replicate, List.length_take, List.length_drop, Nat.zero_add] using hb | simpa [length_enc8, List.length_map, List.length_append, List.length_cons, List.length_nil, List.length_set, List.length_replicate, List.length_take, List.length_drop, Nat.zero_add, chunk] using hb)
        conv => whnf
        refine Or.inl ?_
        conv => whnf
        obtain ⟨hg, h0⟩ := grd_e h0
        refine And.intro hg ?_
        conv => whnf
        obtain ⟨y_16, hy, h0⟩ := bind_e h0
        refine opt_i (api_Span.c y_16) (getE rfl hy) ?_
        conv => whnf
        refine Or.inl ?_
        conv => whnf
        obtain ⟨y_17, hy, h0⟩ := bind_e h0
        refine ⟨_, _, (atlas_place_1_FC F y_16 f_0 y_17 hy), Or.inl ⟨rfl, rfl, ?_⟩⟩
        conv => whnf
        refine Or.inl ?_
        conv => whnf
        refine brn_i (fun hb => ?_) (fun hb => ?_)
        · replace h0 := cond_t h0 hb
          conv => whnf
          obtain rfl := Option.some.inj h0
          obtain rfl := Option.some.inj (elim_l k0)
          exact rfl
        · replace h0 := cond_f h0 hb
          conv => whnf
          exact round_i (n_12, (IntKind.wrap IntKind.i64 (t8_13 + (1 : Int)))) [] h0 (Nat.lt_succ_self _) rfl rfl rfl
      · replace h0 := cond_f h0 (by first | simpa only [length_enc8, List.length_map, List.length_append, List.length_cons, List.length_nil, List.length_set, List.length_replicate, List.length_take, List.length_drop, Nat.zero_add] using hb | simpa [length_enc8, List.length_map, List.length_append, List.length_cons, List.length_nil, List.length_set, List.length_replicate, List.length_take, List.length_drop, Nat.zero_add, chunk] using hb)
        conv => whnf
        obtain rfl := Option.some.inj h0
        exact end_i rfl [] rfl rfl rfl
  · replace k0 := elim_e hR k0
    generalize outR o0 = v at k0 ⊢
    conv => whnf
    obtain rfl := Option.some.inj k0
    exact rfl

theorem atlas_place_FC (F : Nat) (a : api_Atlas) (shard : Int) (r : Int) (h : atlas_place F a shard = some r) : FC Try.prog G0 24 [] [(.agg (api_Atlas.c a)), (.int IntKind.i64 shard)] (.int IntKind.i64 r) [] := by
  refine FC_of 2000 Try.func24 rfl (by kernel_rfl) mixed (by show 2 ≤ 9; decide) ?_
  unfold atlas_place at h
  conv => whnf
  refine Or.inl ?_
  conv => whnf
  obtain ⟨y_0, hy, h⟩ := bind_e h
  refine ⟨_, _, (slices_IndexFunc___api_Span_api_Span__FC F a.Spans shard y_0 hy), Or.inl ⟨rfl, rfl, ?_⟩⟩
  conv => whnf
  obtain rfl := Option.some.inj h
  exact rfl

theorem atlas_moving_FC (F : Nat) (a : api_Atlas) (s : api_Span) (p : api_Plan) (r : Bool) (h : atlas_moving F a s p = some r) : FC Try.prog G0 39 [] [(.agg (api_Atlas.c a)), (.agg (api_Span.c s)), (.agg (api_Plan.c p))] (.bool r) [] := by
  refine FC_of 2000 Try.func39 rfl (by kernel_rfl) mixed (by show 3 ≤ 87; decide) ?_
  unfold atlas_moving at h
  conv => whnf
  obtain ⟨t39_0, h0, k0⟩ := bind_e h
  refine Or.inr (joins_i True ((4, (AV.ptr 0 0 0)) :: ((5, (AV.ptr 1 0 0)) :: ((39, (AV.bool t39_0)) :: []))) ((0, (AO.rows false (((AV.str s.From) :: ((AV.str s.To) :: ((AV.int IntKind.i64 s.Shard) :: ((AV.int IntKind.i64 s.Epoch) :: ((AV.int IntKind.i64 s.Group) :: []))))) :: []))) :: ((1, (AO.rows false (((AV.int IntKind.i64 p.Kind) :: ((AV.int IntKind.i64 p.Phase) :: ((AV.int IntKind.i64 p.Shard) :: ((AV.int IntKind.i64 p.Other) :: ((AV.int IntKind.i64 p.Group) :: ((AV.int IntKind.i64 p.Past) :: ((AV.int IntKind.i64 p.Epoch) :: ((AV.str p.Key) :: [])))))))) :: []))) :: [])) 2 ?_ (fun _ => ?_))
  · conv => whnf
    refine Or.inl ?_
    conv => whnf
    refine brn_i (fun hb => ?_) (fun hb => ?_)
    · replace h0 := cond_t h0 hb
      conv => whnf
      obtain rfl := Option.some.inj h0
      exact end_i trivial [(0, 16), (1, 24)] rfl rfl rfl
    · replace h0 := cond_f h0 hb
      conv => whnf
      refine brn_i (fun hb => ?_) (fun hb => ?_)
      · replace h0 := cond_t h0 hb
        conv => whnf
        obtain rfl := Option.some.inj h0
        exact end_i trivial [(0, 16), (1, 24)] rfl rfl rfl
      · replace h0 := cond_f h0 hb
        conv => whnf
        refine brn_i (fun hb => ?_) (fun hb => ?_)
        · replace h0 := cond_t h0 hb
          conv => whnf
          obtain rfl := Option.some.inj h0
          exact end_i trivial [(0, 16), (1, 24)] rfl rfl rfl
        · replace h0 := cond_f h0 hb
          conv => whnf
          refine brn_i (fun hb => ?_) (fun hb => ?_)
          · replace h0 := cond_t h0 hb
            conv => whnf
            obtain rfl := Option.some.inj h0
            exact end_i trivial [(0, 16), (1, 24)] rfl rfl rfl
          · replace h0 := cond_f h0 hb
            conv => whnf
            obtain rfl := Option.some.inj h0
            exact end_i trivial [(0, 16), (1, 24)] rfl rfl rfl
  · conv => whnf
    refine Or.inl ?_
    conv => whnf
    refine brn_i (fun hb => ?_) (fun hb => ?_)
    · replace k0 := cond_t k0 hb
      conv => whnf
      obtain rfl := Option.some.inj k0
      exact rfl
    · replace k0 := cond_f k0 hb
      conv => whnf
      refine Or.inl ?_
      conv => whnf
      refine Or.inl ?_
      conv => whnf
      refine brn_i (fun hb => ?_) (fun hb => ?_)
      · replace k0 := cond_t k0 hb
        conv => whnf
        refine Or.inl ?_
        conv => whnf
        refine brn_i (fun hb => ?_) (fun hb => ?_)
        · replace k0 := cond_t k0 hb
          conv => whnf
          obtain rfl := Option.some.inj k0
          exact rfl
        · replace k0 := cond_f k0 hb
          conv => whnf
          obtain rfl := Option.some.inj k0
          exact rfl
      · replace k0 := cond_f k0 hb
        conv => whnf
        obtain ⟨t56_2, h2, k2⟩ := bind_e k0
        refine Or.inr (joins_i True ((4, (AV.ptr 0 0 0)) :: ((5, (AV.ptr 1 0 0)) :: ((41, (AV.int IntKind.i64 p.Phase)) :: ((56, (AV.bool t56_2)) :: [])))) ((0, (AO.rows false (((AV.str s.From) :: ((AV.str s.To) :: ((AV.int IntKind.i64 s.Shard) :: ((AV.int IntKind.i64 s.Epoch) :: ((AV.int IntKind.i64 s.Group) :: []))))) :: []))) :: ((1, (AO.rows false (((AV.int IntKind.i64 p.Kind) :: ((AV.int IntKind.i64 p.Phase) :: ((AV.int IntKind.i64 p.Shard) :: ((AV.int IntKind.i64 p.Other) :: ((AV.int IntKind.i64 p.Group) :: ((AV.int IntKind.i64 p.Past) :: ((AV.int IntKind.i64 p.Epoch) :: ((AV.str p.Key) :: [])))))))) :: []))) :: [])) 2 ?_ (fun _ => ?_))
        · conv => whnf
          refine Or.inl ?_
          conv => whnf
          refine brn_i (fun hb => ?_) (fun hb => ?_)
          · replace h2 := cond_t h2 hb
            conv => whnf
            obtain rfl := Option.some.inj h2
            exact end_i trivial [(0, 0), (1, 1)] rfl rfl rfl
          · replace h2 := cond_f h2 hb
            conv => whnf
            obtain rfl := Option.some.inj h2
            exact end_i trivial [(0, 0), (1, 1)] rfl rfl rfl
        · conv => whnf
          refine Or.inl ?_
          conv => whnf
          refine brn_i (fun hb => ?_) (fun hb => ?_)
          · replace k2 := cond_t k2 hb
            conv => whnf
            refine Or.inl ?_
            conv => whnf
            refine brn_i (fun hb => ?_) (fun hb => ?_)
            · replace k2 := cond_t k2 hb
              conv => whnf
              obtain rfl := Option.some.inj k2
              exact rfl
            · replace k2 := cond_f k2 hb
              conv => whnf
              obtain rfl := Option.some.inj k2
              exact rfl
          · replace k2 := cond_f k2 hb
            conv => whnf
            refine Or.inl ?_
            conv => whnf
            refine brn_i (fun hb => ?_) (fun hb => ?_)
            · replace k2 := cond_t k2 hb
              conv => whnf
              refine Or.inl ?_
              conv => whnf
              refine brn_i (fun hb => ?_) (fun hb => ?_)
              · replace k2 := cond_t k2 hb
                conv => whnf
                obtain rfl := Option.some.inj k2
                exact rfl
              · replace k2 := cond_f k2 hb
                conv => whnf
                obtain rfl := Option.some.inj k2
                exact rfl
            · replace k2 := cond_f k2 hb
              conv => whnf
              obtain rfl := Option.some.inj k2
              exact rfl

theorem atlas_inside_FC (F : Nat) (s : api_Span) (key : (List UInt8)) (r : Bool) (h : atlas_inside F s key = some r) : FC Try.prog G0 37 [] [(.agg (api_Span.c s)), (.str key)] (.bool r) [] := by
  refine FC_of 2000 Try.func37 rfl (by kernel_rfl) mixed (by show 2 ≤ 24; decide) ?_
  unfold atlas_inside at h
  conv => whnf
  refine Or.inl ?_
  conv => whnf
  refine Or.inl ?_
  conv => whnf
  obtain ⟨y_0, hy, h⟩ := bind_e h
  refine ⟨_, _, (jobs_Named_FC F key y_0 hy), Or.inl ⟨rfl, rfl, ?_⟩⟩
  conv => whnf
  refine brn_i (fun hb => ?_) (fun hb => ?_)
  · replace h := cond_t h hb
    conv => whnf
    refine brn_i (fun hb => ?_) (fun hb => ?_)
    · replace h := cond_t h hb
      conv => whnf
      refine brn_i (fun hb => ?_) (fun hb => ?_)
      · replace h := cond_t h hb
        conv => whnf
        obtain rfl := Option.some.inj h
        exact rfl
      · replace h := cond_f h hb
        conv => whnf
        obtain rfl := Option.some.inj h
        exact rfl
    · replace h := cond_f h hb
      conv => whnf
      obtain rfl := Option.some.inj h
      exact rfl
  · replace h := cond_f h hb
    conv => whnf
    obtain rfl := Option.some.inj h
    exact rfl

theorem atlas_planned_FC (F : Nat) (a : api_Atlas) (r : Bool) (h : atlas_planned F a = some r) : FC Try.prog G0 27 [] [(.agg (api_Atlas.c a))] (.bool r) [] := by
  refine FC_of 2000 Try.func27 rfl (by kernel_rfl) mixed (by show 1 ≤ 149; decide) ?_
  unfold atlas_planned at h
  conv => whnf
  refine And.intro ⟨by kernel_rfl, _, rfl⟩ ?_
  conv => whnf
  refine Or.inl ?_
  conv => whnf
  refine brn_i (fun hb => ?_) (fun hb => ?_)
  · replace h := cond_t h hb
    conv => whnf
    obtain rfl := Option.some.inj h
    exact rfl
  · replace h := cond_f h hb
    conv => whnf
    refine Or.inl ?_
    conv => whnf
    obtain ⟨y_0, hy, h⟩ := bind_e h
    refine ⟨_, _, (atlas_place_FC F a a.Plan.Shard y_0 hy), Or.inl ⟨rfl, rfl, ?_⟩⟩
    conv => whnf
    obtain ⟨t26_1, h0, k0⟩ := bind_e h
    refine Or.inr (joins_i True ((1, (AV.ptr 0 0 0)) :: ((3, (AV.ptr 1 0 0)) :: ((4, (AV.int IntKind.i64 y_0)) :: ((26, (AV.bool t26_1)) :: [])))) ((0, (AO.rows false (((AV.int IntKind.i64 a.Groups) :: ((AV.int IntKind.i64 a.Last) :: ((AV.sl (List.map api_Span.c a.Spans)) :: ((AV.int IntKind.i64 a.Plan.Kind) :: ((AV.int IntKind.i64 a.Plan.Phase) :: ((AV.int IntKind.i64 a.Plan.Shard) :: ((AV.int IntKind.i64 a.Plan.Other) :: ((AV.int IntKind.i64 a.Plan.Group) :: ((AV.int IntKind.i64 a.Plan.Past) :: ((AV.int IntKind.i64 a.Plan.Epoch) :: ((AV.str a.Plan.Key) :: []))))))))))) :: []))) :: ((1, (AO.rows false (((AV.int IntKind.i64 a.Plan.Kind) :: ((AV.int IntKind.i64 a.Plan.Phase) :: ((AV.int IntKind.i64 a.Plan.Shard) :: ((AV.int IntKind.i64 a.Plan.Other) :: ((AV.int IntKind.i64 a.Plan.Group) :: ((AV.int IntKind.i64 a.Plan.Past) :: ((AV.int IntKind.i64 a.Plan.Epoch) :: ((AV.str a.Plan.Key) :: [])))))))) :: []))) :: [])) 2 ?_ (fun _ => ?_))
    · conv => whnf
      refine Or.inl ?_
      conv => whnf
      refine brn_i (fun hb => ?_) (fun hb => ?_)
      · replace h0 := cond_t h0 hb
        conv => whnf
        obtain rfl := Option.some.inj h0
        exact end_i trivial [(0, 8), (1, 40)] rfl rfl rfl
      · replace h0 := cond_f h0 hb
        conv => whnf
        refine brn_i (fun hb => ?_) (fun hb => ?_)
        · replace h0 := cond_t h0 hb
          conv => whnf
          obtain rfl := Option.some.inj h0
          exact end_i trivial [(0, 8), (1, 40)] rfl rfl rfl
        · replace h0 := cond_f h0 hb
          conv => whnf
          obtain rfl := Option.some.inj h0
          exact end_i trivial [(0, 8), (1, 40)] rfl rfl rfl
    · conv => whnf
      refine Or.inl ?_
      conv => whnf
      refine brn_i (fun hb => ?_) (fun hb => ?_)
      · replace k0 := cond_t k0 hb
        conv => whnf
        obtain rfl := Option.some.inj k0
        exact rfl
      · replace k0 := cond_f k0 hb
        conv => whnf
        obtain ⟨hg, k0⟩ := grd_e k0
        refine And.intro hg ?_
        conv => whnf
        obtain ⟨y_2, hy, k0⟩ := bind_e k0
        refine opt_i (api_Span.c y_2) (getE rfl hy) ?_
        conv => whnf
        refine Or.inl ?_
        conv => whnf
        refine brn_i (fun hb => ?_) (fun hb => ?_)
        · replace k0 := cond_t k0 hb
          conv => whnf
          refine Or.inl ?_
          conv => whnf
          obtain ⟨y_3, hy, k0⟩ := bind_e k0
          refine ⟨_, _, (atlas_moving_FC F a y_2 a.Plan y_3 hy), Or.inl ⟨rfl, rfl, ?_⟩⟩
          conv => whnf
          obtain rfl := Option.some.inj k0
          exact rfl
        · replace k0 := cond_f k0 hb
          conv => whnf
          obtain ⟨t73_4, h1, k1⟩ := bind_e k0
          refine Or.inr (joins_i True ((1, (AV.ptr 0 0 0)) :: ((3, (AV.ptr 1 0 0)) :: ((4, (AV.int IntKind.i64 y_0)) :: ((5, (AV.ptr 2 0 0)) :: ((73, (AV.bool t73_4)) :: []))))) ((0, (AO.rows false (((AV.int IntKind.i64 a.Groups) :: ((AV.int IntKind.i64 a.Last) :: ((AV.sl (List.map api_Span.c a.Spans)) :: ((AV.int IntKind.i64 a.Plan.Kind) :: ((AV.int IntKind.i64 a.Plan.Phase) :: ((AV.int IntKind.i64 a.Plan.Shard) :: ((AV.int IntKind.i64 a.Plan.Other) :: ((AV.int IntKind.i64 a.Plan.Group) :: ((AV.int IntKind.i64 a.Plan.Past) :: ((AV.int IntKind.i64 a.Plan.Epoch) :: ((AV.str a.Plan.Key) :: []))))))))))) :: []))) :: ((1, (AO.rows false (((AV.int IntKind.i64 a.Plan.Kind) :: ((AV.int IntKind.i64 a.Plan.Phase) :: ((AV.int IntKind.i64 a.Plan.Shard) :: ((AV.int IntKind.i64 a.Plan.Other) :: ((AV.int IntKind.i64 a.Plan.Group) :: ((AV.int IntKind.i64 a.Plan.Past) :: ((AV.int IntKind.i64 a.Plan.Epoch) :: ((AV.str a.Plan.Key) :: [])))))))) :: []))) :: ((2, (AO.rows false (((AV.str y_2.From) :: ((AV.str y_2.To) :: ((AV.int IntKind.i64 y_2.Shard) :: ((AV.int IntKind.i64 y_2.Epoch) :: ((AV.int IntKind.i64 y_2.Group) :: []))))) :: []))) :: []))) 3 ?_ (fun _ => ?_))
          · conv => whnf
            refine Or.inl ?_
            conv => whnf
            refine brn_i (fun hb => ?_) (fun hb => ?_)
            · replace h1 := cond_t h1 hb
              conv => whnf
              obtain rfl := Option.some.inj h1
              exact end_i trivial [(0, 0), (1, 1), (2, 42)] rfl rfl rfl
            · replace h1 := cond_f h1 hb
              conv => whnf
              refine brn_i (fun hb => ?_) (fun hb => ?_)
              · replace h1 := cond_t h1 hb
                conv => whnf
                obtain rfl := Option.some.inj h1
                exact end_i trivial [(0, 0), (1, 1), (2, 42)] rfl rfl rfl
              · replace h1 := cond_f h1 hb
                conv => whnf
                refine brn_i (fun hb => ?_) (fun hb => ?_)
                · replace h1 := cond_t h1 hb
                  conv => whnf
                  refine brn_i (fun hb => ?_) (fun hb => ?_)
                  · replace h1 := cond_t h1 hb
                    conv => whnf
                    obtain rfl := Option.some.inj h1
                    exact end_i trivial [(0, 0), (1, 1), (2, 42)] rfl rfl rfl
                  · replace h1 := cond_f h1 hb
                    conv => whnf
                    obtain rfl := Option.some.inj h1
                    exact end_i trivial [(0, 0), (1, 1), (2, 42)] rfl rfl rfl
                · replace h1 := cond_f h1 hb
                  conv => whnf
                  refine brn_i (fun hb => ?_) (fun hb => ?_)
                  · replace h1 := cond_t h1 hb
                    conv => whnf
                    refine brn_i (fun hb => ?_) (fun hb => ?_)
                    · replace h1 := cond_t h1 hb
                      conv => whnf
                      obtain rfl := Option.some.inj h1
                      exact end_i trivial [(0, 0), (1, 1), (2, 42)] rfl rfl rfl
                    · cases (cond_f h1 hb)
                  · replace h1 := cond_f h1 hb
                    conv => whnf
                    obtain rfl := Option.some.inj h1
                    exact end_i trivial [(0, 0), (1, 1), (2, 42)] rfl rfl rfl
          · conv => whnf
            refine Or.inl ?_
            conv => whnf
            refine brn_i (fun hb => ?_) (fun hb => ?_)
            · replace k1 := cond_t k1 hb
              conv => whnf
              obtain rfl := Option.some.inj k1
              exact rfl
            · replace k1 := cond_f k1 hb
              conv => whnf
              refine Or.inl ?_
              conv => whnf
              refine Or.inl ?_
              conv => whnf
              refine brn_i (fun hb => ?_) (fun hb => ?_)
              · replace k1 := cond_t k1 hb
                conv => whnf
                refine Or.inl ?_
                conv => whnf
                refine brn_i (fun hb => ?_) (fun hb => ?_)
                · replace k1 := cond_t k1 hb
                  conv => whnf
                  refine Or.inl ?_
                  conv => whnf
                  obtain ⟨y_10, hy, k1⟩ := bind_e k1
                  refine ⟨_, _, (atlas_place_FC F a a.Plan.Other y_10 hy), Or.inl ⟨rfl, rfl, ?_⟩⟩
                  conv => whnf
                  refine brn_i (fun hb => ?_) (fun hb => ?_)
                  · replace k1 := cond_t k1 hb
                    conv => whnf
                    refine Or.inl ?_
                    conv => whnf
                    obtain ⟨y_11, hy, k1⟩ := bind_e k1
                    refine ⟨_, _, (atlas_inside_FC F y_2 a.Plan.Key y_11 hy), Or.inl ⟨rfl, rfl, ?_⟩⟩
                    conv => whnf
                    refine brn_i (fun hb => ?_) (fun hb => ?_)
                    · replace k1 := cond_t k1 hb
                      conv => whnf
                      obtain rfl := Option.some.inj k1
                      exact rfl
                    · replace k1 := cond_f k1 hb
                      conv => whnf
                      obtain rfl := Option.some.inj k1
                      exact rfl
                  · replace k1 := cond_f k1 hb
                    conv => whnf
                    obtain rfl := Option.some.inj k1
                    exact rfl
                · replace k1 := cond_f k1 hb
                  conv => whnf
                  obtain rfl := Option.some.inj k1
                  exact rfl
              · replace k1 := cond_f k1 hb
                conv => whnf
                refine Or.inl ?_
                conv => whnf
                refine brn_i (fun hb => ?_) (fun hb => ?_)
                · replace k1 := cond_t k1 hb
                  conv => whnf
                  refine Or.inl ?_
                  conv => whnf
                  refine brn_i (fun hb => ?_) (fun hb => ?_)
                  · replace k1 := cond_t k1 hb
                    conv => whnf
                    refine brn_i (fun hb => ?_) (fun hb => ?_)
                    · replace k1 := cond_t k1 (by first | simpa only [length_enc8, List.length_map, List.length_append, List.length_cons, List.length_nil, List.length_set, List.length_replicate, List.length_take, List.length_drop, Nat.zero_add] using hb | simpa [length_enc8, List.length_map, List.length_append, List.length_cons, List.length_nil, List.length_set, List.length_replicate, List.length_take, List.length_drop, Nat.zero_add, chunk] using hb)
                      conv => whnf
                      obtain ⟨hg, k1⟩ := grd_e k1
                      refine And.intro hg ?_
                      conv => whnf
                      obtain ⟨y_12, hy, k1⟩ := bind_e k1
                      refine opt_i (api_Span.c y_12) (getE rfl hy) ?_
                      conv => whnf
                      refine brn_i (fun hb => ?_) (fun hb => ?_)
                      · replace k1 := cond_t k1 hb
                        conv => whnf
                        obtain ⟨hg, k1⟩ := grd_e k1
                        refine And.intro hg ?_
                        conv => whnf
                        obtain ⟨y_13, hy, k1⟩ := bind_e k1
                        refine opt_i (api_Span.c y_13) (getE rfl hy) ?_
                        conv => whnf
                        refine brn_i (fun hb => ?_) (fun hb => ?_)
                        · replace k1 := cond_t k1 hb
                          conv => whnf
                          obtain ⟨hg, k1⟩ := grd_e k1
                          refine And.intro hg ?_
                          conv => whnf
                          obtain ⟨y_14, hy, k1⟩ := bind_e k1
                          refine opt_i (api_Span.c y_14) (getE rfl hy) ?_
                          conv => whnf
                          refine And.intro (by kernel_rfl) ?_
                          conv => whnf
                          obtain rfl := Option.some.inj k1
                          exact rfl
                        · replace k1 := cond_f k1 hb
                          conv => whnf
                          refine And.intro (by kernel_rfl) ?_
                          conv => whnf
                          obtain rfl := Option.some.inj k1
                          exact rfl
                      · replace k1 := cond_f k1 hb
                        conv => whnf
                        refine And.intro (by kernel_rfl) ?_
                        conv => whnf
                        obtain rfl := Option.some.inj k1
                        exact rfl
                    · replace k1 := cond_f k1 (by first | simpa only [length_enc8, List.length_map, List.length_append, List.length_cons, List.length_nil, List.length_set, List.length_replicate, List.length_take, List.length_drop, Nat.zero_add] using hb | simpa [length_enc8, List.length_map, List.length_append, List.length_cons, List.length_nil, List.length_set, List.length_replicate, List.length_take, List.length_drop, Nat.zero_add, chunk] using hb)
                      conv => whnf
                      refine And.intro (by kernel_rfl) ?_
                      conv => whnf
                      obtain rfl := Option.some.inj k1
                      exact rfl
                  · replace k1 := cond_f k1 hb
                    conv => whnf
                    refine And.intro (by kernel_rfl) ?_
                    conv => whnf
                    obtain rfl := Option.some.inj k1
                    exact rfl
                · replace k1 := cond_f k1 hb
                  conv => whnf
                  obtain rfl := Option.some.inj k1
                  exact rfl

theorem atlas_Check_FC (F : Nat) (a : api_Atlas) (r : Bool) (h : atlas_Check F a = some r) : FC Try.prog G0 13 [] [(.agg (api_Atlas.c a))] (.bool r) [] := by
  refine FC_of 2000 Try.func13 rfl (by kernel_rfl) mixed (by show 1 ≤ 75; decide) ?_
  unfold atlas_Check at h
  conv => whnf
  obtain ⟨t23_1, h0, k0⟩ := bind_e h
  refine Or.inr (joins_i True ((1, (AV.ptr 0 0 0)) :: ((23, (AV.bool t23_1)) :: [])) ((0, (AO.rows false (((AV.int IntKind.i64 a.Groups) :: ((AV.int IntKind.i64 a.Last) :: ((AV.sl (List.map api_Span.c a.Spans)) :: ((AV.int IntKind.i64 a.Plan.Kind) :: ((AV.int IntKind.i64 a.Plan.Phase) :: ((AV.int IntKind.i64 a.Plan.Shard) :: ((AV.int IntKind.i64 a.Plan.Other) :: ((AV.int IntKind.i64 a.Plan.Group) :: ((AV.int IntKind.i64 a.Plan.Past) :: ((AV.int IntKind.i64 a.Plan.Epoch) :: ((AV.str a.Plan.Key) :: []))))))))))) :: []))) :: []) 1 ?_ (fun _ => ?_))
  · conv => whnf
    refine Or.inl ?_
    conv => whnf
    refine brn_i (fun hb => ?_) (fun hb => ?_)
    · replace h0 := cond_t h0 hb
      conv => whnf
      obtain rfl := Option.some.inj h0
      exact end_i trivial [(0, 8)] rfl rfl rfl
    · replace h0 := cond_f h0 hb
      conv => whnf
      refine brn_i (fun hb => ?_) (fun hb => ?_)
      · replace h0 := cond_t h0 hb
        conv => whnf
        obtain rfl := Option.some.inj h0
        exact end_i trivial [(0, 8)] rfl rfl rfl
      · replace h0 := cond_f h0 hb
        conv => whnf
        refine brn_i (fun hb => ?_) (fun hb => ?_)
        · replace h0 := cond_t h0 hb
          conv => whnf
          obtain rfl := Option.some.inj h0
          exact end_i trivial [(0, 8)] rfl rfl rfl
        · replace h0 := cond_f h0 hb
          conv => whnf
          refine Or.inl ?_
          conv => whnf
          obtain ⟨y_2, hy, h0⟩ := bind_e h0
          refine ⟨_, _, (atlas_covers_FC F a.Spans y_2 hy), Or.inl ⟨rfl, rfl, ?_⟩⟩
          conv => whnf
          obtain rfl := Option.some.inj h0
          exact end_i trivial [(0, 8)] rfl rfl rfl
  · conv => whnf
    refine Or.inl ?_
    conv => whnf
    refine brn_i (fun hb => ?_) (fun hb => ?_)
    · replace k0 := cond_t k0 hb
      conv => whnf
      obtain rfl := Option.some.inj k0
      exact rfl
    · replace k0 := cond_f k0 hb
      conv => whnf
      obtain ⟨o5, h5, k5⟩ := bind_e k0
      refine Or.inr (joins_i (o5 = Sum.inr (outR o5)) ((1, (AV.ptr 0 0 0)) :: []) ((0, (AO.rows false (((AV.int IntKind.i64 a.Groups) :: ((AV.int IntKind.i64 a.Last) :: ((AV.sl (List.map api_Span.c a.Spans)) :: ((AV.int IntKind.i64 a.Plan.Kind) :: ((AV.int IntKind.i64 a.Plan.Phase) :: ((AV.int IntKind.i64 a.Plan.Shard) :: ((AV.int IntKind.i64 a.Plan.Other) :: ((AV.int IntKind.i64 a.Plan.Group) :: ((AV.int IntKind.i64 a.Plan.Past) :: ((AV.int IntKind.i64 a.Plan.Epoch) :: ((AV.str a.Plan.Key) :: []))))))))))) :: []))) :: []) 1 ?_ (fun hR => ?_))
      · conv => whnf
        refine Or.inl ?_
        conv => whnf
        refine loops_i (α := (Nat × Int)) (fun x => ((1, (AV.ptr 0 0 0)) :: ((25, (AV.sl (List.map api_Span.c a.Spans))) :: ((26, (AV.int IntKind.i64 (((List.length (List.map api_Span.c a.Spans)) : Nat) : Int))) :: ((27, (AV.int IntKind.i64 x.2)) :: []))))) (fun x => ((0, (AO.rows false (((AV.int IntKind.i64 a.Groups) :: ((AV.int IntKind.i64 a.Last) :: ((AV.sl (List.map api_Span.c a.Spans)) :: ((AV.int IntKind.i64 a.Plan.Kind) :: ((AV.int IntKind.i64 a.Plan.Phase) :: ((AV.int IntKind.i64 a.Plan.Shard) :: ((AV.int IntKind.i64 a.Plan.Other) :: ((AV.int IntKind.i64 a.Plan.Group) :: ((AV.int IntKind.i64 a.Plan.Past) :: ((AV.int IntKind.i64 a.Plan.Epoch) :: ((AV.str a.Plan.Key) :: []))))))))))) :: []))) :: [])) 1 (fun x => atlas_Check_l0 F a x.1 x.2 = some o5) (fun x => x.1) (F, (0 : Int)) [(0, 0)] h5 rfl rfl rfl ?_
        rintro ⟨n_21, t27_22⟩ h5
        replace h5 : atlas_Check_l0 F a n_21 t27_22 = some o5 := h5
        cases n_21 with
        | zero => rw [atlas_Check_l0.eq_1] at h5; cases h5
        | succ n_21 =>
          rw [atlas_Check_l0.eq_2] at h5
          conv => whnf
          refine Or.inl ?_
          conv => whnf
          refine brn_i (fun hb => ?_) (fun hb => ?_)
          · replace h5 := cond_t h5 (by first | simpa only [length_enc8, List.length_map, List.length_append, List.length_cons, List.length_nil, List.length_set, List.length_replicate, List.length_take, List.length_drop, Nat.zero_add] using hb | simpa [length_enc8, List.length_map, List.length_append, List.length_cons, List.length_nil, List.length_set, List.length_replicate, List.length_take, List.length_drop, Nat.zero_add, chunk] using hb)
            conv => whnf
            refine Or.inl ?_
            conv => whnf
            obtain ⟨hg, h5⟩ := grd_e h5
            refine And.intro hg ?_
            conv => whnf
            obtain ⟨y_26, hy, h5⟩ := bind_e h5
            refine opt_i (api_Span.c y_26) (getE rfl hy) ?_
            conv => whnf
            obtain ⟨t71_28, h9, k9⟩ := bind_e h5
            refine Or.inr (joins_i True ((1, (AV.ptr 0 0 0)) :: ((25, (AV.sl (List.map api_Span.c a.Spans))) :: ((26, (AV.int IntKind.i64 (((List.length (List.map api_Span.c a.Spans)) : Nat) : Int))) :: ((27, (AV.int IntKind.i64 t27_22)) :: ((71, (AV.bool t71_28)) :: []))))) ((0, (AO.rows false (((AV.int IntKind.i64 a.Groups) :: ((AV.int IntKind.i64 a.Last) :: ((AV.sl (List.map api_Span.c a.Spans)) :: ((AV.int IntKind.i64 a.Plan.Kind) :: ((AV.int IntKind.i64 a.Plan.Phase) :: ((AV.int IntKind.i64 a.Plan.Shard) :: ((AV.int IntKind.i64 a.Plan.Other) :: ((AV.int IntKind.i64 a.Plan.Group) :: ((AV.int IntKind.i64 a.Plan.Past) :: ((AV.int IntKind.i64 a.Plan.Epoch) :: ((AV.str a.Plan.Key) :: []))))))))))) :: []))) :: []) 1 ?_ (fun _ => ?_))
            · conv => whnf
              refine Or.inl ?_
              conv => whnf
              refine brn_i (fun hb => ?_) (fun hb => ?_)
              · replace h9 := cond_t h9 hb
                conv => whnf
                obtain rfl := Option.some.inj h9
                exact end_i trivial [(0, 0)] rfl rfl rfl
              · replace h9 := cond_f h9 hb
                conv => whnf
                refine brn_i (fun hb => ?_) (fun hb => ?_)
                · replace h9 := cond_t h9 hb
                  conv => whnf
                  obtain rfl := Option.some.inj h9
                  exact end_i trivial [(0, 0)] rfl rfl rfl
                · replace h9 := cond_f h9 hb
                  conv => whnf
                  refine Or.inl ?_
                  conv => whnf
                  obtain ⟨y_29, hy, h9⟩ := bind_e h9
                  refine ⟨_, _, (atlas_place_FC F a y_26.Shard y_29 hy), Or.inl ⟨rfl, rfl, ?_⟩⟩
                  conv => whnf
                  refine brn_i (fun hb => ?_) (fun hb => ?_)
                  · replace h9 := cond_t h9 hb
                    conv => whnf
                    obtain rfl := Option.some.inj h9
                    exact end_i trivial [(0, 0)] rfl rfl rfl
                  · replace h9 := cond_f h9 hb
                    conv => whnf
                    refine brn_i (fun hb => ?_) (fun hb => ?_)
                    · replace h9 := cond_t h9 hb
                      conv => whnf
                      obtain rfl := Option.some.inj h9
                      exact end_i trivial [(0, 0)] rfl rfl rfl
                    · replace h9 := cond_f h9 hb
                      conv => whnf
                      refine brn_i (fun hb => ?_) (fun hb => ?_)
                      · replace h9 := cond_t h9 hb
                        conv => whnf
                        obtain rfl := Option.some.inj h9
                        exact end_i trivial [(0, 0)] rfl rfl rfl
                      · replace h9 := cond_f h9 hb
                        conv => whnf
                        refine brn_i (fun hb => ?_) (fun hb => ?_)
                        · replace h9 := cond_t h9 hb
                          conv => whnf
                          obtain rfl := Option.some.inj h9
                          exact end_i trivial [(0, 0)] rfl rfl rfl
                        · replace h9 := cond_f h9 hb
                          conv => whnf
                          obtain rfl := Option.some.inj h9
                          exact end_i trivial [(0, 0)] rfl rfl rfl
            · conv => whnf
              refine Or.inl ?_
              conv => whnf
              refine brn_i (fun hb => ?_) (fun hb => ?_)
              · replace k9 := cond_t k9 hb
                conv => whnf
                obtain rfl := Option.some.inj k9
                obtain rfl := Option.some.inj (elim_l k5)
                exact rfl
              · replace k9 := cond_f k9 hb
                conv => whnf
                exact round_i (n_21, (IntKind.wrap IntKind.i64 (t27_22 + (1 : Int)))) [(0, 0)] k9 (Nat.lt_succ_self _) rfl rfl rfl
          · replace h5 := cond_f h5 (by first | simpa only [length_enc8, List.length_map, List.length_append, List.length_cons, List.length_nil, List.length_set, List.length_replicate, List.length_take, List.length_drop, Nat.zero_add] using hb | simpa [length_enc8, List.length_map, List.length_append, List.length_cons, List.length_nil, List.length_set, List.length_replicate, List.length_take, List.length_drop, Nat.zero_add, chunk] using hb)
            conv => whnf
            obtain rfl := Option.some.inj h5
            exact end_i rfl [(0, 0)] rfl rfl rfl
      · replace k5 := elim_e hR k5
        generalize outR o5 = v at k5 ⊢
        conv => whnf
        refine Or.inl ?_
        conv => whnf
        obtain ⟨y_30, hy, k5⟩ := bind_e k5
        refine ⟨_, _, (atlas_planned_FC F a y_30 hy), Or.inl ⟨rfl, rfl, ?_⟩⟩
        conv => whnf
        obtain rfl := Option.some.inj k5
        exact rfl

theorem atlas_New_FC (F : Nat) (groups : Int) (r : (api_Atlas × Int)) (h : atlas_New F groups = some r) : FC Try.prog G0 11 [] [(.int IntKind.i64 groups)] (.tup [(.agg (api_Atlas.c r.1)), (.int IntKind.i64 r.2)]) [] := by
  refine FC_of 2000 Try.func11 rfl (by kernel_rfl) mixed (by show 1 ≤ 14; decide) ?_
  unfold atlas_New at h
  conv => whnf
  refine Or.inl ?_
  conv => whnf
  obtain ⟨y_0, hy, h⟩ := bind_e h
  refine ⟨_, _, (atlas_Check_FC F (api_Atlas.mk groups (1 : Int) ((api_Span.mk ([] : List UInt8) ([] : List UInt8) (1 : Int) (1 : Int) (1 : Int)) :: []) (api_Plan.mk (0 : Int) (0 : Int) (0 : Int) (0 : Int) (0 : Int) (0 : Int) (0 : Int) ([] : List UInt8))) y_0 hy), Or.inl ⟨rfl, rfl, ?_⟩⟩
  conv => whnf
  refine Or.inl ?_
  conv => whnf
  refine brn_i (fun hb => ?_) (fun hb => ?_)
  · replace h := cond_t h hb
    conv => whnf
    obtain rfl := Option.some.inj h
    exact rfl
  · replace h := cond_f h hb
    conv => whnf
    obtain rfl := Option.some.inj h
    exact rfl

theorem slices_Clone___api_Span_api_Span__FCo (F : Nat) (s r : List api_Span) (h : slices_Clone___api_Span_api_Span_ F s = some r) : FC Try.prog G0 35 [] [(.sl (List.map api_Span.c s))] (.osw 0 5) [(0, .rows true (List.map api_Span.c r))] := by
  unfold slices_Clone___api_Span_api_Span_ at h
  obtain ⟨hg, h⟩ := grd_e h
  obtain rfl := Option.some.inj h
  refine FC_ofG 2000 Try.func35 rfl (by kernel_rfl) mixed (by show 1 ≤ 8; decide) (by decide) rfl ?_
  conv => whnf
  refine Or.inl ?_
  conv => whnf
  refine And.intro (fun hp => ?_) ?_
  · conv => whnf
    exact endG_i [(0, 32)] rfl (by rw [hp]; rfl) rfl
  · conv => whnf
    refine And.intro (LenAll.map (fun _ => rfl)) ?_
    conv => whnf
    refine And.intro LenAll.nil ?_
    conv => whnf
    refine And.intro (show 0 + (List.map api_Span.c s).length ≤ LIM by simpa using hg) ?_
    conv => whnf
    exact endG_i [(0, 48)] rfl rfl rfl
theorem slices_Clone___api_Span_api_Span__FC (F : Nat) (s r : List api_Span) (h : slices_Clone___api_Span_api_Span_ F s = some r) : FC Try.prog G0 35 [] [(.sl (List.map api_Span.c s))] (.sl (List.map api_Span.c r)) [] := FC_close (slices_Clone___api_Span_api_Span__FCo F s r h) rfl

theorem atlas_copied_FC (F : Nat) (a : api_Atlas) (r : api_Atlas) (h : atlas_copied F a = some r) : FC Try.prog G0 23 [] [(.agg (api_Atlas.c a))] (.agg (api_Atlas.c r)) [] := by
  refine FC_of 2000 Try.func23 rfl (by kernel_rfl) mixed (by show 1 ≤ 8; decide) ?_
  unfold atlas_copied at h
  conv => whnf
  refine Or.inl ?_
  conv => whnf
  obtain ⟨y_0, hy, h⟩ := bind_e h
  refine ⟨_, _, (slices_Clone___api_Span_api_Span__FC F a.Spans y_0 hy), Or.inr ⟨[], rfl, ?_⟩⟩
  conv => whnf
  obtain rfl := Option.some.inj h
  exact rfl

theorem atlas_plan_FC (F : Nat) (a : api_Atlas) (i : Int) (asked : api_Plan) (r : (api_Plan × Int)) (h : atlas_plan F a i asked = some r) : FC Try.prog G0 25 [] [(.agg (api_Atlas.c a)), (.int IntKind.i64 i), (.agg (api_Plan.c asked))] (.tup [(.agg (api_Plan.c r.1)), (.int IntKind.i64 r.2)]) [] := by
  refine FC_of 2000 Try.func25 rfl (by kernel_rfl) mixed (by show 3 ≤ 132; decide) ?_
  unfold atlas_plan at h
  conv => whnf
  obtain ⟨hg, h⟩ := grd_e h
  refine And.intro hg ?_
  conv => whnf
  obtain ⟨y_0, hy, h⟩ := bind_e h
  refine opt_i (api_Span.c y_0) (getE rfl hy) ?_
  conv => whnf
  obtain ⟨t50_2, h0, k0⟩ := bind_e h
  refine Or.inr (joins_i True ((3, (AV.ptr 0 0 0)) :: ((5, (AV.ptr 1 0 0)) :: ((6, (AV.ptr 2 0 0)) :: ((8, (AV.ptr 3 0 0)) :: ((9, (AV.ptr 4 0 0)) :: ((10, (AV.int IntKind.i64 (IntKind.wrap IntKind.i64 (i + (1 : Int))))) :: ((50, (AV.bool t50_2)) :: []))))))) ((0, (AO.rows false (((AV.int IntKind.i64 a.Groups) :: ((AV.int IntKind.i64 a.Last) :: ((AV.sl (List.map api_Span.c a.Spans)) :: ((AV.int IntKind.i64 a.Plan.Kind) :: ((AV.int IntKind.i64 a.Plan.Phase) :: ((AV.int IntKind.i64 a.Plan.Shard) :: ((AV.int IntKind.i64 a.Plan.Other) :: ((AV.int IntKind.i64 a.Plan.Group) :: ((AV.int IntKind.i64 a.Plan.Past) :: ((AV.int IntKind.i64 a.Plan.Epoch) :: ((AV.str a.Plan.Key) :: []))))))))))) :: []))) :: ((1, (AO.rows false (((AV.int IntKind.i64 asked.Kind) :: ((AV.int IntKind.i64 asked.Phase) :: ((AV.int IntKind.i64 asked.Shard) :: ((AV.int IntKind.i64 asked.Other) :: ((AV.int IntKind.i64 asked.Group) :: ((AV.int IntKind.i64 asked.Past) :: ((AV.int IntKind.i64 asked.Epoch) :: ((AV.str asked.Key) :: [])))))))) :: []))) :: ((2, (AO.rows false (((AV.int IntKind.i64 (0 : Int)) :: ((AV.int IntKind.i64 (0 : Int)) :: ((AV.int IntKind.i64 (0 : Int)) :: ((AV.int IntKind.i64 (0 : Int)) :: ((AV.int IntKind.i64 (0 : Int)) :: ((AV.int IntKind.i64 (0 : Int)) :: ((AV.int IntKind.i64 (0 : Int)) :: ((AV.str ([] : List UInt8)) :: [])))))))) :: []))) :: ((3, (AO.rows false (((AV.str y_0.From) :: ((AV.str y_0.To) :: ((AV.int IntKind.i64 y_0.Shard) :: ((AV.int IntKind.i64 y_0.Epoch) :: ((AV.int IntKind.i64 y_0.Group) :: []))))) :: []))) :: ((4, (AO.rows false (((AV.int IntKind.i64 asked.Kind) :: ((AV.int IntKind.i64 (1 : Int)) :: ((AV.int IntKind.i64 y_0.Shard) :: ((AV.int IntKind.i64 (0 : Int)) :: ((AV.int IntKind.i64 y_0.Group) :: ((AV.int IntKind.i64 (0 : Int)) :: ((AV.int IntKind.i64 y_0.Epoch) :: ((AV.str ([] : List UInt8)) :: [])))))))) :: []))) :: []))))) 5 ?_ (fun _ => ?_))
  · conv => whnf
    refine Or.inl ?_
    conv => whnf
    refine brn_i (fun hb => ?_) (fun hb => ?_)
    · replace h0 := cond_t h0 hb
      conv => whnf
      obtain rfl := Option.some.inj h0
      exact end_i trivial [(0, 8), (1, 16), (2, 24), (3, 80), (4, 168)] rfl rfl rfl
    · replace h0 := cond_f h0 hb
      conv => whnf
      refine brn_i (fun hb => ?_) (fun hb => ?_)
      · replace h0 := cond_t h0 hb
        conv => whnf
        refine brn_i (fun hb => ?_) (fun hb => ?_)
        · replace h0 := cond_t h0 (by first | simpa only [length_enc8, List.length_map, List.length_append, List.length_cons, List.length_nil, List.length_set, List.length_replicate, List.length_take, List.length_drop, Nat.zero_add] using hb | simpa [length_enc8, List.length_map, List.length_append, List.length_cons, List.length_nil, List.length_set, List.length_replicate, List.length_take, List.length_drop, Nat.zero_add, chunk] using hb)
          conv => whnf
          obtain ⟨hg, h0⟩ := grd_e h0
          refine And.intro hg ?_
          conv => whnf
          obtain ⟨y_3, hy, h0⟩ := bind_e h0
          refine opt_i (api_Span.c y_3) (getE rfl hy) ?_
          conv => whnf
          obtain rfl := Option.some.inj h0
          exact end_i trivial [(0, 8), (1, 16), (2, 24), (3, 80), (4, 168)] rfl rfl rfl
        · replace h0 := cond_f h0 (by first | simpa only [length_enc8, List.length_map, List.length_append, List.length_cons, List.length_nil, List.length_set, List.length_replicate, List.length_take, List.length_drop, Nat.zero_add] using hb | simpa [length_enc8, List.length_map, List.length_append, List.length_cons, List.length_nil, List.length_set, List.length_replicate, List.length_take, List.length_drop, Nat.zero_add, chunk] using hb)
          conv => whnf
          obtain rfl := Option.some.inj h0
          exact end_i trivial [(0, 8), (1, 16), (2, 24), (3, 80), (4, 168)] rfl rfl rfl
      · replace h0 := cond_f h0 hb
        conv => whnf
        obtain rfl := Option.some.inj h0
        exact end_i trivial [(0, 8), (1, 16), (2, 24), (3, 80), (4, 168)] rfl rfl rfl
  · conv => whnf
    refine Or.inl ?_
    conv => whnf
    refine brn_i (fun hb => ?_) (fun hb => ?_)
    · replace k0 := cond_t k0 hb
      conv => whnf
      obtain rfl := Option.some.inj k0
      exact rfl
    · replace k0 := cond_f k0 hb
      conv => whnf
      obtain ⟨o4, h4, k4⟩ := bind_e k0
      refine Or.inr (joins_i (o4 = Sum.inr (outR o4)) ((6, (AV.ptr 0 0 0)) :: ((9, (AV.ptr 1 0 0)) :: [])) ((0, (AO.rows false (((AV.int IntKind.i64 (0 : Int)) :: ((AV.int IntKind.i64 (0 : Int)) :: ((AV.int IntKind.i64 (0 : Int)) :: ((AV.int IntKind.i64 (0 : Int)) :: ((AV.int IntKind.i64 (0 : Int)) :: ((AV.int IntKind.i64 (0 : Int)) :: ((AV.int IntKind.i64 (0 : Int)) :: ((AV.str ([] : List UInt8)) :: [])))))))) :: []))) :: ((1, (AO.rows false (((AV.int IntKind.i64 asked.Kind) :: ((AV.int IntKind.i64 (1 : Int)) :: ((AV.int IntKind.i64 y_0.Shard) :: ((AV.int IntKind.i64 (outR o4).1) :: ((AV.int IntKind.i64 (outR o4).2.1) :: ((AV.int IntKind.i64 (outR o4).2.2.1) :: ((AV.int IntKind.i64 y_0.Epoch) :: ((AV.str (outR o4).2.2.2) :: [])))))))) :: []))) :: [])) 2 ?_ (fun hR => ?_))
      · conv => whnf
        refine Or.inl ?_
        conv => whnf
        refine Or.inl ?_
        conv => whnf
        refine brn_i (fun hb => ?_) (fun hb => ?_)
        · replace h4 := cond_t h4 hb
          conv => whnf
          obtain ⟨t72_14, h5, k5⟩ := bind_e h4
          refine Or.inr (joins_i True ((5, (AV.ptr 0 0 0)) :: ((6, (AV.ptr 1 0 0)) :: ((8, (AV.ptr 2 0 0)) :: ((9, (AV.ptr 3 0 0)) :: ((72, (AV.bool t72_14)) :: []))))) ((0, (AO.rows false (((AV.int IntKind.i64 asked.Kind) :: ((AV.int IntKind.i64 asked.Phase) :: ((AV.int IntKind.i64 asked.Shard) :: ((AV.int IntKind.i64 asked.Other) :: ((AV.int IntKind.i64 asked.Group) :: ((AV.int IntKind.i64 asked.Past) :: ((AV.int IntKind.i64 asked.Epoch) :: ((AV.str asked.Key) :: [])))))))) :: []))) :: ((1, (AO.rows false (((AV.int IntKind.i64 (0 : Int)) :: ((AV.int IntKind.i64 (0 : Int)) :: ((AV.int IntKind.i64 (0 : Int)) :: ((AV.int IntKind.i64 (0 : Int)) :: ((AV.int IntKind.i64 (0 : Int)) :: ((AV.int IntKind.i64 (0 : Int)) :: ((AV.int IntKind.i64 (0 : Int)) :: ((AV.str ([] : List UInt8)) :: [])))))))) :: []))) :: ((2, (AO.rows false (((AV.str y_0.From) :: ((AV.str y_0.To) :: ((AV.int IntKind.i64 y_0.Shard) :: ((AV.int IntKind.i64 y_0.Epoch) :: ((AV.int IntKind.i64 y_0.Group) :: []))))) :: []))) :: ((3, (AO.rows false (((AV.int IntKind.i64 asked.Kind) :: ((AV.int IntKind.i64 (1 : Int)) :: ((AV.int IntKind.i64 y_0.Shard) :: ((AV.int IntKind.i64 (0 : Int)) :: ((AV.int IntKind.i64 y_0.Group) :: ((AV.int IntKind.i64 (0 : Int)) :: ((AV.int IntKind.i64 y_0.Epoch) :: ((AV.str ([] : List UInt8)) :: [])))))))) :: []))) :: [])))) 4 ?_ (fun _ => ?_))
          · conv => whnf
            refine Or.inl ?_
            conv => whnf
            refine brn_i (fun hb => ?_) (fun hb => ?_)
            · replace h5 := cond_t h5 hb
              conv => whnf
              obtain rfl := Option.some.inj h5
              exact end_i trivial [(0, 1), (1, 2), (2, 3), (3, 4)] rfl rfl rfl
            · replace h5 := cond_f h5 hb
              conv => whnf
              refine brn_i (fun hb => ?_) (fun hb => ?_)
              · replace h5 := cond_t h5 hb
                conv => whnf
                obtain rfl := Option.some.inj h5
                exact end_i trivial [(0, 1), (1, 2), (2, 3), (3, 4)] rfl rfl rfl
              · replace h5 := cond_f h5 hb
                conv => whnf
                obtain rfl := Option.some.inj h5
                exact end_i trivial [(0, 1), (1, 2), (2, 3), (3, 4)] rfl rfl rfl
          · conv => whnf
            refine Or.inl ?_
            conv => whnf
            refine brn_i (fun hb => ?_) (fun hb => ?_)
            · replace k5 := cond_t k5 hb
              conv => whnf
              obtain rfl := Option.some.inj k5
              obtain rfl := Option.some.inj (elim_l k4)
              exact rfl
            · replace k5 := cond_f k5 hb
              conv => whnf
              refine And.intro (by kernel_rfl) ?_
              conv => whnf
              obtain rfl := Option.some.inj k5
              exact end_i rfl [(0, 1), (1, 3)] rfl rfl rfl
        · replace h4 := cond_f h4 hb
          conv => whnf
          refine Or.inl ?_
          conv => whnf
          refine brn_i (fun hb => ?_) (fun hb => ?_)
          · replace h4 := cond_t h4 hb
            conv => whnf
            refine Or.inl ?_
            conv => whnf
            obtain ⟨y_15, hy, h4⟩ := bind_e h4
            refine ⟨_, _, (atlas_inside_FC F y_0 asked.Key y_15 hy), Or.inl ⟨rfl, rfl, ?_⟩⟩
            conv => whnf
            refine Or.inl ?_
            conv => whnf
            refine brn_i (fun hb => ?_) (fun hb => ?_)
            · replace h4 := cond_t h4 hb
              conv => whnf
              obtain rfl := Option.some.inj h4
              obtain rfl := Option.some.inj (elim_l k4)
              exact rfl
            · replace h4 := cond_f h4 hb
              conv => whnf
              obtain ⟨t96_16, h6, k6⟩ := bind_e h4
              refine Or.inr (joins_i True ((3, (AV.ptr 0 0 0)) :: ((5, (AV.ptr 1 0 0)) :: ((6, (AV.ptr 2 0 0)) :: ((9, (AV.ptr 3 0 0)) :: ((96, (AV.bool t96_16)) :: []))))) ((0, (AO.rows false (((AV.int IntKind.i64 a.Groups) :: ((AV.int IntKind.i64 a.Last) :: ((AV.sl (List.map api_Span.c a.Spans)) :: ((AV.int IntKind.i64 a.Plan.Kind) :: ((AV.int IntKind.i64 a.Plan.Phase) :: ((AV.int IntKind.i64 a.Plan.Shard) :: ((AV.int IntKind.i64 a.Plan.Other) :: ((AV.int IntKind.i64 a.Plan.Group) :: ((AV.int IntKind.i64 a.Plan.Past) :: ((AV.int IntKind.i64 a.Plan.Epoch) :: ((AV.str a.Plan.Key) :: []))))))))))) :: []))) :: ((1, (AO.rows false (((AV.int IntKind.i64 asked.Kind) :: ((AV.int IntKind.i64 asked.Phase) :: ((AV.int IntKind.i64 asked.Shard) :: ((AV.int IntKind.i64 asked.Other) :: ((AV.int IntKind.i64 asked.Group) :: ((AV.int IntKind.i64 asked.Past) :: ((AV.int IntKind.i64 asked.Epoch) :: ((AV.str asked.Key) :: [])))))))) :: []))) :: ((2, (AO.rows false (((AV.int IntKind.i64 (0 : Int)) :: ((AV.int IntKind.i64 (0 : Int)) :: ((AV.int IntKind.i64 (0 : Int)) :: ((AV.int IntKind.i64 (0 : Int)) :: ((AV.int IntKind.i64 (0 : Int)) :: ((AV.int IntKind.i64 (0 : Int)) :: ((AV.int IntKind.i64 (0 : Int)) :: ((AV.str ([] : List UInt8)) :: [])))))))) :: []))) :: ((3, (AO.rows false (((AV.int IntKind.i64 asked.Kind) :: ((AV.int IntKind.i64 (1 : Int)) :: ((AV.int IntKind.i64 y_0.Shard) :: ((AV.int IntKind.i64 (0 : Int)) :: ((AV.int IntKind.i64 y_0.Group) :: ((AV.int IntKind.i64 (0 : Int)) :: ((AV.int IntKind.i64 y_0.Epoch) :: ((AV.str ([] : List UInt8)) :: [])))))))) :: []))) :: [])))) 4 ?_ (fun _ => ?_))
              · conv => whnf
                refine Or.inl ?_
                conv => whnf
                refine brn_i (fun hb => ?_) (fun hb => ?_)
                · replace h6 := cond_t h6 (by first | simpa only [length_enc8, List.length_map, List.length_append, List.length_cons, List.length_nil, List.length_set, List.length_replicate, List.length_take, List.length_drop, Nat.zero_add] using hb | simpa [length_enc8, List.length_map, List.length_append, List.length_cons, List.length_nil, List.length_set, List.length_replicate, List.length_take, List.length_drop, Nat.zero_add, chunk] using hb)
                  conv => whnf
                  obtain rfl := Option.some.inj h6
                  exact end_i trivial [(0, 0), (1, 1), (2, 2), (3, 4)] rfl rfl rfl
                · replace h6 := cond_f h6 (by first | simpa only [length_enc8, List.length_map, List.length_append, List.length_cons, List.length_nil, List.length_set, List.length_replicate, List.length_take, List.length_drop, Nat.zero_add] using hb | simpa [length_enc8, List.length_map, List.length_append, List.length_cons, List.length_nil, List.length_set, List.length_replicate, List.length_take, List.length_drop, Nat.zero_add, chunk] using hb)
                  conv => whnf
                  obtain rfl := Option.some.inj h6
                  exact end_i trivial [(0, 0), (1, 1), (2, 2), (3, 4)] rfl rfl rfl
              · conv => whnf
                refine Or.inl ?_
                conv => whnf
                refine brn_i (fun hb => ?_) (fun hb => ?_)
                · replace k6 := cond_t k6 hb
                  conv => whnf
                  obtain rfl := Option.some.inj k6
                  obtain rfl := Option.some.inj (elim_l k4)
                  exact rfl
                · replace k6 := cond_f k6 hb
                  conv => whnf
                  refine And.intro (by kernel_rfl) ?_
                  conv => whnf
                  obtain rfl := Option.some.inj k6
                  exact end_i rfl [(0, 2), (1, 3)] rfl rfl rfl
          · replace h4 := cond_f h4 hb
            conv => whnf
            refine Or.inl ?_
            conv => whnf
            refine brn_i (fun hb => ?_) (fun hb => ?_)
            · replace h4 := cond_t h4 hb
              conv => whnf
              obtain ⟨t122_18, h7, k7⟩ := bind_e h4
              refine Or.inr (joins_i True ((3, (AV.ptr 0 0 0)) :: ((6, (AV.ptr 1 0 0)) :: ((9, (AV.ptr 2 0 0)) :: ((10, (AV.int IntKind.i64 (IntKind.wrap IntKind.i64 (i + (1 : Int))))) :: ((122, (AV.bool t122_18)) :: []))))) ((0, (AO.rows false (((AV.int IntKind.i64 a.Groups) :: ((AV.int IntKind.i64 a.Last) :: ((AV.sl (List.map api_Span.c a.Spans)) :: ((AV.int IntKind.i64 a.Plan.Kind) :: ((AV.int IntKind.i64 a.Plan.Phase) :: ((AV.int IntKind.i64 a.Plan.Shard) :: ((AV.int IntKind.i64 a.Plan.Other) :: ((AV.int IntKind.i64 a.Plan.Group) :: ((AV.int IntKind.i64 a.Plan.Past) :: ((AV.int IntKind.i64 a.Plan.Epoch) :: ((AV.str a.Plan.Key) :: []))))))))))) :: []))) :: ((1, (AO.rows false (((AV.int IntKind.i64 (0 : Int)) :: ((AV.int IntKind.i64 (0 : Int)) :: ((AV.int IntKind.i64 (0 : Int)) :: ((AV.int IntKind.i64 (0 : Int)) :: ((AV.int IntKind.i64 (0 : Int)) :: ((AV.int IntKind.i64 (0 : Int)) :: ((AV.int IntKind.i64 (0 : Int)) :: ((AV.str ([] : List UInt8)) :: [])))))))) :: []))) :: ((2, (AO.rows false (((AV.int IntKind.i64 asked.Kind) :: ((AV.int IntKind.i64 (1 : Int)) :: ((AV.int IntKind.i64 y_0.Shard) :: ((AV.int IntKind.i64 (0 : Int)) :: ((AV.int IntKind.i64 y_0.Group) :: ((AV.int IntKind.i64 (0 : Int)) :: ((AV.int IntKind.i64 y_0.Epoch) :: ((AV.str ([] : List UInt8)) :: [])))))))) :: []))) :: []))) 3 ?_ (fun _ => ?_))
              · conv => whnf
                refine Or.inl ?_
                conv => whnf
                refine brn_i (fun hb => ?_) (fun hb => ?_)
                · replace h7 := cond_t h7 (by first | simpa only [length_enc8, List.length_map, List.length_append, List.length_cons, List.length_nil, List.length_set, List.length_replicate, List.length_take, List.length_drop, Nat.zero_add] using hb | simpa [length_enc8, List.length_map, List.length_append, List.length_cons, List.length_nil, List.length_set, List.length_replicate, List.length_take, List.length_drop, Nat.zero_add, chunk] using hb)
                  conv => whnf
                  refine And.intro (by kernel_rfl) ?_
                  conv => whnf
                  obtain rfl := Option.some.inj h7
                  exact end_i trivial [(0, 0), (1, 2), (2, 4)] rfl rfl rfl
                · replace h7 := cond_f h7 (by first | simpa only [length_enc8, List.length_map, List.length_append, List.length_cons, List.length_nil, List.length_set, List.length_replicate, List.length_take, List.length_drop, Nat.zero_add] using hb | simpa [length_enc8, List.length_map, List.length_append, List.length_cons, List.length_nil, List.length_set, List.length_replicate, List.length_take, List.length_drop, Nat.zero_add, chunk] using hb)
                  conv => whnf
                  obtain ⟨hg, h7⟩ := grd_e h7
                  refine And.intro hg ?_
                  conv => whnf
                  obtain ⟨y_19, hy, h7⟩ := bind_e h7
                  refine opt_i (api_Span.c y_19) (getE rfl hy) ?_
                  conv => whnf
                  refine And.intro (by kernel_rfl) ?_
                  conv => whnf
                  obtain rfl := Option.some.inj h7
                  exact end_i trivial [(0, 0), (1, 2), (2, 4)] rfl rfl rfl
              · conv => whnf
                refine Or.inl ?_
                conv => whnf
                refine brn_i (fun hb => ?_) (fun hb => ?_)
                · replace k7 := cond_t k7 hb
                  conv => whnf
                  obtain rfl := Option.some.inj k7
                  obtain rfl := Option.some.inj (elim_l k4)
                  exact rfl
                · replace k7 := cond_f k7 hb
                  conv => whnf
                  obtain ⟨hg, k7⟩ := grd_e k7
                  refine And.intro hg ?_
                  conv => whnf
                  obtain ⟨y_20, hy, k7⟩ := bind_e k7
                  refine opt_i (api_Span.c y_20) (getE rfl hy) ?_
                  conv => whnf
                  obtain rfl := Option.some.inj k7
                  exact end_i rfl [(0, 1), (1, 2)] rfl rfl rfl
            · replace h4 := cond_f h4 hb
              conv => whnf
              obtain rfl := Option.some.inj h4
              exact end_i rfl [(0, 2), (1, 4)] rfl rfl rfl
      · replace k4 := elim_e hR k4
        generalize outR o4 = v at k4 ⊢
        obtain ⟨c_10, c_11, c_12, c_13⟩ := v
        conv => whnf
        obtain rfl := Option.some.inj k4
        exact rfl

theorem atlas_Begin_FC (F : Nat) (a : api_Atlas) (asked : api_Plan) (r : (api_Atlas × Int)) (h : atlas_Begin F a asked = some r) : FC Try.prog G0 12 [] [(.agg (api_Atlas.c a)), (.agg (api_Plan.c asked))] (.tup [(.agg (api_Atlas.c r.1)), (.int IntKind.i64 r.2)]) [] := by
  refine FC_of 2000 Try.func12 rfl (by kernel_rfl) mixed (by show 2 ≤ 60; decide) ?_
  unfold atlas_Begin at h
  conv => whnf
  refine Or.inl ?_
  conv => whnf
  obtain ⟨y_0, hy, h⟩ := bind_e h
  refine ⟨_, _, (atlas_Check_FC F a y_0 hy), Or.inl ⟨rfl, rfl, ?_⟩⟩
  conv => whnf
  refine Or.inl ?_
  conv => whnf
  refine brn_i (fun hb => ?_) (fun hb => ?_)
  · replace h := cond_t h hb
    conv => whnf
    obtain rfl := Option.some.inj h
    exact rfl
  · replace h := cond_f h hb
    conv => whnf
    refine Or.inl ?_
    conv => whnf
    obtain ⟨y_1, hy, h⟩ := bind_e h
    refine ⟨_, _, (atlas_copied_FC F a y_1 hy), Or.inr ⟨[], rfl, ?_⟩⟩
    conv => whnf
    refine Or.inl ?_
    conv => whnf
    obtain ⟨y_2, hy, h⟩ := bind_e h
    refine ⟨_, _, (atlas_place_FC F y_1 asked.Shard y_2 hy), Or.inl ⟨rfl, rfl, ?_⟩⟩
    conv => whnf
    refine Or.inl ?_
    conv => whnf
    refine Or.inl ?_
    conv => whnf
    refine brn_i (fun hb => ?_) (fun hb => ?_)
    · replace h := cond_t h hb
      conv => whnf
      obtain rfl := Option.some.inj h
      exact rfl
    · replace h := cond_f h hb
      conv => whnf
      obtain ⟨t25_4, h1, k1⟩ := bind_e h
      refine Or.inr (joins_i True ((2, (AV.ptr 0 0 0)) :: ((3, (AV.ptr 1 0 0)) :: ((4, (AV.ptr 2 0 0)) :: ((6, (AV.int IntKind.i64 y_2)) :: ((25, (AV.bool t25_4)) :: []))))) ((0, (AO.rows false (((AV.int IntKind.i64 y_1.Groups) :: ((AV.int IntKind.i64 y_1.Last) :: ((AV.sl (List.map api_Span.c y_1.Spans)) :: ((AV.int IntKind.i64 y_1.Plan.Kind) :: ((AV.int IntKind.i64 y_1.Plan.Phase) :: ((AV.int IntKind.i64 y_1.Plan.Shard) :: ((AV.int IntKind.i64 y_1.Plan.Other) :: ((AV.int IntKind.i64 y_1.Plan.Group) :: ((AV.int IntKind.i64 y_1.Plan.Past) :: ((AV.int IntKind.i64 y_1.Plan.Epoch) :: ((AV.str y_1.Plan.Key) :: []))))))))))) :: []))) :: ((1, (AO.rows false (((AV.int IntKind.i64 asked.Kind) :: ((AV.int IntKind.i64 asked.Phase) :: ((AV.int IntKind.i64 asked.Shard) :: ((AV.int IntKind.i64 asked.Other) :: ((AV.int IntKind.i64 asked.Group) :: ((AV.int IntKind.i64 asked.Past) :: ((AV.int IntKind.i64 asked.Epoch) :: ((AV.str asked.Key) :: [])))))))) :: []))) :: ((2, (AO.rows false (((AV.int IntKind.i64 (0 : Int)) :: ((AV.int IntKind.i64 (0 : Int)) :: (AV.esl :: ((AV.int IntKind.i64 (0 : Int)) :: ((AV.int IntKind.i64 (0 : Int)) :: ((AV.int IntKind.i64 (0 : Int)) :: ((AV.int IntKind.i64 (0 : Int)) :: ((AV.int IntKind.i64 (0 : Int)) :: ((AV.int IntKind.i64 (0 : Int)) :: ((AV.int IntKind.i64 (0 : Int)) :: ((AV.str ([] : List UInt8)) :: []))))))))))) :: []))) :: []))) 3 ?_ (fun _ => ?_))
      · conv => whnf
        refine Or.inl ?_
        conv => whnf
        refine brn_i (fun hb => ?_) (fun hb => ?_)
        · replace h1 := cond_t h1 hb
          conv => whnf
          obtain rfl := Option.some.inj h1
          exact end_i trivial [(0, 8), (1, 16), (2, 24)] rfl rfl rfl
        · replace h1 := cond_f h1 hb
          conv => whnf
          obtain rfl := Option.some.inj h1
          exact end_i trivial [(0, 8), (1, 16), (2, 24)] rfl rfl rfl
      · conv => whnf
        refine Or.inl ?_
        conv => whnf
        refine brn_i (fun hb => ?_) (fun hb => ?_)
        · replace k1 := cond_t k1 hb
          conv => whnf
          obtain rfl := Option.some.inj k1
          exact rfl
        · replace k1 := cond_f k1 hb
          conv => whnf
          refine Or.inl ?_
          conv => whnf
          refine brn_i (fun hb => ?_) (fun hb => ?_)
          · replace k1 := cond_t k1 hb
            conv => whnf
            obtain rfl := Option.some.inj k1
            exact rfl
          · replace k1 := cond_f k1 hb
            conv => whnf
            refine Or.inl ?_
            conv => whnf
            obtain ⟨y_5, hy, k1⟩ := bind_e k1
            refine ⟨_, _, (atlas_plan_FC F y_1 y_2 asked y_5 hy), Or.inl ⟨rfl, rfl, ?_⟩⟩
            conv => whnf
            refine Or.inl ?_
            conv => whnf
            refine brn_i (fun hb => ?_) (fun hb => ?_)
            · replace k1 := cond_t k1 hb
              conv => whnf
              obtain rfl := Option.some.inj k1
              exact rfl
            · replace k1 := cond_f k1 hb
              conv => whnf
              obtain ⟨c_6, h2, k2⟩ := bind_e k1
              refine Or.inr (joins_i True ((2, (AV.ptr 0 0 0)) :: ((4, (AV.ptr 1 0 0)) :: [])) ((0, (AO.rows false (((AV.int IntKind.i64 y_1.Groups) :: ((AV.int IntKind.i64 c_6) :: ((AV.sl (List.map api_Span.c y_1.Spans)) :: ((AV.int IntKind.i64 y_5.1.Kind) :: ((AV.int IntKind.i64 y_5.1.Phase) :: ((AV.int IntKind.i64 y_5.1.Shard) :: ((AV.int IntKind.i64 y_5.1.Other) :: ((AV.int IntKind.i64 y_5.1.Group) :: ((AV.int IntKind.i64 y_5.1.Past) :: ((AV.int IntKind.i64 y_5.1.Epoch) :: ((AV.str y_5.1.Key) :: []))))))))))) :: []))) :: ((1, (AO.rows false (((AV.int IntKind.i64 (0 : Int)) :: ((AV.int IntKind.i64 (0 : Int)) :: (AV.esl :: ((AV.int IntKind.i64 (0 : Int)) :: ((AV.int IntKind.i64 (0 : Int)) :: ((AV.int IntKind.i64 (0 : Int)) :: ((AV.int IntKind.i64 (0 : Int)) :: ((AV.int IntKind.i64 (0 : Int)) :: ((AV.int IntKind.i64 (0 : Int)) :: ((AV.int IntKind.i64 (0 : Int)) :: ((AV.str ([] : List UInt8)) :: []))))))))))) :: []))) :: [])) 2 ?_ (fun _ => ?_))
              · conv => whnf
                refine Or.inl ?_
                conv => whnf
                refine brn_i (fun hb => ?_) (fun hb => ?_)
                · replace h2 := cond_t h2 hb
                  conv => whnf
                  obtain rfl := Option.some.inj h2
                  exact end_i trivial [(0, 0), (1, 2)] rfl rfl rfl
                · replace h2 := cond_f h2 hb
                  conv => whnf
                  obtain rfl := Option.some.inj h2
                  exact end_i trivial [(0, 0), (1, 2)] rfl rfl rfl
              · conv => whnf
                obtain rfl := Option.some.inj k2
                exact rfl

theorem mover_has_FC (F : Nat) (p : api_Plan) (have_ : api_Shard) (r : Bool) (h : mover_has F p have_ = some r) : FC Try.prog G0 28 [] [(.agg (api_Plan.c p)), (.agg (api_Shard.c have_))] (.bool r) [] := by
  refine FC_of 2000 Try.func28 rfl (by kernel_rfl) mixed (by show 2 ≤ 17; decide) ?_
  unfold mover_has at h
  conv => whnf
  refine Or.inl ?_
  conv => whnf
  refine brn_i (fun hb => ?_) (fun hb => ?_)
  · replace h := cond_t h hb
    conv => whnf
    obtain rfl := Option.some.inj h
    exact rfl
  · replace h := cond_f h hb
    conv => whnf
    obtain rfl := Option.some.inj h
    exact rfl

theorem mover_thawing_FC (F : Nat) (p : api_Plan) (have_ : api_Shard) (r : (Int × api_Order)) (h : mover_thawing F p have_ = some r) : FC Try.prog G0 14 [] [(.agg (api_Plan.c p)), (.agg (api_Shard.c have_))] (.tup [(.int IntKind.i64 r.1), (.agg (api_Order.c r.2))]) [] := by
  refine FC_of 2000 Try.func14 rfl (by kernel_rfl) mixed (by show 2 ≤ 51; decide) ?_
  unfold mover_thawing at h
  conv => whnf
  obtain ⟨group_0, h0, k0⟩ := bind_e h
  refine Or.inr (joins_i True ((2, (AV.ptr 0 0 0)) :: ((3, (AV.ptr 1 0 0)) :: ((5, (AV.ptr 2 0 0)) :: ((6, (AV.int IntKind.i64 group_0)) :: [])))) ((0, (AO.rows false (((AV.int IntKind.i64 p.Kind) :: ((AV.int IntKind.i64 p.Phase) :: ((AV.int IntKind.i64 p.Shard) :: ((AV.int IntKind.i64 p.Other) :: ((AV.int IntKind.i64 p.Group) :: ((AV.int IntKind.i64 p.Past) :: ((AV.int IntKind.i64 p.Epoch) :: ((AV.str p.Key) :: [])))))))) :: []))) :: ((1, (AO.rows false (((AV.int IntKind.i64 have_.Id) :: ((AV.int IntKind.i64 have_.Epoch) :: ((AV.int IntKind.i64 have_.State) :: ((AV.str have_.From) :: ((AV.str have_.To) :: ((AV.sl (List.map api_Job.c have_.Jobs)) :: ((AV.sl (List.map api_Seen.c have_.Seen)) :: []))))))) :: []))) :: ((2, (AO.rows false (((AV.int IntKind.i64 (0 : Int)) :: ((AV.int IntKind.i64 (0 : Int)) :: ((AV.int IntKind.i64 (0 : Int)) :: ((AV.int IntKind.i64 (0 : Int)) :: ((AV.int IntKind.i64 (0 : Int)) :: ((AV.str ([] : List UInt8)) :: ((AV.int IntKind.i64 (0 : Int)) :: ((AV.int IntKind.i64 (0 : Int)) :: ((AV.int IntKind.i64 (0 : Int)) :: ((AV.str ([] : List UInt8)) :: ((AV.str ([] : List UInt8)) :: ((AV.str ([] : List UInt8)) :: ((AV.str ([] : List UInt8)) :: ((AV.int IntKind.i64 (0 : Int)) :: ((AV.int IntKind.i64 (0 : Int)) :: ((AV.int IntKind.i64 (0 : Int)) :: ((AV.int IntKind.i64 (0 : Int)) :: ((AV.str ([] : List UInt8)) :: ((AV.str ([] : List UInt8)) :: (AV.esl :: (AV.esl :: []))))))))))))))))))))) :: []))) :: []))) 3 ?_ (fun _ => ?_))
  · conv => whnf
    refine Or.inl ?_
    conv => whnf
    refine brn_i (fun hb => ?_) (fun hb => ?_)
    · replace h0 := cond_t h0 hb
      conv => whnf
      obtain rfl := Option.some.inj h0
      exact end_i trivial [(0, 8), (1, 16), (2, 32)] rfl rfl rfl
    · replace h0 := cond_f h0 hb
      conv => whnf
      obtain rfl := Option.some.inj h0
      exact end_i trivial [(0, 8), (1, 16), (2, 32)] rfl rfl rfl
  · conv => whnf
    refine Or.inl ?_
    conv => whnf
    refine Or.inl ?_
    conv => whnf
    obtain ⟨y_3, hy, k0⟩ := bind_e k0
    refine ⟨_, _, (mover_has_FC F p have_ y_3 hy), Or.inl ⟨rfl, rfl, ?_⟩⟩
    conv => whnf
    refine Or.inl ?_
    conv => whnf
    refine brn_i (fun hb => ?_) (fun hb => ?_)
    · replace k0 := cond_t k0 hb
      conv => whnf
      refine And.intro (by kernel_rfl) ?_
      conv => whnf
      obtain rfl := Option.some.inj k0
      exact rfl
    · replace k0 := cond_f k0 hb
      conv => whnf
      obtain ⟨t25_4, h2, k2⟩ := bind_e k0
      refine Or.inr (joins_i True ((2, (AV.ptr 0 0 0)) :: ((5, (AV.ptr 1 0 0)) :: ((6, (AV.int IntKind.i64 group_0)) :: ((25, (AV.bool t25_4)) :: [])))) ((0, (AO.rows false (((AV.int IntKind.i64 p.Kind) :: ((AV.int IntKind.i64 p.Phase) :: ((AV.int IntKind.i64 p.Shard) :: ((AV.int IntKind.i64 p.Other) :: ((AV.int IntKind.i64 p.Group) :: ((AV.int IntKind.i64 p.Past) :: ((AV.int IntKind.i64 p.Epoch) :: ((AV.str p.Key) :: [])))))))) :: []))) :: ((1, (AO.rows false (((AV.int IntKind.i64 (0 : Int)) :: ((AV.int IntKind.i64 (0 : Int)) :: ((AV.int IntKind.i64 (0 : Int)) :: ((AV.int IntKind.i64 (0 : Int)) :: ((AV.int IntKind.i64 (0 : Int)) :: ((AV.str ([] : List UInt8)) :: ((AV.int IntKind.i64 (0 : Int)) :: ((AV.int IntKind.i64 (0 : Int)) :: ((AV.int IntKind.i64 (0 : Int)) :: ((AV.str ([] : List UInt8)) :: ((AV.str ([] : List UInt8)) :: ((AV.str ([] : List UInt8)) :: ((AV.str ([] : List UInt8)) :: ((AV.int IntKind.i64 (0 : Int)) :: ((AV.int IntKind.i64 (0 : Int)) :: ((AV.int IntKind.i64 (0 : Int)) :: ((AV.int IntKind.i64 (0 : Int)) :: ((AV.str ([] : List UInt8)) :: ((AV.str ([] : List UInt8)) :: (AV.esl :: (AV.esl :: []))))))))))))))))))))) :: []))) :: [])) 2 ?_ (fun _ => ?_))
      · conv => whnf
        refine Or.inl ?_
        conv => whnf
        refine brn_i (fun hb => ?_) (fun hb => ?_)
        · replace h2 := cond_t h2 hb
          conv => whnf
          obtain rfl := Option.some.inj h2
          exact end_i trivial [(0, 0), (1, 2)] rfl rfl rfl
        · replace h2 := cond_f h2 hb
          conv => whnf
          obtain rfl := Option.some.inj h2
          exact end_i trivial [(0, 0), (1, 2)] rfl rfl rfl
      · conv => whnf
        refine Or.inl ?_
        conv => whnf
        refine brn_i (fun hb => ?_) (fun hb => ?_)
        · replace k2 := cond_t k2 hb
          conv => whnf
          refine And.intro (by kernel_rfl) ?_
          conv => whnf
          obtain rfl := Option.some.inj k2
          exact rfl
        · replace k2 := cond_f k2 hb
          conv => whnf
          refine And.intro (by kernel_rfl) ?_
          conv => whnf
          obtain rfl := Option.some.inj k2
          exact rfl

theorem slices_Clone___api_Job_api_Job__FCo (F : Nat) (s r : List api_Job) (h : slices_Clone___api_Job_api_Job_ F s = some r) : FC Try.prog G0 29 [] [(.sl (List.map api_Job.c s))] (.osw 0 8) [(0, .rows true (List.map api_Job.c r))] := by
  unfold slices_Clone___api_Job_api_Job_ at h
  obtain ⟨hg, h⟩ := grd_e h
  obtain rfl := Option.some.inj h
  refine FC_ofG 2000 Try.func29 rfl (by kernel_rfl) mixed (by show 1 ≤ 8; decide) (by decide) rfl ?_
  conv => whnf
  refine Or.inl ?_
  conv => whnf
  refine And.intro (fun hp => ?_) ?_
  · conv => whnf
    exact endG_i [(0, 32)] rfl (by rw [hp]; rfl) rfl
  · conv => whnf
    refine And.intro (LenAll.map (fun _ => rfl)) ?_
    conv => whnf
    refine And.intro LenAll.nil ?_
    conv => whnf
    refine And.intro (show 0 + (List.map api_Job.c s).length ≤ LIM by simpa using hg) ?_
    conv => whnf
    exact endG_i [(0, 48)] rfl rfl rfl
theorem slices_Clone___api_Job_api_Job__FC (F : Nat) (s r : List api_Job) (h : slices_Clone___api_Job_api_Job_ F s = some r) : FC Try.prog G0 29 [] [(.sl (List.map api_Job.c s))] (.sl (List.map api_Job.c r)) [] := FC_close (slices_Clone___api_Job_api_Job__FCo F s r h) rfl

theorem slices_Clone___api_Seen_api_Seen__FCo (F : Nat) (s r : List api_Seen) (h : slices_Clone___api_Seen_api_Seen_ F s = some r) : FC Try.prog G0 30 [] [(.sl (List.map api_Seen.c s))] (.osw 0 5) [(0, .rows true (List.map api_Seen.c r))] := by
  unfold slices_Clone___api_Seen_api_Seen_ at h
  obtain ⟨hg, h⟩ := grd_e h
  obtain rfl := Option.some.inj h
  refine FC_ofG 2000 Try.func30 rfl (by kernel_rfl) mixed (by show 1 ≤ 8; decide) (by decide) rfl ?_
  conv => whnf
  refine Or.inl ?_
  conv => whnf
  refine And.intro (fun hp => ?_) ?_
  · conv => whnf
    exact endG_i [(0, 32)] rfl (by rw [hp]; rfl) rfl
  · conv => whnf
    refine And.intro (LenAll.map (fun _ => rfl)) ?_
    conv => whnf
    refine And.intro LenAll.nil ?_
    conv => whnf
    refine And.intro (show 0 + (List.map api_Seen.c s).length ≤ LIM by simpa using hg) ?_
    conv => whnf
    exact endG_i [(0, 48)] rfl rfl rfl
theorem slices_Clone___api_Seen_api_Seen__FC (F : Nat) (s r : List api_Seen) (h : slices_Clone___api_Seen_api_Seen_ F s = some r) : FC Try.prog G0 30 [] [(.sl (List.map api_Seen.c s))] (.sl (List.map api_Seen.c r)) [] := FC_close (slices_Clone___api_Seen_api_Seen__FCo F s r h) rfl

theorem mover_moving_FC (F : Nat) (p : api_Plan) (have_ : api_Shard) (r : (Int × api_Order)) (h : mover_moving F p have_ = some r) : FC Try.prog G0 15 [] [(.agg (api_Plan.c p)), (.agg (api_Shard.c have_))] (.tup [(.int IntKind.i64 r.1), (.agg (api_Order.c r.2))]) [] := by
  refine FC_of 2000 Try.func15 rfl (by kernel_rfl) mixed (by show 2 ≤ 85; decide) ?_
  unfold mover_moving at h
  conv => whnf
  obtain ⟨o2, h2, k2⟩ := bind_e h
  refine Or.inr (joins_i (o2 = Sum.inr (outR o2)) ((2, (AV.ptr 0 0 0)) :: ((5, (AV.ptr 1 0 0)) :: [])) ((0, (AO.rows false (((AV.int IntKind.i64 p.Kind) :: ((AV.int IntKind.i64 p.Phase) :: ((AV.int IntKind.i64 p.Shard) :: ((AV.int IntKind.i64 p.Other) :: ((AV.int IntKind.i64 p.Group) :: ((AV.int IntKind.i64 p.Past) :: ((AV.int IntKind.i64 p.Epoch) :: ((AV.str p.Key) :: [])))))))) :: []))) :: ((1, (AO.rows false (((AV.int IntKind.i64 (0 : Int)) :: ((AV.int IntKind.i64 (0 : Int)) :: ((AV.int IntKind.i64 (0 : Int)) :: ((AV.int IntKind.i64 (0 : Int)) :: ((AV.int IntKind.i64 (0 : Int)) :: ((AV.str ([] : List UInt8)) :: ((AV.int IntKind.i64 (0 : Int)) :: ((AV.int IntKind.i64 (0 : Int)) :: ((AV.int IntKind.i64 (0 : Int)) :: ((AV.str ([] : List UInt8)) :: ((AV.str ([] : List UInt8)) :: ((AV.str ([] : List UInt8)) :: ((AV.str ([] : List UInt8)) :: ((AV.int IntKind.i64 (0 : Int)) :: ((AV.int IntKind.i64 (0 : Int)) :: ((AV.int IntKind.i64 (0 : Int)) :: ((AV.int IntKind.i64 (0 : Int)) :: ((AV.str ([] : List UInt8)) :: ((AV.str ([] : List UInt8)) :: (AV.esl :: (AV.esl :: []))))))))))))))))))))) :: []))) :: [])) 2 ?_ (fun hR => ?_))
  · conv => whnf
    refine Or.inl ?_
    conv => whnf
    obtain ⟨t7_26, h3, k3⟩ := bind_e h2
    refine Or.inr (joins_i True ((2, (AV.ptr 0 0 0)) :: ((3, (AV.ptr 1 0 0)) :: ((5, (AV.ptr 2 0 0)) :: ((7, (AV.bool t7_26)) :: [])))) ((0, (AO.rows false (((AV.int IntKind.i64 p.Kind) :: ((AV.int IntKind.i64 p.Phase) :: ((AV.int IntKind.i64 p.Shard) :: ((AV.int IntKind.i64 p.Other) :: ((AV.int IntKind.i64 p.Group) :: ((AV.int IntKind.i64 p.Past) :: ((AV.int IntKind.i64 p.Epoch) :: ((AV.str p.Key) :: [])))))))) :: []))) :: ((1, (AO.rows false (((AV.int IntKind.i64 have_.Id) :: ((AV.int IntKind.i64 have_.Epoch) :: ((AV.int IntKind.i64 have_.State) :: ((AV.str have_.From) :: ((AV.str have_.To) :: ((AV.sl (List.map api_Job.c have_.Jobs)) :: ((AV.sl (List.map api_Seen.c have_.Seen)) :: []))))))) :: []))) :: ((2, (AO.rows false (((AV.int IntKind.i64 (0 : Int)) :: ((AV.int IntKind.i64 (0 : Int)) :: ((AV.int IntKind.i64 (0 : Int)) :: ((AV.int IntKind.i64 (0 : Int)) :: ((AV.int IntKind.i64 (0 : Int)) :: ((AV.str ([] : List UInt8)) :: ((AV.int IntKind.i64 (0 : Int)) :: ((AV.int IntKind.i64 (0 : Int)) :: ((AV.int IntKind.i64 (0 : Int)) :: ((AV.str ([] : List UInt8)) :: ((AV.str ([] : List UInt8)) :: ((AV.str ([] : List UInt8)) :: ((AV.str ([] : List UInt8)) :: ((AV.int IntKind.i64 (0 : Int)) :: ((AV.int IntKind.i64 (0 : Int)) :: ((AV.int IntKind.i64 (0 : Int)) :: ((AV.int IntKind.i64 (0 : Int)) :: ((AV.str ([] : List UInt8)) :: ((AV.str ([] : List UInt8)) :: (AV.esl :: (AV.esl :: []))))))))))))))))))))) :: []))) :: []))) 3 ?_ (fun _ => ?_))
    · conv => whnf
      refine Or.inl ?_
      conv => whnf
      refine brn_i (fun hb => ?_) (fun hb => ?_)
      · replace h3 := cond_t h3 hb
        conv => whnf
        refine Or.inl ?_
        conv => whnf
        obtain ⟨y_27, hy, h3⟩ := bind_e h3
        refine ⟨_, _, (mover_has_FC F p have_ y_27 hy), Or.inl ⟨rfl, rfl, ?_⟩⟩
        conv => whnf
        obtain rfl := Option.some.inj h3
        exact end_i trivial [(0, 8), (1, 16), (2, 32)] rfl rfl rfl
      · replace h3 := cond_f h3 hb
        conv => whnf
        obtain rfl := Option.some.inj h3
        exact end_i trivial [(0, 8), (1, 16), (2, 32)] rfl rfl rfl
    · conv => whnf
      refine Or.inl ?_
      conv => whnf
      refine brn_i (fun hb => ?_) (fun hb => ?_)
      · replace k3 := cond_t k3 hb
        conv => whnf
        refine And.intro (by kernel_rfl) ?_
        conv => whnf
        obtain rfl := Option.some.inj k3
        obtain rfl := Option.some.inj (elim_l k2)
        exact rfl
      · replace k3 := cond_f k3 hb
        conv => whnf
        refine Or.inl ?_
        conv => whnf
        refine brn_i (fun hb => ?_) (fun hb => ?_)
        · replace k3 := cond_t k3 hb
          conv => whnf
          refine Or.inl ?_
          conv => whnf
          obtain ⟨y_28, hy, k3⟩ := bind_e k3
          refine ⟨_, _, (slices_Clone___api_Job_api_Job__FC F have_.Jobs y_28 hy), Or.inr ⟨[], rfl, ?_⟩⟩
          conv => whnf
          refine Or.inl ?_
          conv => whnf
          obtain ⟨y_29, hy, k3⟩ := bind_e k3
          refine ⟨_, _, (slices_Clone___api_Seen_api_Seen__FCo F have_.Seen y_29 hy), Or.inr ⟨[], rfl, ?_⟩⟩
          conv => whnf
          refine And.intro (by kernel_rfl) ?_
          conv => whnf
          obtain ⟨l_40, h4, k4⟩ := bind_e k3
          refine Or.inr (joins_i True ((2, (AV.ptr 0 0 0)) :: ((3, (AV.ptr 1 0 0)) :: ((5, (AV.ptr 2 0 0)) :: []))) ((0, (AO.rows false (((AV.int IntKind.i64 p.Kind) :: ((AV.int IntKind.i64 p.Phase) :: ((AV.int IntKind.i64 p.Shard) :: ((AV.int IntKind.i64 p.Other) :: ((AV.int IntKind.i64 p.Group) :: ((AV.int IntKind.i64 p.Past) :: ((AV.int IntKind.i64 p.Epoch) :: ((AV.str p.Key) :: [])))))))) :: []))) :: ((1, (AO.rows false (((AV.int IntKind.i64 have_.Id) :: ((AV.int IntKind.i64 (IntKind.wrap IntKind.i64 (p.Epoch + (1 : Int)))) :: ((AV.int IntKind.i64 (3 : Int)) :: ((AV.str have_.From) :: ((AV.str have_.To) :: ((AV.sl (List.map api_Job.c y_28)) :: ((AV.osw 3 5) :: []))))))) :: []))) :: ((2, (AO.rows false (((AV.int IntKind.i64 (0 : Int)) :: ((AV.int IntKind.i64 (0 : Int)) :: ((AV.int IntKind.i64 (0 : Int)) :: ((AV.int IntKind.i64 (0 : Int)) :: ((AV.int IntKind.i64 (0 : Int)) :: ((AV.str ([] : List UInt8)) :: ((AV.int IntKind.i64 (0 : Int)) :: ((AV.int IntKind.i64 (0 : Int)) :: ((AV.int IntKind.i64 (0 : Int)) :: ((AV.str ([] : List UInt8)) :: ((AV.str ([] : List UInt8)) :: ((AV.str ([] : List UInt8)) :: ((AV.str ([] : List UInt8)) :: ((AV.int IntKind.i64 (0 : Int)) :: ((AV.int IntKind.i64 (0 : Int)) :: ((AV.int IntKind.i64 (0 : Int)) :: ((AV.int IntKind.i64 (0 : Int)) :: ((AV.str ([] : List UInt8)) :: ((AV.str ([] : List UInt8)) :: (AV.esl :: (AV.esl :: []))))))))))))))))))))) :: []))) :: ((3, (AO.rows true (List.map api_Seen.c l_40))) :: [])))) 4 ?_ (fun _ => ?_))
          · conv => whnf
            refine Or.inl ?_
            conv => whnf
            refine loops_i (α := (Nat × Int × (List api_Seen))) (fun x => ((2, (AV.ptr 0 0 0)) :: ((3, (AV.ptr 1 0 0)) :: ((5, (AV.ptr 2 0 0)) :: ((43, (AV.int IntKind.i64 (((List.length (List.map api_Seen.c y_29)) : Nat) : Int))) :: ((44, (AV.int IntKind.i64 x.2.1)) :: [])))))) (fun x => ((0, (AO.rows false (((AV.int IntKind.i64 p.Kind) :: ((AV.int IntKind.i64 p.Phase) :: ((AV.int IntKind.i64 p.Shard) :: ((AV.int IntKind.i64 p.Other) :: ((AV.int IntKind.i64 p.Group) :: ((AV.int IntKind.i64 p.Past) :: ((AV.int IntKind.i64 p.Epoch) :: ((AV.str p.Key) :: [])))))))) :: []))) :: ((1, (AO.rows false (((AV.int IntKind.i64 have_.Id) :: ((AV.int IntKind.i64 (IntKind.wrap IntKind.i64 (p.Epoch + (1 : Int)))) :: ((AV.int IntKind.i64 (3 : Int)) :: ((AV.str have_.From) :: ((AV.str have_.To) :: ((AV.sl (List.map api_Job.c y_28)) :: ((AV.osw 3 5) :: []))))))) :: []))) :: ((2, (AO.rows false (((AV.int IntKind.i64 (0 : Int)) :: ((AV.int IntKind.i64 (0 : Int)) :: ((AV.int IntKind.i64 (0 : Int)) :: ((AV.int IntKind.i64 (0 : Int)) :: ((AV.int IntKind.i64 (0 : Int)) :: ((AV.str ([] : List UInt8)) :: ((AV.int IntKind.i64 (0 : Int)) :: ((AV.int IntKind.i64 (0 : Int)) :: ((AV.int IntKind.i64 (0 : Int)) :: ((AV.str ([] : List UInt8)) :: ((AV.str ([] : List UInt8)) :: ((AV.str ([] : List UInt8)) :: ((AV.str ([] : List UInt8)) :: ((AV.int IntKind.i64 (0 : Int)) :: ((AV.int IntKind.i64 (0 : Int)) :: ((AV.int IntKind.i64 (0 : Int)) :: ((AV.int IntKind.i64 (0 : Int)) :: ((AV.str ([] : List UInt8)) :: ((AV.str ([] : List UInt8)) :: (AV.esl :: (AV.esl :: []))))))))))))))))))))) :: []))) :: ((3, (AO.rows true (List.map api_Seen.c x.2.2))) :: []))))) 4 (fun x => mover_moving_l0 F y_29 x.1 x.2.1 x.2.2 = some l_40) (fun x => x.1) (F, (0 : Int), y_29) [(0, 0), (1, 1), (2, 2), (3, 131)] h4 rfl rfl rfl ?_
            rintro ⟨n_51, t44_52, l_53⟩ h4
            replace h4 : mover_moving_l0 F y_29 n_51 t44_52 l_53 = some l_40 := h4
            cases n_51 with
            | zero => rw [mover_moving_l0.eq_1] at h4; cases h4
            | succ n_51 =>
              rw [mover_moving_l0.eq_2] at h4
              conv => whnf
              refine Or.inl ?_
              conv => whnf
              refine brn_i (fun hb => ?_) (fun hb => ?_)
              · replace h4 := cond_t h4 (by first | simpa only [length_enc8, List.length_map, List.length_append, List.length_cons, List.length_nil, List.length_set, List.length_replicate, List.length_take, List.length_drop, Nat.zero_add] using hb | simpa [length_enc8, List.length_map, List.length_append, List.length_cons, List.length_nil, List.length_set, List.length_replicate, List.length_take, List.length_drop, Nat.zero_add, chunk] using hb)
                conv => whnf
                refine Or.inl ?_
                conv => whnf
                obtain ⟨hg, h4⟩ := grd_e h4
                refine And.intro hg ?_
                conv => whnf
                obtain ⟨y_59, hy, h4⟩ := bind_e h4
                refine opt_i (api_Seen.c y_59) (getE rfl hy) ?_
                conv => whnf
                obtain ⟨y_60, hy, h4⟩ := bind_e h4
                refine opt_i (api_Seen.c y_60) (getE rfl hy) ?_
                conv => whnf
                refine Or.inl ?_
                conv => whnf
                obtain ⟨y_61, hy, h4⟩ := bind_e h4
                refine ⟨_, _, (slices_Clone___api_Job_api_Job__FC F y_60.Result.Jobs y_61 hy), Or.inr ⟨[], rfl, ?_⟩⟩
                conv => whnf
                obtain ⟨hg, h4⟩ := grd_e h4
                refine And.intro hg ?_
                conv => whnf
                obtain ⟨y_62, hy, h4⟩ := bind_e h4
                refine opt_i (api_Seen.c y_62) (getE rfl hy) ?_
                conv => whnf
                obtain ⟨y_63, hy, h4⟩ := bind_e h4
                refine opt_i (api_Seen.c y_63) (getE rfl hy) ?_
                conv => whnf
                refine And.intro (by kernel_rfl) ?_
                conv => whnf
                exact round_i (n_51, (IntKind.wrap IntKind.i64 (t44_52 + (1 : Int))), (List.set l_53 (Int.toNat t44_52) (api_Seen.mk y_63.Client y_63.Seq (api_Result.mk y_63.Result.Err y_63.Result.Time y_61)))) [(0, 0), (1, 1), (2, 2), (3, 3)] h4 (Nat.lt_succ_self _) rfl (cons2 rfl (cons2 rfl (cons2 rfl (cons2 (congrArg (fun X => some (AO.rows true X)) (by simp [List.map_append, List.map_cons, List.map_nil, List.map_take, List.map_drop, List.map_set, List.map_replicate, List.map_map, enc8, cut, setAt, Function.comp_def, cInt, cBool, cStr, cSl, api_Job.c, api_Result.c, api_Seen.c])) rfl)))) rfl
              · replace h4 := cond_f h4 (by first | simpa only [length_enc8, List.length_map, List.length_append, List.length_cons, List.length_nil, List.length_set, List.length_replicate, List.length_take, List.length_drop, Nat.zero_add] using hb | simpa [length_enc8, List.length_map, List.length_append, List.length_cons, List.length_nil, List.length_set, List.length_replicate, List.length_take, List.length_drop, Nat.zero_add, chunk] using hb)
                conv => whnf
                obtain rfl := Option.some.inj h4
                exact end_i trivial [(0, 0), (1, 1), (2, 2), (3, 3)] rfl rfl rfl
          · conv => whnf
            refine And.intro (by kernel_rfl) ?_
            conv => whnf
            obtain rfl := Option.some.inj k4
            obtain rfl := Option.some.inj (elim_l k2)
            exact rfl
        · replace k3 := cond_f k3 hb
          conv => whnf
          refine Or.inl ?_
          conv => whnf
          refine brn_i (fun hb => ?_) (fun hb => ?_)
          · replace k3 := cond_t k3 hb
            conv => whnf
            refine And.intro (by kernel_rfl) ?_
            conv => whnf
            obtain rfl := Option.some.inj k3
            obtain rfl := Option.some.inj (elim_l k2)
            exact rfl
          · replace k3 := cond_f k3 hb
            conv => whnf
            obtain rfl := Option.some.inj k3
            exact end_i rfl [(0, 0), (1, 2)] rfl rfl rfl
  · replace k2 := elim_e hR k2
    generalize outR o2 = v at k2 ⊢
    conv => whnf
    refine And.intro (by kernel_rfl) ?_
    conv => whnf
    obtain rfl := Option.some.inj k2
    exact rfl

theorem mover_Next_1_FC (F : Nat) (s : api_Span) (a1 : api_Plan) (r : Bool) (h : mover_Next_1 F s a1 = some r) : FC Try.prog G0 17 [] [(.agg (api_Span.c s)), (.rp (api_Plan.c a1) 0)] (.bool r) [] := by
  refine FC_of 2000 Try.func17 rfl (by kernel_rfl) mixed (by show 2 ≤ 9; decide) ?_
  unfold mover_Next_1 at h
  conv => whnf
  obtain rfl := Option.some.inj h
  exact rfl

theorem slices_IndexFunc___api_Span_api_Span__i1_FC (F : Nat) (s : (List api_Span)) (f_0 : api_Plan) (r : Int) (h : slices_IndexFunc___api_Span_api_Span__i1 F s f_0 = some r) : FC Try.prog G0 16 [] [(.sl (List.map api_Span.c s)), (.fn 17 [(.rp (api_Plan.c f_0) 0)])] (.int IntKind.i64 r) [] := by
  refine FC_of 2000 Try.func16 rfl (by kernel_rfl) mixed (by show 2 ≤ 19; decide) ?_
  unfold slices_IndexFunc___api_Span_api_Span__i1 at h
  conv => whnf
  obtain ⟨o0, h0, k0⟩ := bind_e h
  refine Or.inr (joins_i (o0 = Sum.inr (outR o0)) [] [] 0 ?_ (fun hR => ?_))
  · conv => whnf
    refine Or.inl ?_
    conv => whnf
    refine loops_i (α := (Nat × Int)) (fun x => ((0, (AV.sl (List.map api_Span.c s))) :: ((1, (AV.fn 17 ((AV.rp ((AV.int IntKind.i64 f_0.Kind) :: ((AV.int IntKind.i64 f_0.Phase) :: ((AV.int IntKind.i64 f_0.Shard) :: ((AV.int IntKind.i64 f_0.Other) :: ((AV.int IntKind.i64 f_0.Group) :: ((AV.int IntKind.i64 f_0.Past) :: ((AV.int IntKind.i64 f_0.Epoch) :: ((AV.str f_0.Key) :: [])))))))) 0) :: []))) :: ((7, (AV.int IntKind.i64 (((List.length (List.map api_Span.c s)) : Nat) : Int))) :: ((8, (AV.int IntKind.i64 x.2)) :: []))))) (fun x => []) 0 (fun x => slices_IndexFunc___api_Span_api_Span__i1_l0 F s f_0 x.1 x.2 = some o0) (fun x => x.1) (F, (0 : Int)) [] h0 rfl rfl rfl ?_
    rintro ⟨n_12, t8_13⟩ h0
    replace h0 : slices_IndexFunc___api_Span_api_Span__i1_l0 F s f_0 n_12 t8_13 = some o0 := h0
    cases n_12 with
    | zero => rw [slices_IndexFunc___api_Span_api_Span__i1_l0.eq_1] at h0; cases h0
    | succ n_12 =>
      rw [slices_IndexFunc___api_Span_api_Span__i1_l0.eq_2] at h0
      conv => whnf
      refine Or.inl ?_
      conv => whnf
      refine brn_i (fun hb => ?_) (fun hb => ?_)
      · replace h0 := cond_t h0 (by first | simpa only [length_enc8, List.length_map, List.length_append, List.length_cons, List.length_nil, List.length_set, List.length_replicate, List.length_take, List.length_drop, Nat.zero_add] using hb | simpa [length_enc8, List.length_map, List.length_append, List.length_cons, List.length_nil, List.length_set, List.length_replicate, List.length_take, List.length_drop, Nat.zero_add, chunk] using hb)
        conv => whnf
        refine Or.inl ?_
        conv => whnf
        obtain ⟨hg, h0⟩ := grd_e h0
        refine And.intro hg ?_
        conv => whnf
        obtain ⟨y_16, hy, h0⟩ := bind_e h0
        refine opt_i (api_Span.c y_16) (getE rfl hy) ?_
        conv => whnf
        refine Or.inl ?_
        conv => whnf
        obtain ⟨y_17, hy, h0⟩ := bind_e h0
        refine ⟨_, _, (mover_Next_1_FC F y_16 f_0 y_17 hy), Or.inl ⟨rfl, rfl, ?_⟩⟩
        conv => whnf
        refine Or.inl ?_
        conv => whnf
        refine brn_i (fun hb => ?_) (fun hb => ?_)
        · replace h0 := cond_t h0 hb
          conv => whnf
          obtain rfl := Option.some.inj h0
          obtain rfl := Option.some.inj (elim_l k0)
          exact rfl
        · replace h0 := cond_f h0 hb
          conv => whnf
          exact round_i (n_12, (IntKind.wrap IntKind.i64 (t8_13 + (1 : Int)))) [] h0 (Nat.lt_succ_self _) rfl rfl rfl
      · replace h0 := cond_f h0 (by first | simpa only [length_enc8, List.length_map, List.length_append, List.length_cons, List.length_nil, List.length_set, List.length_replicate, List.length_take, List.length_drop, Nat.zero_add] using hb | simpa [length_enc8, List.length_map, List.length_append, List.length_cons, List.length_nil, List.length_set, List.length_replicate, List.length_take, List.length_drop, Nat.zero_add, chunk] using hb)
        conv => whnf
        obtain rfl := Option.some.inj h0
        exact end_i rfl [] rfl rfl rfl
  · replace k0 := elim_e hR k0
    generalize outR o0 = v at k0 ⊢
    conv => whnf
    obtain rfl := Option.some.inj k0
    exact rfl

theorem mover_Next_FC (F : Nat) (a : api_Atlas) (have_ : api_Shard) (r : (Int × api_Order × Bool)) (h : mover_Next F a have_ = some r) : FC Try.prog G0 5 [] [(.agg (api_Atlas.c a)), (.agg (api_Shard.c have_))] (.tup [(.int IntKind.i64 r.1), (.agg (api_Order.c r.2.1)), (.bool r.2.2)]) [] := by
  refine FC_of 2000 Try.func5 rfl (by kernel_rfl) mixed (by show 2 ≤ 86; decide) ?_
  unfold mover_Next at h
  conv => whnf
  obtain ⟨t20_1, h0, k0⟩ := bind_e h
  refine Or.inr (joins_i True ((2, (AV.ptr 0 0 0)) :: ((3, (AV.ptr 1 0 0)) :: ((5, (AV.ptr 2 0 0)) :: ((7, (AV.ptr 3 0 0)) :: ((20, (AV.bool t20_1)) :: []))))) ((0, (AO.rows false (((AV.int IntKind.i64 a.Groups) :: ((AV.int IntKind.i64 a.Last) :: ((AV.sl (List.map api_Span.c a.Spans)) :: ((AV.int IntKind.i64 a.Plan.Kind) :: ((AV.int IntKind.i64 a.Plan.Phase) :: ((AV.int IntKind.i64 a.Plan.Shard) :: ((AV.int IntKind.i64 a.Plan.Other) :: ((AV.int IntKind.i64 a.Plan.Group) :: ((AV.int IntKind.i64 a.Plan.Past) :: ((AV.int IntKind.i64 a.Plan.Epoch) :: ((AV.str a.Plan.Key) :: []))))))))))) :: []))) :: ((1, (AO.rows false (((AV.int IntKind.i64 have_.Id) :: ((AV.int IntKind.i64 have_.Epoch) :: ((AV.int IntKind.i64 have_.State) :: ((AV.str have_.From) :: ((AV.str have_.To) :: ((AV.sl (List.map api_Job.c have_.Jobs)) :: ((AV.sl (List.map api_Seen.c have_.Seen)) :: []))))))) :: []))) :: ((2, (AO.rows false (((AV.int IntKind.i64 (0 : Int)) :: ((AV.int IntKind.i64 (0 : Int)) :: ((AV.int IntKind.i64 (0 : Int)) :: ((AV.int IntKind.i64 (0 : Int)) :: ((AV.int IntKind.i64 (0 : Int)) :: ((AV.str ([] : List UInt8)) :: ((AV.int IntKind.i64 (0 : Int)) :: ((AV.int IntKind.i64 (0 : Int)) :: ((AV.int IntKind.i64 (0 : Int)) :: ((AV.str ([] : List UInt8)) :: ((AV.str ([] : List UInt8)) :: ((AV.str ([] : List UInt8)) :: ((AV.str ([] : List UInt8)) :: ((AV.int IntKind.i64 (0 : Int)) :: ((AV.int IntKind.i64 (0 : Int)) :: ((AV.int IntKind.i64 (0 : Int)) :: ((AV.int IntKind.i64 (0 : Int)) :: ((AV.str ([] : List UInt8)) :: ((AV.str ([] : List UInt8)) :: (AV.esl :: (AV.esl :: []))))))))))))))))))))) :: []))) :: ((3, (AO.rows false (((AV.int IntKind.i64 a.Plan.Kind) :: ((AV.int IntKind.i64 a.Plan.Phase) :: ((AV.int IntKind.i64 a.Plan.Shard) :: ((AV.int IntKind.i64 a.Plan.Other) :: ((AV.int IntKind.i64 a.Plan.Group) :: ((AV.int IntKind.i64 a.Plan.Past) :: ((AV.int IntKind.i64 a.Plan.Epoch) :: ((AV.str a.Plan.Key) :: [])))))))) :: []))) :: [])))) 4 ?_ (fun _ => ?_))
  · conv => whnf
    refine Or.inl ?_
    conv => whnf
    refine Or.inl ?_
    conv => whnf
    obtain ⟨y_2, hy, h0⟩ := bind_e h0
    refine ⟨_, _, (atlas_Check_FC F a y_2 hy), Or.inl ⟨rfl, rfl, ?_⟩⟩
    conv => whnf
    refine brn_i (fun hb => ?_) (fun hb => ?_)
    · replace h0 := cond_t h0 hb
      conv => whnf
      obtain rfl := Option.some.inj h0
      exact end_i trivial [(0, 8), (1, 16), (2, 32), (3, 64)] rfl rfl rfl
    · replace h0 := cond_f h0 hb
      conv => whnf
      obtain rfl := Option.some.inj h0
      exact end_i trivial [(0, 8), (1, 16), (2, 32), (3, 64)] rfl rfl rfl
  · conv => whnf
    refine Or.inl ?_
    conv => whnf
    refine brn_i (fun hb => ?_) (fun hb => ?_)
    · replace k0 := cond_t k0 hb
      conv => whnf
      obtain rfl := Option.some.inj k0
      exact rfl
    · replace k0 := cond_f k0 hb
      conv => whnf
      refine And.intro (by kernel_rfl) ?_
      conv => whnf
      refine Or.inl ?_
      conv => whnf
      refine Or.inl ?_
      conv => whnf
      refine brn_i (fun hb => ?_) (fun hb => ?_)
      · replace k0 := cond_t k0 hb
        conv => whnf
        refine Or.inl ?_
        conv => whnf
        obtain ⟨y_11, hy, k0⟩ := bind_e k0
        refine ⟨_, _, (mover_thawing_FC F a.Plan have_ y_11 hy), Or.inr ⟨[], rfl, ?_⟩⟩
        conv => whnf
        refine And.intro (by kernel_rfl) ?_
        conv => whnf
        obtain rfl := Option.some.inj k0
        exact rfl
      · replace k0 := cond_f k0 hb
        conv => whnf
        refine Or.inl ?_
        conv => whnf
        refine brn_i (fun hb => ?_) (fun hb => ?_)
        · replace k0 := cond_t k0 hb
          conv => whnf
          refine Or.inl ?_
          conv => whnf
          obtain ⟨y_15, hy, k0⟩ := bind_e k0
          refine ⟨_, _, (mover_moving_FC F a.Plan have_ y_15 hy), Or.inr ⟨[], rfl, ?_⟩⟩
          conv => whnf
          refine And.intro (by kernel_rfl) ?_
          conv => whnf
          obtain rfl := Option.some.inj k0
          exact rfl
        · replace k0 := cond_f k0 hb
          conv => whnf
          obtain ⟨o1, h1, k1⟩ := bind_e k0
          refine Or.inr (joins_i True ((5, (AV.ptr 0 0 0)) :: ((8, (AV.int IntKind.i64 a.Plan.Group)) :: ((9, (AV.ptr 1 0 0)) :: []))) ((0, (AO.rows false (((AV.int IntKind.i64 (0 : Int)) :: ((AV.int IntKind.i64 (0 : Int)) :: ((AV.int IntKind.i64 (0 : Int)) :: ((AV.int IntKind.i64 (0 : Int)) :: ((AV.int IntKind.i64 (0 : Int)) :: ((AV.str ([] : List UInt8)) :: ((AV.int IntKind.i64 (0 : Int)) :: ((AV.int IntKind.i64 (0 : Int)) :: ((AV.int IntKind.i64 (0 : Int)) :: ((AV.str ([] : List UInt8)) :: ((AV.str ([] : List UInt8)) :: ((AV.str ([] : List UInt8)) :: ((AV.str ([] : List UInt8)) :: ((AV.int IntKind.i64 (0 : Int)) :: ((AV.int IntKind.i64 (0 : Int)) :: ((AV.int IntKind.i64 (0 : Int)) :: ((AV.int IntKind.i64 (0 : Int)) :: ((AV.str ([] : List UInt8)) :: ((AV.str ([] : List UInt8)) :: (AV.esl :: (AV.esl :: []))))))))))))))))))))) :: []))) :: ((1, (AO.rows false (((AV.int IntKind.i64 o1.1) :: ((AV.int IntKind.i64 a.Plan.Shard) :: ((AV.int IntKind.i64 a.Plan.Epoch) :: ((AV.int IntKind.i64 a.Plan.Other) :: ((AV.int IntKind.i64 o1.2.1) :: ((AV.str o1.2.2.1) :: ((AV.int IntKind.i64 (0 : Int)) :: ((AV.int IntKind.i64 (0 : Int)) :: ((AV.int IntKind.i64 (0 : Int)) :: ((AV.str ([] : List UInt8)) :: ((AV.str ([] : List UInt8)) :: ((AV.str ([] : List UInt8)) :: ((AV.str ([] : List UInt8)) :: ((AV.int IntKind.i64 (0 : Int)) :: ((AV.int IntKind.i64 (0 : Int)) :: ((AV.int IntKind.i64 o1.2.2.2) :: ((AV.int IntKind.i64 (0 : Int)) :: ((AV.str ([] : List UInt8)) :: ((AV.str ([] : List UInt8)) :: (AV.esl :: (AV.esl :: []))))))))))))))))))))) :: []))) :: [])) 2 ?_ (fun _ => ?_))
          · conv => whnf
            refine Or.inl ?_
            conv => whnf
            refine brn_i (fun hb => ?_) (fun hb => ?_)
            · replace h1 := cond_t h1 hb
              conv => whnf
              refine And.intro (by kernel_rfl) ?_
              conv => whnf
              obtain rfl := Option.some.inj h1
              exact end_i trivial [(0, 2), (1, 76)] rfl rfl rfl
            · replace h1 := cond_f h1 hb
              conv => whnf
              refine Or.inl ?_
              conv => whnf
              obtain ⟨y_22, hy, h1⟩ := bind_e h1
              refine ⟨_, _, (slices_IndexFunc___api_Span_api_Span__i1_FC F a.Spans a.Plan y_22 hy), Or.inl ⟨rfl, rfl, ?_⟩⟩
              conv => whnf
              obtain ⟨hg, h1⟩ := grd_e h1
              refine And.intro hg ?_
              conv => whnf
              obtain ⟨y_23, hy, h1⟩ := bind_e h1
              refine opt_i (api_Span.c y_23) (getE rfl hy) ?_
              conv => whnf
              refine And.intro (by kernel_rfl) ?_
              conv => whnf
              obtain rfl := Option.some.inj h1
              exact end_i trivial [(0, 2), (1, 76)] rfl rfl rfl
          · obtain ⟨c_18, c_19, c_20, c_21⟩ := o1
            conv => whnf
            refine And.intro (by kernel_rfl) ?_
            conv => whnf
            obtain rfl := Option.some.inj k1
            exact rfl

theorem mover_Heard_FC (F : Nat) (a : api_Atlas) (have_ : api_Shard) (r_ : api_Result) (s : api_Shard) (r : (api_Shard × Int)) (h : mover_Heard F a have_ r_ s = some r) : FC Try.prog G0 7 [] [(.agg (api_Atlas.c a)), (.agg (api_Shard.c have_)), (.agg (api_Result.c r_)), (.agg (api_Shard.c s))] (.tup [(.agg (api_Shard.c r.1)), (.int IntKind.i64 r.2)]) [] := by
  refine FC_of 2000 Try.func7 rfl (by kernel_rfl) mixed (by show 4 ≤ 127; decide) ?_
  unfold mover_Heard at h
  conv => whnf
  refine Or.inl ?_
  conv => whnf
  obtain ⟨y_0, hy, h⟩ := bind_e h
  refine ⟨_, _, (mover_Next_FC F a have_ y_0 hy), Or.inr ⟨[], rfl, ?_⟩⟩
  conv => whnf
  refine Or.inl ?_
  conv => whnf
  refine brn_i (fun hb => ?_) (fun hb => ?_)
  · replace h := cond_t h hb
    conv => whnf
    obtain rfl := Option.some.inj h
    exact rfl
  · replace h := cond_f h hb
    conv => whnf
    refine And.intro (by kernel_rfl) ?_
    conv => whnf
    refine And.intro (by decide) ?_
    conv => whnf
    refine And.intro (by decide) ?_
    conv => whnf
    refine And.intro (by decide) ?_
    conv => whnf
    refine And.intro (by decide) ?_
    conv => whnf
    refine And.intro (by decide) ?_
    conv => whnf
    obtain ⟨hg, h⟩ := grd_e h
    refine And.intro hg ?_
    conv => whnf
    obtain ⟨hg, h⟩ := grd_e h
    refine And.intro hg ?_
    conv => whnf
    obtain ⟨hg, h⟩ := grd_e h
    refine And.intro hg ?_
    conv => whnf
    obtain ⟨hg, h⟩ := grd_e h
    refine And.intro hg ?_
    conv => whnf
    refine And.intro (by decide) ?_
    conv => whnf
    refine And.intro (by decide) ?_
    conv => whnf
    refine And.intro (by decide) ?_
    conv => whnf
    refine And.intro (by decide) ?_
    conv => whnf
    obtain ⟨hg, h⟩ := grd_e h
    refine And.intro hg ?_
    conv => whnf
    refine And.intro (by decide) ?_
    conv => whnf
    refine Or.inl ?_
    conv => whnf
    refine brn_i (fun hb => ?_) (fun hb => ?_)
    · replace h := cond_t h hb
      conv => whnf
      obtain ⟨hg, h⟩ := grd_e h
      refine And.intro hg ?_
      conv => whnf
      refine And.intro (by decide) ?_
      conv => whnf
      obtain ⟨hg, h⟩ := grd_e h
      refine And.intro hg ?_
      conv => whnf
      refine And.intro (by decide) ?_
      conv => whnf
      obtain ⟨t93_1, h0, k0⟩ := bind_e h
      refine Or.inr (joins_i True ((5, (AV.ptr 0 0 0)) :: ((6, (AV.ptr 1 0 0)) :: ((8, (AV.ptr 2 0 0)) :: ((11, (AV.ptr 3 0 0)) :: ((14, (AV.ptr 4 0 0)) :: ((15, (AV.mapo 5)) :: ((93, (AV.bool t93_1)) :: []))))))) ((0, (AO.rows false (((AV.int IntKind.i64 have_.Id) :: ((AV.int IntKind.i64 have_.Epoch) :: ((AV.int IntKind.i64 have_.State) :: ((AV.str have_.From) :: ((AV.str have_.To) :: ((AV.sl (List.map api_Job.c have_.Jobs)) :: ((AV.sl (List.map api_Seen.c have_.Seen)) :: []))))))) :: []))) :: ((1, (AO.rows false (((AV.int IntKind.i64 r_.Err) :: ((AV.int IntKind.i64 r_.Time) :: ((AV.sl (List.map api_Job.c r_.Jobs)) :: []))) :: []))) :: ((2, (AO.rows false (((AV.int IntKind.i64 (0 : Int)) :: ((AV.int IntKind.i64 (0 : Int)) :: ((AV.int IntKind.i64 (0 : Int)) :: ((AV.str ([] : List UInt8)) :: ((AV.str ([] : List UInt8)) :: (AV.esl :: (AV.esl :: []))))))) :: []))) :: ((3, (AO.rows false (((AV.int IntKind.i64 y_0.2.1.Kind) :: ((AV.int IntKind.i64 y_0.2.1.Shard) :: ((AV.int IntKind.i64 y_0.2.1.Epoch) :: ((AV.int IntKind.i64 y_0.2.1.Other) :: ((AV.int IntKind.i64 y_0.2.1.Past) :: ((AV.str y_0.2.1.Key) :: ((AV.int IntKind.i64 y_0.2.1.Cmd.Kind) :: ((AV.int IntKind.i64 y_0.2.1.Cmd.Client) :: ((AV.int IntKind.i64 y_0.2.1.Cmd.Seq) :: ((AV.str y_0.2.1.Cmd.Name) :: ((AV.str y_0.2.1.Cmd.Expr) :: ((AV.str y_0.2.1.Cmd.Zone) :: ((AV.str y_0.2.1.Cmd.Token) :: ((AV.int IntKind.i64 y_0.2.1.Cmd.Time) :: ((AV.int IntKind.i64 y_0.2.1.State.Id) :: ((AV.int IntKind.i64 y_0.2.1.State.Epoch) :: ((AV.int IntKind.i64 y_0.2.1.State.State) :: ((AV.str y_0.2.1.State.From) :: ((AV.str y_0.2.1.State.To) :: ((AV.sl (List.map api_Job.c y_0.2.1.State.Jobs)) :: ((AV.sl (List.map api_Seen.c y_0.2.1.State.Seen)) :: []))))))))))))))))))))) :: []))) :: ((4, (AO.rows false (((AV.int IntKind.i64 have_.Id) :: ((AV.int IntKind.i64 have_.Epoch) :: ((AV.int IntKind.i64 have_.State) :: ((AV.str have_.From) :: ((AV.str have_.To) :: ((AV.sl (List.map api_Job.c have_.Jobs)) :: ((AV.sl (List.map api_Seen.c have_.Seen)) :: ((AV.int IntKind.i64 (0 : Int)) :: [])))))))) :: []))) :: ((5, (AO.mapo (((AV.int IntKind.i64 (2 : Int)), (AV.mapo 6)) :: (((AV.int IntKind.i64 (3 : Int)), (AV.mapo 7)) :: (((AV.int IntKind.i64 (4 : Int)), (AV.mapo 8)) :: (((AV.int IntKind.i64 (5 : Int)), (AV.mapo 9)) :: (((AV.int IntKind.i64 (6 : Int)), (AV.mapo 10)) :: []))))))) :: ((6, (AO.mapo (((AV.int IntKind.i64 (0 : Int)), (AV.agg ((AV.int IntKind.i64 s.Id) :: ((AV.int IntKind.i64 s.Epoch) :: ((AV.int IntKind.i64 s.State) :: ((AV.str s.From) :: ((AV.str s.To) :: ((AV.sl (List.map api_Job.c s.Jobs)) :: ((AV.sl (List.map api_Seen.c s.Seen)) :: ((AV.int IntKind.i64 (0 : Int)) :: [])))))))))) :: (((AV.int IntKind.i64 (171 : Int)), (AV.agg ((AV.int IntKind.i64 a.Plan.Shard) :: ((AV.int IntKind.i64 a.Plan.Epoch) :: ((AV.int IntKind.i64 (0 : Int)) :: ((AV.str ([] : List UInt8)) :: ((AV.str ([] : List UInt8)) :: (AV.esl :: (AV.esl :: ((AV.int IntKind.i64 (0 : Int)) :: [])))))))))) :: [])))) :: ((7, (AO.mapo (((AV.int IntKind.i64 (0 : Int)), (AV.agg ((AV.int IntKind.i64 (0 : Int)) :: ((AV.int IntKind.i64 (0 : Int)) :: ((AV.int IntKind.i64 (0 : Int)) :: ((AV.str ([] : List UInt8)) :: ((AV.str ([] : List UInt8)) :: (AV.esl :: (AV.esl :: ((AV.int IntKind.i64 (9 : Int)) :: [])))))))))) :: []))) :: ((8, (AO.mapo (((AV.int IntKind.i64 (0 : Int)), (AV.agg ((AV.int IntKind.i64 have_.Id) :: ((AV.int IntKind.i64 have_.Epoch) :: ((AV.int IntKind.i64 have_.State) :: ((AV.str have_.From) :: ((AV.str have_.To) :: ((AV.sl (List.map api_Job.c have_.Jobs)) :: ((AV.sl (List.map api_Seen.c have_.Seen)) :: ((AV.int IntKind.i64 (1 : Int)) :: [])))))))))) :: (((AV.int IntKind.i64 (3 : Int)), (AV.agg ((AV.int IntKind.i64 have_.Id) :: ((AV.int IntKind.i64 have_.Epoch) :: ((AV.int IntKind.i64 have_.State) :: ((AV.str have_.From) :: ((AV.str have_.To) :: ((AV.sl (List.map api_Job.c have_.Jobs)) :: ((AV.sl (List.map api_Seen.c have_.Seen)) :: ((AV.int IntKind.i64 (@Neg.neg Int Int.instNegInt (1 : Int))) :: [])))))))))) :: (((AV.int IntKind.i64 (1 : Int)), (AV.agg ((AV.int IntKind.i64 have_.Id) :: ((AV.int IntKind.i64 have_.Epoch) :: ((AV.int IntKind.i64 have_.State) :: ((AV.str have_.From) :: ((AV.str have_.To) :: ((AV.sl (List.map api_Job.c have_.Jobs)) :: ((AV.sl (List.map api_Seen.c have_.Seen)) :: ((AV.int IntKind.i64 (@Neg.neg Int Int.instNegInt (1 : Int))) :: [])))))))))) :: (((AV.int IntKind.i64 (4 : Int)), (AV.agg ((AV.int IntKind.i64 have_.Id) :: ((AV.int IntKind.i64 have_.Epoch) :: ((AV.int IntKind.i64 have_.State) :: ((AV.str have_.From) :: ((AV.str have_.To) :: ((AV.sl (List.map api_Job.c have_.Jobs)) :: ((AV.sl (List.map api_Seen.c have_.Seen)) :: ((AV.int IntKind.i64 (@Neg.neg Int Int.instNegInt (1 : Int))) :: [])))))))))) :: (((AV.int IntKind.i64 (171 : Int)), (AV.agg ((AV.int IntKind.i64 have_.Id) :: ((AV.int IntKind.i64 have_.Epoch) :: ((AV.int IntKind.i64 have_.State) :: ((AV.str have_.From) :: ((AV.str have_.To) :: ((AV.sl (List.map api_Job.c have_.Jobs)) :: ((AV.sl (List.map api_Seen.c have_.Seen)) :: ((AV.int IntKind.i64 (@Neg.neg Int Int.instNegInt (1 : Int))) :: [])))))))))) :: []))))))) :: ((9, (AO.mapo (((AV.int IntKind.i64 (0 : Int)), (AV.agg ((AV.int IntKind.i64 (0 : Int)) :: ((AV.int IntKind.i64 (0 : Int)) :: ((AV.int IntKind.i64 (0 : Int)) :: ((AV.str ([] : List UInt8)) :: ((AV.str ([] : List UInt8)) :: (AV.esl :: (AV.esl :: ((AV.int IntKind.i64 (2 : Int)) :: [])))))))))) :: []))) :: ((10, (AO.mapo (((AV.int IntKind.i64 (0 : Int)), (AV.agg ((AV.int IntKind.i64 a.Plan.Shard) :: ((AV.int IntKind.i64 a.Plan.Epoch) :: ((AV.int IntKind.i64 (4 : Int)) :: ((AV.str ([] : List UInt8)) :: ((AV.str ([] : List UInt8)) :: (AV.esl :: (AV.esl :: ((AV.int IntKind.i64 (0 : Int)) :: [])))))))))) :: (((AV.int IntKind.i64 (171 : Int)), (AV.agg ((AV.int IntKind.i64 a.Plan.Shard) :: ((AV.int IntKind.i64 a.Plan.Epoch) :: ((AV.int IntKind.i64 (4 : Int)) :: ((AV.str ([] : List UInt8)) :: ((AV.str ([] : List UInt8)) :: (AV.esl :: (AV.esl :: ((AV.int IntKind.i64 (0 : Int)) :: [])))))))))) :: [])))) :: []))))))))))) 11 ?_ (fun _ => ?_))
      · conv => whnf
        refine Or.inl ?_
        conv => whnf
        refine brn_i (fun hb => ?_) (fun hb => ?_)
        · replace h0 := cond_t h0 hb
          conv => whnf
          obtain rfl := Option.some.inj h0
          exact end_i trivial [(0, 16), (1, 24), (2, 40), (3, 112), (4, 200), (5, 224), (6, 232), (7, 280), (8, 328), (9, 472), (10, 776)] rfl rfl rfl
        · replace h0 := cond_f h0 hb
          conv => whnf
          obtain rfl := Option.some.inj h0
          exact end_i trivial [(0, 16), (1, 24), (2, 40), (3, 112), (4, 200), (5, 224), (6, 232), (7, 280), (8, 328), (9, 472), (10, 776)] rfl rfl rfl
      · conv => whnf
        refine Or.inl ?_
        conv => whnf
        refine brn_i (fun hb => ?_) (fun hb => ?_)
        · replace k0 := cond_t k0 hb
          conv => whnf
          refine And.intro (by decide) ?_
          conv => whnf
          refine brn_i (fun hb => ?_) (fun hb => ?_)
          · replace k0 := cond_t k0 hb
            conv => whnf
            refine And.intro (by decide) ?_
            conv => whnf
            refine Or.inl ?_
            conv => whnf
            refine brn_i (fun hb => ?_) (fun hb => ?_)
            · cases (cond_t k0 hb)
            · replace k0 := cond_f k0 hb
              conv => whnf
              refine brn_i (fun hb => ?_) (fun hb => ?_)
              · replace k0 := cond_t k0 hb
                conv => whnf
                refine brn_i (fun hb => ?_) (fun hb => ?_)
                · replace k0 := cond_t k0 hb
                  conv => whnf
                  refine Or.inl ?_
                  conv => whnf
                  refine And.intro (by kernel_rfl) ?_
                  conv => whnf
                  obtain rfl := Option.some.inj k0
                  exact rfl
                · replace k0 := cond_f k0 hb
                  conv => whnf
                  refine Or.inl ?_
                  conv => whnf
                  refine And.intro (by kernel_rfl) ?_
                  conv => whnf
                  obtain rfl := Option.some.inj k0
                  exact rfl
              · replace k0 := cond_f k0 hb
                conv => whnf
                refine brn_i (fun hb => ?_) (fun hb => ?_)
                · cases (cond_t k0 hb)
                · replace k0 := cond_f k0 hb
                  conv => whnf
                  refine brn_i (fun hb => ?_) (fun hb => ?_)
                  · cases (cond_t k0 hb)
                  · replace k0 := cond_f k0 hb
                    conv => whnf
                    refine brn_i (fun hb => ?_) (fun hb => ?_)
                    · cases (cond_t k0 hb)
                    · replace k0 := cond_f k0 hb
                      conv => whnf
                      refine brn_i (fun hb => ?_) (fun hb => ?_)
                      · cases (cond_t k0 hb)
                      · replace k0 := cond_f k0 hb
                        conv => whnf
                        refine Or.inl ?_
                        conv => whnf
                        refine And.intro (by kernel_rfl) ?_
                        conv => whnf
                        obtain rfl := Option.some.inj k0
                        exact rfl
          · replace k0 := cond_f k0 hb
            conv => whnf
            refine brn_i (fun hb => ?_) (fun hb => ?_)
            · replace k0 := cond_t k0 hb
              conv => whnf
              refine And.intro (by decide) ?_
              conv => whnf
              refine Or.inl ?_
              conv => whnf
              refine brn_i (fun hb => ?_) (fun hb => ?_)
              · cases (cond_t k0 hb)
              · replace k0 := cond_f k0 hb
                conv => whnf
                refine brn_i (fun hb => ?_) (fun hb => ?_)
                · cases (cond_t k0 hb)
                · replace k0 := cond_f k0 hb
                  conv => whnf
                  refine brn_i (fun hb => ?_) (fun hb => ?_)
                  · replace k0 := cond_t k0 hb
                    conv => whnf
                    refine brn_i (fun hb => ?_) (fun hb => ?_)
                    · replace k0 := cond_t k0 hb
                      conv => whnf
                      refine Or.inl ?_
                      conv => whnf
                      refine And.intro (by kernel_rfl) ?_
                      conv => whnf
                      obtain rfl := Option.some.inj k0
                      exact rfl
                    · replace k0 := cond_f k0 hb
                      conv => whnf
                      refine Or.inl ?_
                      conv => whnf
                      refine And.intro (by kernel_rfl) ?_
                      conv => whnf
                      obtain rfl := Option.some.inj k0
                      exact rfl
                  · replace k0 := cond_f k0 hb
                    conv => whnf
                    refine brn_i (fun hb => ?_) (fun hb => ?_)
                    · cases (cond_t k0 hb)
                    · replace k0 := cond_f k0 hb
                      conv => whnf
                      refine brn_i (fun hb => ?_) (fun hb => ?_)
                      · cases (cond_t k0 hb)
                      · replace k0 := cond_f k0 hb
                        conv => whnf
                        refine brn_i (fun hb => ?_) (fun hb => ?_)
                        · cases (cond_t k0 hb)
                        · replace k0 := cond_f k0 hb
                          conv => whnf
                          refine Or.inl ?_
                          conv => whnf
                          refine And.intro (by kernel_rfl) ?_
                          conv => whnf
                          obtain rfl := Option.some.inj k0
                          exact rfl
            · replace k0 := cond_f k0 hb
              conv => whnf
              refine brn_i (fun hb => ?_) (fun hb => ?_)
              · replace k0 := cond_t k0 hb
                conv => whnf
                refine And.intro (by decide) ?_
                conv => whnf
                refine Or.inl ?_
                conv => whnf
                refine brn_i (fun hb => ?_) (fun hb => ?_)
                · cases (cond_t k0 hb)
                · replace k0 := cond_f k0 hb
                  conv => whnf
                  refine brn_i (fun hb => ?_) (fun hb => ?_)
                  · cases (cond_t k0 hb)
                  · replace k0 := cond_f k0 hb
                    conv => whnf
                    refine brn_i (fun hb => ?_) (fun hb => ?_)
                    · cases (cond_t k0 hb)
                    · replace k0 := cond_f k0 hb
                      conv => whnf
                      refine brn_i (fun hb => ?_) (fun hb => ?_)
                      · replace k0 := cond_t k0 hb
                        conv => whnf
                        refine brn_i (fun hb => ?_) (fun hb => ?_)
                        · replace k0 := cond_t k0 hb
                          conv => whnf
                          refine Or.inl ?_
                          conv => whnf
                          refine And.intro (by kernel_rfl) ?_
                          conv => whnf
                          obtain rfl := Option.some.inj k0
                          exact rfl
                        · replace k0 := cond_f k0 hb
                          conv => whnf
                          refine Or.inl ?_
                          conv => whnf
                          refine And.intro (by kernel_rfl) ?_
                          conv => whnf
                          obtain rfl := Option.some.inj k0
                          exact rfl
                      · replace k0 := cond_f k0 hb
                        conv => whnf
                        refine brn_i (fun hb => ?_) (fun hb => ?_)
                        · cases (cond_t k0 hb)
                        · replace k0 := cond_f k0 hb
                          conv => whnf
                          refine brn_i (fun hb => ?_) (fun hb => ?_)
                          · cases (cond_t k0 hb)
                          · replace k0 := cond_f k0 hb
                            conv => whnf
                            refine Or.inl ?_
                            conv => whnf
                            refine And.intro (by kernel_rfl) ?_
                            conv => whnf
                            obtain rfl := Option.some.inj k0
                            exact rfl
              · replace k0 := cond_f k0 hb
                conv => whnf
                refine brn_i (fun hb => ?_) (fun hb => ?_)
                · replace k0 := cond_t k0 hb
                  conv => whnf
                  refine And.intro (by decide) ?_
                  conv => whnf
                  refine Or.inl ?_
                  conv => whnf
                  refine brn_i (fun hb => ?_) (fun hb => ?_)
                  · cases (cond_t k0 hb)
                  · replace k0 := cond_f k0 hb
                    conv => whnf
                    refine brn_i (fun hb => ?_) (fun hb => ?_)
                    · cases (cond_t k0 hb)
                    · replace k0 := cond_f k0 hb
                      conv => whnf
                      refine brn_i (fun hb => ?_) (fun hb => ?_)
                      · cases (cond_t k0 hb)
                      · replace k0 := cond_f k0 hb
                        conv => whnf
                        refine brn_i (fun hb => ?_) (fun hb => ?_)
                        · cases (cond_t k0 hb)
                        · replace k0 := cond_f k0 hb
                          conv => whnf
                          refine brn_i (fun hb => ?_) (fun hb => ?_)
                          · replace k0 := cond_t k0 hb
                            conv => whnf
                            refine brn_i (fun hb => ?_) (fun hb => ?_)
                            · replace k0 := cond_t k0 hb
                              conv => whnf
                              refine Or.inl ?_
                              conv => whnf
                              refine And.intro (by kernel_rfl) ?_
                              conv => whnf
                              obtain rfl := Option.some.inj k0
                              exact rfl
                            · replace k0 := cond_f k0 hb
                              conv => whnf
                              refine Or.inl ?_
                              conv => whnf
                              refine And.intro (by kernel_rfl) ?_
                              conv => whnf
                              obtain rfl := Option.some.inj k0
                              exact rfl
                          · replace k0 := cond_f k0 hb
                            conv => whnf
                            refine brn_i (fun hb => ?_) (fun hb => ?_)
                            · cases (cond_t k0 hb)
                            · replace k0 := cond_f k0 hb
                              conv => whnf
                              refine Or.inl ?_
                              conv => whnf
                              refine And.intro (by kernel_rfl) ?_
                              conv => whnf
                              obtain rfl := Option.some.inj k0
                              exact rfl
                · replace k0 := cond_f k0 hb
                  conv => whnf
                  refine brn_i (fun hb => ?_) (fun hb => ?_)
                  · replace k0 := cond_t k0 hb
                    conv => whnf
                    refine And.intro (by decide) ?_
                    conv => whnf
                    refine Or.inl ?_
                    conv => whnf
                    refine brn_i (fun hb => ?_) (fun hb => ?_)
                    · cases (cond_t k0 hb)
                    · replace k0 := cond_f k0 hb
                      conv => whnf
                      refine brn_i (fun hb => ?_) (fun hb => ?_)
                      · cases (cond_t k0 hb)
                      · replace k0 := cond_f k0 hb
                        conv => whnf
                        refine brn_i (fun hb => ?_) (fun hb => ?_)
                        · cases (cond_t k0 hb)
                        · replace k0 := cond_f k0 hb
                          conv => whnf
                          refine brn_i (fun hb => ?_) (fun hb => ?_)
                          · cases (cond_t k0 hb)
                          · replace k0 := cond_f k0 hb
                            conv => whnf
                            refine brn_i (fun hb => ?_) (fun hb => ?_)
                            · cases (cond_t k0 hb)
                            · replace k0 := cond_f k0 hb
                              conv => whnf
                              refine brn_i (fun hb => ?_) (fun hb => ?_)
                              · replace k0 := cond_t k0 hb
                                conv => whnf
                                refine brn_i (fun hb => ?_) (fun hb => ?_)
                                · replace k0 := cond_t k0 hb
                                  conv => whnf
                                  refine Or.inl ?_
                                  conv => whnf
                                  refine And.intro (by kernel_rfl) ?_
                                  conv => whnf
                                  obtain rfl := Option.some.inj k0
                                  exact rfl
                                · replace k0 := cond_f k0 hb
                                  conv => whnf
                                  refine Or.inl ?_
                                  conv => whnf
                                  refine And.intro (by kernel_rfl) ?_
                                  conv => whnf
                                  obtain rfl := Option.some.inj k0
                                  exact rfl
                              · replace k0 := cond_f k0 hb
                                conv => whnf
                                refine Or.inl ?_
                                conv => whnf
                                refine And.intro (by kernel_rfl) ?_
                                conv => whnf
                                obtain rfl := Option.some.inj k0
                                exact rfl
                  · replace k0 := cond_f k0 hb
                    conv => whnf
                    refine And.intro (by decide) ?_
                    conv => whnf
                    refine Or.inl ?_
                    conv => whnf
                    refine brn_i (fun hb => ?_) (fun hb => ?_)
                    · replace k0 := cond_t k0 hb
                      conv => whnf
                      refine brn_i (fun hb => ?_) (fun hb => ?_)
                      · cases (cond_t k0 hb)
                      · replace k0 := cond_f k0 hb
                        conv => whnf
                        refine brn_i (fun hb => ?_) (fun hb => ?_)
                        · cases (cond_t k0 hb)
                        · replace k0 := cond_f k0 hb
                          conv => whnf
                          refine brn_i (fun hb => ?_) (fun hb => ?_)
                          · cases (cond_t k0 hb)
                          · replace k0 := cond_f k0 hb
                            conv => whnf
                            refine brn_i (fun hb => ?_) (fun hb => ?_)
                            · cases (cond_t k0 hb)
                            · replace k0 := cond_f k0 hb
                              conv => whnf
                              refine brn_i (fun hb => ?_) (fun hb => ?_)
                              · cases (cond_t k0 hb)
                              · replace k0 := cond_f k0 hb
                                conv => whnf
                                refine brn_i (fun hb => ?_) (fun hb => ?_)
                                · replace k0 := cond_t k0 hb
                                  conv => whnf
                                  obtain ⟨hg, k0⟩ := grd_e k0
                                  refine And.intro hg ?_
                                  conv => whnf
                                  refine brn_i (fun hb => ?_) (fun hb => ?_)
                                  · cases (cond_t k0 hb)
                                  · replace k0 := cond_f k0 hb
                                    conv => whnf
                                    refine brn_i (fun hb => ?_) (fun hb => ?_)
                                    · cases (cond_t k0 hb)
                                    · replace k0 := cond_f k0 hb
                                      conv => whnf
                                      refine brn_i (fun hb => ?_) (fun hb => ?_)
                                      · cases (cond_t k0 hb)
                                      · replace k0 := cond_f k0 hb
                                        conv => whnf
                                        refine brn_i (fun hb => ?_) (fun hb => ?_)
                                        · cases (cond_t k0 hb)
                                        · replace k0 := cond_f k0 hb
                                          conv => whnf
                                          refine brn_i (fun hb => ?_) (fun hb => ?_)
                                          · cases (cond_t k0 hb)
                                          · replace k0 := cond_f k0 hb
                                            conv => whnf
                                            refine brn_i (fun hb => ?_) (fun hb => ?_)
                                            · replace k0 := cond_t k0 hb
                                              conv => whnf
                                              refine brn_i (fun hb => ?_) (fun hb => ?_)
                                              · replace k0 := cond_t k0 hb
                                                conv => whnf
                                                refine Or.inl ?_
                                                conv => whnf
                                                refine And.intro (by kernel_rfl) ?_
                                                conv => whnf
                                                obtain rfl := Option.some.inj k0
                                                exact rfl
                                              · replace k0 := cond_f k0 hb
                                                conv => whnf
                                                refine brn_i (fun hb => ?_) (fun hb => ?_)
                                                · replace k0 := cond_t k0 hb
                                                  conv => whnf
                                                  refine Or.inl ?_
                                                  conv => whnf
                                                  refine And.intro (by kernel_rfl) ?_
                                                  conv => whnf
                                                  obtain rfl := Option.some.inj k0
                                                  exact rfl
                                                · replace k0 := cond_f k0 hb
                                                  conv => whnf
                                                  refine Or.inl ?_
                                                  conv => whnf
                                                  refine And.intro (by kernel_rfl) ?_
                                                  conv => whnf
                                                  obtain rfl := Option.some.inj k0
                                                  exact rfl
                                            · cases (cond_f k0 hb)
                                · cases (cond_f k0 hb)
                    · replace k0 := cond_f k0 hb
                      conv => whnf
                      refine brn_i (fun hb => ?_) (fun hb => ?_)
                      · cases (cond_t k0 hb)
                      · replace k0 := cond_f k0 hb
                        conv => whnf
                        refine brn_i (fun hb => ?_) (fun hb => ?_)
                        · cases (cond_t k0 hb)
                        · replace k0 := cond_f k0 hb
                          conv => whnf
                          refine brn_i (fun hb => ?_) (fun hb => ?_)
                          · cases (cond_t k0 hb)
                          · replace k0 := cond_f k0 hb
                            conv => whnf
                            refine brn_i (fun hb => ?_) (fun hb => ?_)
                            · cases (cond_t k0 hb)
                            · replace k0 := cond_f k0 hb
                              conv => whnf
                              refine brn_i (fun hb => ?_) (fun hb => ?_)
                              · cases (cond_t k0 hb)
                              · replace k0 := cond_f k0 hb
                                conv => whnf
                                refine brn_i (fun hb => ?_) (fun hb => ?_)
                                · replace k0 := cond_t k0 hb
                                  conv => whnf
                                  refine brn_i (fun hb => ?_) (fun hb => ?_)
                                  · replace k0 := cond_t k0 hb
                                    conv => whnf
                                    refine Or.inl ?_
                                    conv => whnf
                                    refine And.intro (by kernel_rfl) ?_
                                    conv => whnf
                                    obtain rfl := Option.some.inj k0
                                    exact rfl
                                  · replace k0 := cond_f k0 hb
                                    conv => whnf
                                    refine Or.inl ?_
                                    conv => whnf
                                    refine And.intro (by kernel_rfl) ?_
                                    conv => whnf
                                    obtain rfl := Option.some.inj k0
                                    exact rfl
                                · replace k0 := cond_f k0 hb
                                  conv => whnf
                                  refine Or.inl ?_
                                  conv => whnf
                                  refine And.intro (by kernel_rfl) ?_
                                  conv => whnf
                                  obtain rfl := Option.some.inj k0
                                  exact rfl
        · replace k0 := cond_f k0 hb
          conv => whnf
          refine Or.inl ?_
          conv => whnf
          refine brn_i (fun hb => ?_) (fun hb => ?_)
          · replace k0 := cond_t k0 hb
            conv => whnf
            refine brn_i (fun hb => ?_) (fun hb => ?_)
            · cases (cond_t k0 hb)
            · replace k0 := cond_f k0 hb
              conv => whnf
              refine brn_i (fun hb => ?_) (fun hb => ?_)
              · cases (cond_t k0 hb)
              · replace k0 := cond_f k0 hb
                conv => whnf
                refine brn_i (fun hb => ?_) (fun hb => ?_)
                · cases (cond_t k0 hb)
                · replace k0 := cond_f k0 hb
                  conv => whnf
                  refine brn_i (fun hb => ?_) (fun hb => ?_)
                  · cases (cond_t k0 hb)
                  · replace k0 := cond_f k0 hb
                    conv => whnf
                    refine brn_i (fun hb => ?_) (fun hb => ?_)
                    · cases (cond_t k0 hb)
                    · replace k0 := cond_f k0 hb
                      conv => whnf
                      cases k0
          · replace k0 := cond_f k0 hb
            conv => whnf
            refine brn_i (fun hb => ?_) (fun hb => ?_)
            · replace k0 := cond_t k0 hb
              conv => whnf
              refine brn_i (fun hb => ?_) (fun hb => ?_)
              · replace k0 := cond_t k0 hb
                conv => whnf
                refine Or.inl ?_
                conv => whnf
                refine And.intro (by kernel_rfl) ?_
                conv => whnf
                obtain rfl := Option.some.inj k0
                exact rfl
              · replace k0 := cond_f k0 hb
                conv => whnf
                refine brn_i (fun hb => ?_) (fun hb => ?_)
                · replace k0 := cond_t k0 hb
                  conv => whnf
                  refine Or.inl ?_
                  conv => whnf
                  refine And.intro (by kernel_rfl) ?_
                  conv => whnf
                  obtain rfl := Option.some.inj k0
                  exact rfl
                · replace k0 := cond_f k0 hb
                  conv => whnf
                  refine Or.inl ?_
                  conv => whnf
                  refine And.intro (by kernel_rfl) ?_
                  conv => whnf
                  obtain rfl := Option.some.inj k0
                  exact rfl
            · replace k0 := cond_f k0 hb
              conv => whnf
              refine brn_i (fun hb => ?_) (fun hb => ?_)
              · replace k0 := cond_t k0 hb
                conv => whnf
                refine brn_i (fun hb => ?_) (fun hb => ?_)
                · replace k0 := cond_t k0 hb
                  conv => whnf
                  refine Or.inl ?_
                  conv => whnf
                  refine And.intro (by kernel_rfl) ?_
                  conv => whnf
                  obtain rfl := Option.some.inj k0
                  exact rfl
                · replace k0 := cond_f k0 hb
                  conv => whnf
                  refine Or.inl ?_
                  conv => whnf
                  refine And.intro (by kernel_rfl) ?_
                  conv => whnf
                  obtain rfl := Option.some.inj k0
                  exact rfl
              · replace k0 := cond_f k0 hb
                conv => whnf
                refine brn_i (fun hb => ?_) (fun hb => ?_)
                · replace k0 := cond_t k0 hb
                  conv => whnf
                  refine brn_i (fun hb => ?_) (fun hb => ?_)
                  · replace k0 := cond_t k0 hb
                    conv => whnf
                    refine Or.inl ?_
                    conv => whnf
                    refine And.intro (by kernel_rfl) ?_
                    conv => whnf
                    obtain rfl := Option.some.inj k0
                    exact rfl
                  · replace k0 := cond_f k0 hb
                    conv => whnf
                    refine brn_i (fun hb => ?_) (fun hb => ?_)
                    · replace k0 := cond_t k0 hb
                      conv => whnf
                      refine Or.inl ?_
                      conv => whnf
                      refine And.intro (by kernel_rfl) ?_
                      conv => whnf
                      obtain rfl := Option.some.inj k0
                      exact rfl
                    · replace k0 := cond_f k0 hb
                      conv => whnf
                      refine brn_i (fun hb => ?_) (fun hb => ?_)
                      · replace k0 := cond_t k0 hb
                        conv => whnf
                        refine Or.inl ?_
                        conv => whnf
                        refine And.intro (by kernel_rfl) ?_
                        conv => whnf
                        obtain rfl := Option.some.inj k0
                        exact rfl
                      · replace k0 := cond_f k0 hb
                        conv => whnf
                        refine brn_i (fun hb => ?_) (fun hb => ?_)
                        · replace k0 := cond_t k0 hb
                          conv => whnf
                          refine Or.inl ?_
                          conv => whnf
                          refine And.intro (by kernel_rfl) ?_
                          conv => whnf
                          obtain rfl := Option.some.inj k0
                          exact rfl
                        · replace k0 := cond_f k0 hb
                          conv => whnf
                          refine brn_i (fun hb => ?_) (fun hb => ?_)
                          · replace k0 := cond_t k0 hb
                            conv => whnf
                            refine Or.inl ?_
                            conv => whnf
                            refine And.intro (by kernel_rfl) ?_
                            conv => whnf
                            obtain rfl := Option.some.inj k0
                            exact rfl
                          · replace k0 := cond_f k0 hb
                            conv => whnf
                            refine Or.inl ?_
                            conv => whnf
                            refine And.intro (by kernel_rfl) ?_
                            conv => whnf
                            obtain rfl := Option.some.inj k0
                            exact rfl
                · replace k0 := cond_f k0 hb
                  conv => whnf
                  refine brn_i (fun hb => ?_) (fun hb => ?_)
                  · replace k0 := cond_t k0 hb
                    conv => whnf
                    refine brn_i (fun hb => ?_) (fun hb => ?_)
                    · replace k0 := cond_t k0 hb
                      conv => whnf
                      refine Or.inl ?_
                      conv => whnf
                      refine And.intro (by kernel_rfl) ?_
                      conv => whnf
                      obtain rfl := Option.some.inj k0
                      exact rfl
                    · replace k0 := cond_f k0 hb
                      conv => whnf
                      refine Or.inl ?_
                      conv => whnf
                      refine And.intro (by kernel_rfl) ?_
                      conv => whnf
                      obtain rfl := Option.some.inj k0
                      exact rfl
                  · replace k0 := cond_f k0 hb
                    conv => whnf
                    refine brn_i (fun hb => ?_) (fun hb => ?_)
                    · replace k0 := cond_t k0 hb
                      conv => whnf
                      refine brn_i (fun hb => ?_) (fun hb => ?_)
                      · replace k0 := cond_t k0 hb
                        conv => whnf
                        refine Or.inl ?_
                        conv => whnf
                        refine And.intro (by kernel_rfl) ?_
                        conv => whnf
                        obtain rfl := Option.some.inj k0
                        exact rfl
                      · replace k0 := cond_f k0 hb
                        conv => whnf
                        refine brn_i (fun hb => ?_) (fun hb => ?_)
                        · replace k0 := cond_t k0 hb
                          conv => whnf
                          refine Or.inl ?_
                          conv => whnf
                          refine And.intro (by kernel_rfl) ?_
                          conv => whnf
                          obtain rfl := Option.some.inj k0
                          exact rfl
                        · replace k0 := cond_f k0 hb
                          conv => whnf
                          refine Or.inl ?_
                          conv => whnf
                          refine And.intro (by kernel_rfl) ?_
                          conv => whnf
                          obtain rfl := Option.some.inj k0
                          exact rfl
                    · replace k0 := cond_f k0 hb
                      conv => whnf
                      refine Or.inl ?_
                      conv => whnf
                      refine And.intro (by kernel_rfl) ?_
                      conv => whnf
                      obtain rfl := Option.some.inj k0
                      exact rfl
    · replace h := cond_f h hb
      conv => whnf
      obtain ⟨t93_2, h1, k1⟩ := bind_e h
      refine Or.inr (joins_i True ((5, (AV.ptr 0 0 0)) :: ((6, (AV.ptr 1 0 0)) :: ((8, (AV.ptr 2 0 0)) :: ((11, (AV.ptr 3 0 0)) :: ((14, (AV.ptr 4 0 0)) :: ((15, (AV.mapo 5)) :: ((93, (AV.bool t93_2)) :: []))))))) ((0, (AO.rows false (((AV.int IntKind.i64 have_.Id) :: ((AV.int IntKind.i64 have_.Epoch) :: ((AV.int IntKind.i64 have_.State) :: ((AV.str have_.From) :: ((AV.str have_.To) :: ((AV.sl (List.map api_Job.c have_.Jobs)) :: ((AV.sl (List.map api_Seen.c have_.Seen)) :: []))))))) :: []))) :: ((1, (AO.rows false (((AV.int IntKind.i64 r_.Err) :: ((AV.int IntKind.i64 r_.Time) :: ((AV.sl (List.map api_Job.c r_.Jobs)) :: []))) :: []))) :: ((2, (AO.rows false (((AV.int IntKind.i64 (0 : Int)) :: ((AV.int IntKind.i64 (0 : Int)) :: ((AV.int IntKind.i64 (0 : Int)) :: ((AV.str ([] : List UInt8)) :: ((AV.str ([] : List UInt8)) :: (AV.esl :: (AV.esl :: []))))))) :: []))) :: ((3, (AO.rows false (((AV.int IntKind.i64 y_0.2.1.Kind) :: ((AV.int IntKind.i64 y_0.2.1.Shard) :: ((AV.int IntKind.i64 y_0.2.1.Epoch) :: ((AV.int IntKind.i64 y_0.2.1.Other) :: ((AV.int IntKind.i64 y_0.2.1.Past) :: ((AV.str y_0.2.1.Key) :: ((AV.int IntKind.i64 y_0.2.1.Cmd.Kind) :: ((AV.int IntKind.i64 y_0.2.1.Cmd.Client) :: ((AV.int IntKind.i64 y_0.2.1.Cmd.Seq) :: ((AV.str y_0.2.1.Cmd.Name) :: ((AV.str y_0.2.1.Cmd.Expr) :: ((AV.str y_0.2.1.Cmd.Zone) :: ((AV.str y_0.2.1.Cmd.Token) :: ((AV.int IntKind.i64 y_0.2.1.Cmd.Time) :: ((AV.int IntKind.i64 y_0.2.1.State.Id) :: ((AV.int IntKind.i64 y_0.2.1.State.Epoch) :: ((AV.int IntKind.i64 y_0.2.1.State.State) :: ((AV.str y_0.2.1.State.From) :: ((AV.str y_0.2.1.State.To) :: ((AV.sl (List.map api_Job.c y_0.2.1.State.Jobs)) :: ((AV.sl (List.map api_Seen.c y_0.2.1.State.Seen)) :: []))))))))))))))))))))) :: []))) :: ((4, (AO.rows false (((AV.int IntKind.i64 have_.Id) :: ((AV.int IntKind.i64 have_.Epoch) :: ((AV.int IntKind.i64 have_.State) :: ((AV.str have_.From) :: ((AV.str have_.To) :: ((AV.sl (List.map api_Job.c have_.Jobs)) :: ((AV.sl (List.map api_Seen.c have_.Seen)) :: ((AV.int IntKind.i64 (0 : Int)) :: [])))))))) :: []))) :: ((5, (AO.mapo (((AV.int IntKind.i64 (2 : Int)), (AV.mapo 6)) :: (((AV.int IntKind.i64 (3 : Int)), (AV.mapo 7)) :: (((AV.int IntKind.i64 (4 : Int)), (AV.mapo 8)) :: (((AV.int IntKind.i64 (5 : Int)), (AV.mapo 9)) :: (((AV.int IntKind.i64 (6 : Int)), (AV.mapo 10)) :: []))))))) :: ((6, (AO.mapo (((AV.int IntKind.i64 (0 : Int)), (AV.agg ((AV.int IntKind.i64 s.Id) :: ((AV.int IntKind.i64 s.Epoch) :: ((AV.int IntKind.i64 s.State) :: ((AV.str s.From) :: ((AV.str s.To) :: ((AV.sl (List.map api_Job.c s.Jobs)) :: ((AV.sl (List.map api_Seen.c s.Seen)) :: ((AV.int IntKind.i64 (0 : Int)) :: [])))))))))) :: []))) :: ((7, (AO.mapo (((AV.int IntKind.i64 (0 : Int)), (AV.agg ((AV.int IntKind.i64 (0 : Int)) :: ((AV.int IntKind.i64 (0 : Int)) :: ((AV.int IntKind.i64 (0 : Int)) :: ((AV.str ([] : List UInt8)) :: ((AV.str ([] : List UInt8)) :: (AV.esl :: (AV.esl :: ((AV.int IntKind.i64 (9 : Int)) :: [])))))))))) :: []))) :: ((8, (AO.mapo (((AV.int IntKind.i64 (0 : Int)), (AV.agg ((AV.int IntKind.i64 have_.Id) :: ((AV.int IntKind.i64 have_.Epoch) :: ((AV.int IntKind.i64 have_.State) :: ((AV.str have_.From) :: ((AV.str have_.To) :: ((AV.sl (List.map api_Job.c have_.Jobs)) :: ((AV.sl (List.map api_Seen.c have_.Seen)) :: ((AV.int IntKind.i64 (1 : Int)) :: [])))))))))) :: (((AV.int IntKind.i64 (3 : Int)), (AV.agg ((AV.int IntKind.i64 have_.Id) :: ((AV.int IntKind.i64 have_.Epoch) :: ((AV.int IntKind.i64 have_.State) :: ((AV.str have_.From) :: ((AV.str have_.To) :: ((AV.sl (List.map api_Job.c have_.Jobs)) :: ((AV.sl (List.map api_Seen.c have_.Seen)) :: ((AV.int IntKind.i64 (@Neg.neg Int Int.instNegInt (1 : Int))) :: [])))))))))) :: (((AV.int IntKind.i64 (1 : Int)), (AV.agg ((AV.int IntKind.i64 have_.Id) :: ((AV.int IntKind.i64 have_.Epoch) :: ((AV.int IntKind.i64 have_.State) :: ((AV.str have_.From) :: ((AV.str have_.To) :: ((AV.sl (List.map api_Job.c have_.Jobs)) :: ((AV.sl (List.map api_Seen.c have_.Seen)) :: ((AV.int IntKind.i64 (@Neg.neg Int Int.instNegInt (1 : Int))) :: [])))))))))) :: (((AV.int IntKind.i64 (4 : Int)), (AV.agg ((AV.int IntKind.i64 have_.Id) :: ((AV.int IntKind.i64 have_.Epoch) :: ((AV.int IntKind.i64 have_.State) :: ((AV.str have_.From) :: ((AV.str have_.To) :: ((AV.sl (List.map api_Job.c have_.Jobs)) :: ((AV.sl (List.map api_Seen.c have_.Seen)) :: ((AV.int IntKind.i64 (@Neg.neg Int Int.instNegInt (1 : Int))) :: [])))))))))) :: (((AV.int IntKind.i64 (171 : Int)), (AV.agg ((AV.int IntKind.i64 have_.Id) :: ((AV.int IntKind.i64 have_.Epoch) :: ((AV.int IntKind.i64 have_.State) :: ((AV.str have_.From) :: ((AV.str have_.To) :: ((AV.sl (List.map api_Job.c have_.Jobs)) :: ((AV.sl (List.map api_Seen.c have_.Seen)) :: ((AV.int IntKind.i64 (@Neg.neg Int Int.instNegInt (1 : Int))) :: [])))))))))) :: []))))))) :: ((9, (AO.mapo (((AV.int IntKind.i64 (0 : Int)), (AV.agg ((AV.int IntKind.i64 (0 : Int)) :: ((AV.int IntKind.i64 (0 : Int)) :: ((AV.int IntKind.i64 (0 : Int)) :: ((AV.str ([] : List UInt8)) :: ((AV.str ([] : List UInt8)) :: (AV.esl :: (AV.esl :: ((AV.int IntKind.i64 (2 : Int)) :: [])))))))))) :: []))) :: ((10, (AO.mapo (((AV.int IntKind.i64 (0 : Int)), (AV.agg ((AV.int IntKind.i64 have_.Id) :: ((AV.int IntKind.i64 have_.Epoch) :: ((AV.int IntKind.i64 have_.State) :: ((AV.str have_.From) :: ((AV.str have_.To) :: ((AV.sl (List.map api_Job.c have_.Jobs)) :: ((AV.sl (List.map api_Seen.c have_.Seen)) :: ((AV.int IntKind.i64 (3 : Int)) :: [])))))))))) :: (((AV.int IntKind.i64 (171 : Int)), (AV.agg ((AV.int IntKind.i64 have_.Id) :: ((AV.int IntKind.i64 have_.Epoch) :: ((AV.int IntKind.i64 have_.State) :: ((AV.str have_.From) :: ((AV.str have_.To) :: ((AV.sl (List.map api_Job.c have_.Jobs)) :: ((AV.sl (List.map api_Seen.c have_.Seen)) :: ((AV.int IntKind.i64 (3 : Int)) :: [])))))))))) :: [])))) :: []))))))))))) 11 ?_ (fun _ => ?_))
      · conv => whnf
        refine Or.inl ?_
        conv => whnf
        refine brn_i (fun hb => ?_) (fun hb => ?_)
        · replace h1 := cond_t h1 hb
          conv => whnf
          obtain rfl := Option.some.inj h1
          exact end_i trivial [(0, 16), (1, 24), (2, 40), (3, 112), (4, 200), (5, 224), (6, 232), (7, 280), (8, 328), (9, 472), (10, 520)] rfl rfl rfl
        · replace h1 := cond_f h1 hb
          conv => whnf
          obtain rfl := Option.some.inj h1
          exact end_i trivial [(0, 16), (1, 24), (2, 40), (3, 112), (4, 200), (5, 224), (6, 232), (7, 280), (8, 328), (9, 472), (10, 520)] rfl rfl rfl
      · conv => whnf
        refine Or.inl ?_
        conv => whnf
        refine brn_i (fun hb => ?_) (fun hb => ?_)
        · replace k1 := cond_t k1 hb
          conv => whnf
          refine And.intro (by decide) ?_
          conv => whnf
          refine brn_i (fun hb => ?_) (fun hb => ?_)
          · replace k1 := cond_t k1 hb
            conv => whnf
            refine And.intro (by decide) ?_
            conv => whnf
            refine Or.inl ?_
            conv => whnf
            refine brn_i (fun hb => ?_) (fun hb => ?_)
            · cases (cond_t k1 hb)
            · replace k1 := cond_f k1 hb
              conv => whnf
              refine brn_i (fun hb => ?_) (fun hb => ?_)
              · replace k1 := cond_t k1 hb
                conv => whnf
                refine brn_i (fun hb => ?_) (fun hb => ?_)
                · replace k1 := cond_t k1 hb
                  conv => whnf
                  refine Or.inl ?_
                  conv => whnf
                  refine And.intro (by kernel_rfl) ?_
                  conv => whnf
                  obtain rfl := Option.some.inj k1
                  exact rfl
                · replace k1 := cond_f k1 hb
                  conv => whnf
                  refine Or.inl ?_
                  conv => whnf
                  refine And.intro (by kernel_rfl) ?_
                  conv => whnf
                  obtain rfl := Option.some.inj k1
                  exact rfl
              · replace k1 := cond_f k1 hb
                conv => whnf
                refine brn_i (fun hb => ?_) (fun hb => ?_)
                · cases (cond_t k1 hb)
                · replace k1 := cond_f k1 hb
                  conv => whnf
                  refine brn_i (fun hb => ?_) (fun hb => ?_)
                  · cases (cond_t k1 hb)
                  · replace k1 := cond_f k1 hb
                    conv => whnf
                    refine brn_i (fun hb => ?_) (fun hb => ?_)
                    · cases (cond_t k1 hb)
                    · replace k1 := cond_f k1 hb
                      conv => whnf
                      refine brn_i (fun hb => ?_) (fun hb => ?_)
                      · cases (cond_t k1 hb)
                      · replace k1 := cond_f k1 hb
                        conv => whnf
                        refine Or.inl ?_
                        conv => whnf
                        refine And.intro (by kernel_rfl) ?_
                        conv => whnf
                        obtain rfl := Option.some.inj k1
                        exact rfl
          · replace k1 := cond_f k1 hb
            conv => whnf
            refine brn_i (fun hb => ?_) (fun hb => ?_)
            · replace k1 := cond_t k1 hb
              conv => whnf
              refine And.intro (by decide) ?_
              conv => whnf
              refine Or.inl ?_
              conv => whnf
              refine brn_i (fun hb => ?_) (fun hb => ?_)
              · cases (cond_t k1 hb)
              · replace k1 := cond_f k1 hb
                conv => whnf
                refine brn_i (fun hb => ?_) (fun hb => ?_)
                · cases (cond_t k1 hb)
                · replace k1 := cond_f k1 hb
                  conv => whnf
                  refine brn_i (fun hb => ?_) (fun hb => ?_)
                  · replace k1 := cond_t k1 hb
                    conv => whnf
                    refine brn_i (fun hb => ?_) (fun hb => ?_)
                    · replace k1 := cond_t k1 hb
                      conv => whnf
                      refine Or.inl ?_
                      conv => whnf
                      refine And.intro (by kernel_rfl) ?_
                      conv => whnf
                      obtain rfl := Option.some.inj k1
                      exact rfl
                    · replace k1 := cond_f k1 hb
                      conv => whnf
                      refine Or.inl ?_
                      conv => whnf
                      refine And.intro (by kernel_rfl) ?_
                      conv => whnf
                      obtain rfl := Option.some.inj k1
                      exact rfl
                  · replace k1 := cond_f k1 hb
                    conv => whnf
                    refine brn_i (fun hb => ?_) (fun hb => ?_)
                    · cases (cond_t k1 hb)
                    · replace k1 := cond_f k1 hb
                      conv => whnf
                      refine brn_i (fun hb => ?_) (fun hb => ?_)
                      · cases (cond_t k1 hb)
                      · replace k1 := cond_f k1 hb
                        conv => whnf
                        refine brn_i (fun hb => ?_) (fun hb => ?_)
                        · cases (cond_t k1 hb)
                        · replace k1 := cond_f k1 hb
                          conv => whnf
                          refine Or.inl ?_
                          conv => whnf
                          refine And.intro (by kernel_rfl) ?_
                          conv => whnf
                          obtain rfl := Option.some.inj k1
                          exact rfl
            · replace k1 := cond_f k1 hb
              conv => whnf
              refine brn_i (fun hb => ?_) (fun hb => ?_)
              · replace k1 := cond_t k1 hb
                conv => whnf
                refine And.intro (by decide) ?_
                conv => whnf
                refine Or.inl ?_
                conv => whnf
                refine brn_i (fun hb => ?_) (fun hb => ?_)
                · cases (cond_t k1 hb)
                · replace k1 := cond_f k1 hb
                  conv => whnf
                  refine brn_i (fun hb => ?_) (fun hb => ?_)
                  · cases (cond_t k1 hb)
                  · replace k1 := cond_f k1 hb
                    conv => whnf
                    refine brn_i (fun hb => ?_) (fun hb => ?_)
                    · cases (cond_t k1 hb)
                    · replace k1 := cond_f k1 hb
                      conv => whnf
                      refine brn_i (fun hb => ?_) (fun hb => ?_)
                      · replace k1 := cond_t k1 hb
                        conv => whnf
                        refine brn_i (fun hb => ?_) (fun hb => ?_)
                        · replace k1 := cond_t k1 hb
                          conv => whnf
                          refine Or.inl ?_
                          conv => whnf
                          refine And.intro (by kernel_rfl) ?_
                          conv => whnf
                          obtain rfl := Option.some.inj k1
                          exact rfl
                        · replace k1 := cond_f k1 hb
                          conv => whnf
                          refine Or.inl ?_
                          conv => whnf
                          refine And.intro (by kernel_rfl) ?_
                          conv => whnf
                          obtain rfl := Option.some.inj k1
                          exact rfl
                      · replace k1 := cond_f k1 hb
                        conv => whnf
                        refine brn_i (fun hb => ?_) (fun hb => ?_)
                        · cases (cond_t k1 hb)
                        · replace k1 := cond_f k1 hb
                          conv => whnf
                          refine brn_i (fun hb => ?_) (fun hb => ?_)
                          · cases (cond_t k1 hb)
                          · replace k1 := cond_f k1 hb
                            conv => whnf
                            refine Or.inl ?_
                            conv => whnf
                            refine And.intro (by kernel_rfl) ?_
                            conv => whnf
                            obtain rfl := Option.some.inj k1
                            exact rfl
              · replace k1 := cond_f k1 hb
                conv => whnf
                refine brn_i (fun hb => ?_) (fun hb => ?_)
                · replace k1 := cond_t k1 hb
                  conv => whnf
                  refine And.intro (by decide) ?_
                  conv => whnf
                  refine Or.inl ?_
                  conv => whnf
                  refine brn_i (fun hb => ?_) (fun hb => ?_)
                  · cases (cond_t k1 hb)
                  · replace k1 := cond_f k1 hb
                    conv => whnf
                    refine brn_i (fun hb => ?_) (fun hb => ?_)
                    · cases (cond_t k1 hb)
                    · replace k1 := cond_f k1 hb
                      conv => whnf
                      refine brn_i (fun hb => ?_) (fun hb => ?_)
                      · cases (cond_t k1 hb)
                      · replace k1 := cond_f k1 hb
                        conv => whnf
                        refine brn_i (fun hb => ?_) (fun hb => ?_)
                        · cases (cond_t k1 hb)
                        · replace k1 := cond_f k1 hb
                          conv => whnf
                          refine brn_i (fun hb => ?_) (fun hb => ?_)
                          · replace k1 := cond_t k1 hb
                            conv => whnf
                            refine brn_i (fun hb => ?_) (fun hb => ?_)
                            · replace k1 := cond_t k1 hb
                              conv => whnf
                              refine Or.inl ?_
                              conv => whnf
                              refine And.intro (by kernel_rfl) ?_
                              conv => whnf
                              obtain rfl := Option.some.inj k1
                              exact rfl
                            · replace k1 := cond_f k1 hb
                              conv => whnf
                              refine Or.inl ?_
                              conv => whnf
                              refine And.intro (by kernel_rfl) ?_
                              conv => whnf
                              obtain rfl := Option.some.inj k1
                              exact rfl
                          · replace k1 := cond_f k1 hb
                            conv => whnf
                            refine brn_i (fun hb => ?_) (fun hb => ?_)
                            · cases (cond_t k1 hb)
                            · replace k1 := cond_f k1 hb
                              conv => whnf
                              refine Or.inl ?_
                              conv => whnf
                              refine And.intro (by kernel_rfl) ?_
                              conv => whnf
                              obtain rfl := Option.some.inj k1
                              exact rfl
                · replace k1 := cond_f k1 hb
                  conv => whnf
                  refine brn_i (fun hb => ?_) (fun hb => ?_)
                  · replace k1 := cond_t k1 hb
                    conv => whnf
                    refine And.intro (by decide) ?_
                    conv => whnf
                    refine Or.inl ?_
                    conv => whnf
                    refine brn_i (fun hb => ?_) (fun hb => ?_)
                    · cases (cond_t k1 hb)
                    · replace k1 := cond_f k1 hb
                      conv => whnf
                      refine brn_i (fun hb => ?_) (fun hb => ?_)
                      · cases (cond_t k1 hb)
                      · replace k1 := cond_f k1 hb
                        conv => whnf
                        refine brn_i (fun hb => ?_) (fun hb => ?_)
                        · cases (cond_t k1 hb)
                        · replace k1 := cond_f k1 hb
                          conv => whnf
                          refine brn_i (fun hb => ?_) (fun hb => ?_)
                          · cases (cond_t k1 hb)
                          · replace k1 := cond_f k1 hb
                            conv => whnf
                            refine brn_i (fun hb => ?_) (fun hb => ?_)
                            · cases (cond_t k1 hb)
                            · replace k1 := cond_f k1 hb
                              conv => whnf
                              refine brn_i (fun hb => ?_) (fun hb => ?_)
                              · replace k1 := cond_t k1 hb
                                conv => whnf
                                refine brn_i (fun hb => ?_) (fun hb => ?_)
                                · replace k1 := cond_t k1 hb
                                  conv => whnf
                                  refine Or.inl ?_
                                  conv => whnf
                                  refine And.intro (by kernel_rfl) ?_
                                  conv => whnf
                                  obtain rfl := Option.some.inj k1
                                  exact rfl
                                · replace k1 := cond_f k1 hb
                                  conv => whnf
                                  refine Or.inl ?_
                                  conv => whnf
                                  refine And.intro (by kernel_rfl) ?_
                                  conv => whnf
                                  obtain rfl := Option.some.inj k1
                                  exact rfl
                              · replace k1 := cond_f k1 hb
                                conv => whnf
                                refine Or.inl ?_
                                conv => whnf
                                refine And.intro (by kernel_rfl) ?_
                                conv => whnf
                                obtain rfl := Option.some.inj k1
                                exact rfl
                  · replace k1 := cond_f k1 hb
                    conv => whnf
                    refine And.intro (by decide) ?_
                    conv => whnf
                    refine Or.inl ?_
                    conv => whnf
                    refine brn_i (fun hb => ?_) (fun hb => ?_)
                    · replace k1 := cond_t k1 hb
                      conv => whnf
                      refine brn_i (fun hb => ?_) (fun hb => ?_)
                      · cases (cond_t k1 hb)
                      · replace k1 := cond_f k1 hb
                        conv => whnf
                        refine brn_i (fun hb => ?_) (fun hb => ?_)
                        · cases (cond_t k1 hb)
                        · replace k1 := cond_f k1 hb
                          conv => whnf
                          refine brn_i (fun hb => ?_) (fun hb => ?_)
                          · cases (cond_t k1 hb)
                          · replace k1 := cond_f k1 hb
                            conv => whnf
                            refine brn_i (fun hb => ?_) (fun hb => ?_)
                            · cases (cond_t k1 hb)
                            · replace k1 := cond_f k1 hb
                              conv => whnf
                              refine brn_i (fun hb => ?_) (fun hb => ?_)
                              · cases (cond_t k1 hb)
                              · replace k1 := cond_f k1 hb
                                conv => whnf
                                refine brn_i (fun hb => ?_) (fun hb => ?_)
                                · replace k1 := cond_t k1 hb
                                  conv => whnf
                                  obtain ⟨hg, k1⟩ := grd_e k1
                                  refine And.intro hg ?_
                                  conv => whnf
                                  refine brn_i (fun hb => ?_) (fun hb => ?_)
                                  · cases (cond_t k1 hb)
                                  · replace k1 := cond_f k1 hb
                                    conv => whnf
                                    refine brn_i (fun hb => ?_) (fun hb => ?_)
                                    · cases (cond_t k1 hb)
                                    · replace k1 := cond_f k1 hb
                                      conv => whnf
                                      refine brn_i (fun hb => ?_) (fun hb => ?_)
                                      · cases (cond_t k1 hb)
                                      · replace k1 := cond_f k1 hb
                                        conv => whnf
                                        refine brn_i (fun hb => ?_) (fun hb => ?_)
                                        · cases (cond_t k1 hb)
                                        · replace k1 := cond_f k1 hb
                                          conv => whnf
                                          refine brn_i (fun hb => ?_) (fun hb => ?_)
                                          · cases (cond_t k1 hb)
                                          · replace k1 := cond_f k1 hb
                                            conv => whnf
                                            refine brn_i (fun hb => ?_) (fun hb => ?_)
                                            · replace k1 := cond_t k1 hb
                                              conv => whnf
                                              refine brn_i (fun hb => ?_) (fun hb => ?_)
                                              · replace k1 := cond_t k1 hb
                                                conv => whnf
                                                refine Or.inl ?_
                                                conv => whnf
                                                refine And.intro (by kernel_rfl) ?_
                                                conv => whnf
                                                obtain rfl := Option.some.inj k1
                                                exact rfl
                                              · replace k1 := cond_f k1 hb
                                                conv => whnf
                                                refine brn_i (fun hb => ?_) (fun hb => ?_)
                                                · replace k1 := cond_t k1 hb
                                                  conv => whnf
                                                  refine Or.inl ?_
                                                  conv => whnf
                                                  refine And.intro (by kernel_rfl) ?_
                                                  conv => whnf
                                                  obtain rfl := Option.some.inj k1
                                                  exact rfl
                                                · replace k1 := cond_f k1 hb
                                                  conv => whnf
                                                  refine Or.inl ?_
                                                  conv => whnf
                                                  refine And.intro (by kernel_rfl) ?_
                                                  conv => whnf
                                                  obtain rfl := Option.some.inj k1
                                                  exact rfl
                                            · cases (cond_f k1 hb)
                                · cases (cond_f k1 hb)
                    · replace k1 := cond_f k1 hb
                      conv => whnf
                      refine brn_i (fun hb => ?_) (fun hb => ?_)
                      · cases (cond_t k1 hb)
                      · replace k1 := cond_f k1 hb
                        conv => whnf
                        refine brn_i (fun hb => ?_) (fun hb => ?_)
                        · cases (cond_t k1 hb)
                        · replace k1 := cond_f k1 hb
                          conv => whnf
                          refine brn_i (fun hb => ?_) (fun hb => ?_)
                          · cases (cond_t k1 hb)
                          · replace k1 := cond_f k1 hb
                            conv => whnf
                            refine brn_i (fun hb => ?_) (fun hb => ?_)
                            · cases (cond_t k1 hb)
                            · replace k1 := cond_f k1 hb
                              conv => whnf
                              refine brn_i (fun hb => ?_) (fun hb => ?_)
                              · cases (cond_t k1 hb)
                              · replace k1 := cond_f k1 hb
                                conv => whnf
                                refine brn_i (fun hb => ?_) (fun hb => ?_)
                                · replace k1 := cond_t k1 hb
                                  conv => whnf
                                  refine brn_i (fun hb => ?_) (fun hb => ?_)
                                  · replace k1 := cond_t k1 hb
                                    conv => whnf
                                    refine Or.inl ?_
                                    conv => whnf
                                    refine And.intro (by kernel_rfl) ?_
                                    conv => whnf
                                    obtain rfl := Option.some.inj k1
                                    exact rfl
                                  · replace k1 := cond_f k1 hb
                                    conv => whnf
                                    refine Or.inl ?_
                                    conv => whnf
                                    refine And.intro (by kernel_rfl) ?_
                                    conv => whnf
                                    obtain rfl := Option.some.inj k1
                                    exact rfl
                                · replace k1 := cond_f k1 hb
                                  conv => whnf
                                  refine Or.inl ?_
                                  conv => whnf
                                  refine And.intro (by kernel_rfl) ?_
                                  conv => whnf
                                  obtain rfl := Option.some.inj k1
                                  exact rfl
        · replace k1 := cond_f k1 hb
          conv => whnf
          refine Or.inl ?_
          conv => whnf
          refine brn_i (fun hb => ?_) (fun hb => ?_)
          · replace k1 := cond_t k1 hb
            conv => whnf
            refine brn_i (fun hb => ?_) (fun hb => ?_)
            · cases (cond_t k1 hb)
            · replace k1 := cond_f k1 hb
              conv => whnf
              refine brn_i (fun hb => ?_) (fun hb => ?_)
              · cases (cond_t k1 hb)
              · replace k1 := cond_f k1 hb
                conv => whnf
                refine brn_i (fun hb => ?_) (fun hb => ?_)
                · cases (cond_t k1 hb)
                · replace k1 := cond_f k1 hb
                  conv => whnf
                  refine brn_i (fun hb => ?_) (fun hb => ?_)
                  · cases (cond_t k1 hb)
                  · replace k1 := cond_f k1 hb
                    conv => whnf
                    refine brn_i (fun hb => ?_) (fun hb => ?_)
                    · cases (cond_t k1 hb)
                    · replace k1 := cond_f k1 hb
                      conv => whnf
                      cases k1
          · replace k1 := cond_f k1 hb
            conv => whnf
            refine brn_i (fun hb => ?_) (fun hb => ?_)
            · replace k1 := cond_t k1 hb
              conv => whnf
              refine brn_i (fun hb => ?_) (fun hb => ?_)
              · replace k1 := cond_t k1 hb
                conv => whnf
                refine Or.inl ?_
                conv => whnf
                refine And.intro (by kernel_rfl) ?_
                conv => whnf
                obtain rfl := Option.some.inj k1
                exact rfl
              · replace k1 := cond_f k1 hb
                conv => whnf
                refine Or.inl ?_
                conv => whnf
                refine And.intro (by kernel_rfl) ?_
                conv => whnf
                obtain rfl := Option.some.inj k1
                exact rfl
            · replace k1 := cond_f k1 hb
              conv => whnf
              refine brn_i (fun hb => ?_) (fun hb => ?_)
              · replace k1 := cond_t k1 hb
                conv => whnf
                refine brn_i (fun hb => ?_) (fun hb => ?_)
                · replace k1 := cond_t k1 hb
                  conv => whnf
                  refine Or.inl ?_
                  conv => whnf
                  refine And.intro (by kernel_rfl) ?_
                  conv => whnf
                  obtain rfl := Option.some.inj k1
                  exact rfl
                · replace k1 := cond_f k1 hb
                  conv => whnf
                  refine Or.inl ?_
                  conv => whnf
                  refine And.intro (by kernel_rfl) ?_
                  conv => whnf
                  obtain rfl := Option.some.inj k1
                  exact rfl
              · replace k1 := cond_f k1 hb
                conv => whnf
                refine brn_i (fun hb => ?_) (fun hb => ?_)
                · replace k1 := cond_t k1 hb
                  conv => whnf
                  refine brn_i (fun hb => ?_) (fun hb => ?_)
                  · replace k1 := cond_t k1 hb
                    conv => whnf
                    refine Or.inl ?_
                    conv => whnf
                    refine And.intro (by kernel_rfl) ?_
                    conv => whnf
                    obtain rfl := Option.some.inj k1
                    exact rfl
                  · replace k1 := cond_f k1 hb
                    conv => whnf
                    refine brn_i (fun hb => ?_) (fun hb => ?_)
                    · replace k1 := cond_t k1 hb
                      conv => whnf
                      refine Or.inl ?_
                      conv => whnf
                      refine And.intro (by kernel_rfl) ?_
                      conv => whnf
                      obtain rfl := Option.some.inj k1
                      exact rfl
                    · replace k1 := cond_f k1 hb
                      conv => whnf
                      refine brn_i (fun hb => ?_) (fun hb => ?_)
                      · replace k1 := cond_t k1 hb
                        conv => whnf
                        refine Or.inl ?_
                        conv => whnf
                        refine And.intro (by kernel_rfl) ?_
                        conv => whnf
                        obtain rfl := Option.some.inj k1
                        exact rfl
                      · replace k1 := cond_f k1 hb
                        conv => whnf
                        refine brn_i (fun hb => ?_) (fun hb => ?_)
                        · replace k1 := cond_t k1 hb
                          conv => whnf
                          refine Or.inl ?_
                          conv => whnf
                          refine And.intro (by kernel_rfl) ?_
                          conv => whnf
                          obtain rfl := Option.some.inj k1
                          exact rfl
                        · replace k1 := cond_f k1 hb
                          conv => whnf
                          refine brn_i (fun hb => ?_) (fun hb => ?_)
                          · replace k1 := cond_t k1 hb
                            conv => whnf
                            refine Or.inl ?_
                            conv => whnf
                            refine And.intro (by kernel_rfl) ?_
                            conv => whnf
                            obtain rfl := Option.some.inj k1
                            exact rfl
                          · replace k1 := cond_f k1 hb
                            conv => whnf
                            refine Or.inl ?_
                            conv => whnf
                            refine And.intro (by kernel_rfl) ?_
                            conv => whnf
                            obtain rfl := Option.some.inj k1
                            exact rfl
                · replace k1 := cond_f k1 hb
                  conv => whnf
                  refine brn_i (fun hb => ?_) (fun hb => ?_)
                  · replace k1 := cond_t k1 hb
                    conv => whnf
                    refine brn_i (fun hb => ?_) (fun hb => ?_)
                    · replace k1 := cond_t k1 hb
                      conv => whnf
                      refine Or.inl ?_
                      conv => whnf
                      refine And.intro (by kernel_rfl) ?_
                      conv => whnf
                      obtain rfl := Option.some.inj k1
                      exact rfl
                    · replace k1 := cond_f k1 hb
                      conv => whnf
                      refine Or.inl ?_
                      conv => whnf
                      refine And.intro (by kernel_rfl) ?_
                      conv => whnf
                      obtain rfl := Option.some.inj k1
                      exact rfl
                  · replace k1 := cond_f k1 hb
                    conv => whnf
                    refine brn_i (fun hb => ?_) (fun hb => ?_)
                    · replace k1 := cond_t k1 hb
                      conv => whnf
                      refine brn_i (fun hb => ?_) (fun hb => ?_)
                      · replace k1 := cond_t k1 hb
                        conv => whnf
                        refine Or.inl ?_
                        conv => whnf
                        refine And.intro (by kernel_rfl) ?_
                        conv => whnf
                        obtain rfl := Option.some.inj k1
                        exact rfl
                      · replace k1 := cond_f k1 hb
                        conv => whnf
                        refine brn_i (fun hb => ?_) (fun hb => ?_)
                        · replace k1 := cond_t k1 hb
                          conv => whnf
                          refine Or.inl ?_
                          conv => whnf
                          refine And.intro (by kernel_rfl) ?_
                          conv => whnf
                          obtain rfl := Option.some.inj k1
                          exact rfl
                        · replace k1 := cond_f k1 hb
                          conv => whnf
                          refine Or.inl ?_
                          conv => whnf
                          refine And.intro (by kernel_rfl) ?_
                          conv => whnf
                          obtain rfl := Option.some.inj k1
                          exact rfl
                    · replace k1 := cond_f k1 hb
                      conv => whnf
                      refine Or.inl ?_
                      conv => whnf
                      refine And.intro (by kernel_rfl) ?_
                      conv => whnf
                      obtain rfl := Option.some.inj k1
                      exact rfl

theorem matinslaw20_awake_FC (F : Nat) (r : Bool) (h : matinslaw20_awake F = some r) : FC Try.prog G0 4 [] [] (.bool r) [] := by
  refine FC_of 2000 Try.func4 rfl (by kernel_rfl) mixed (by show 0 ≤ 101; decide) ?_
  unfold matinslaw20_awake at h
  conv => whnf
  refine Or.inl ?_
  conv => whnf
  obtain ⟨y_0, hy, h⟩ := bind_e h
  refine ⟨_, _, (atlas_New_FC F (2 : Int) y_0 hy), Or.inr ⟨[], rfl, ?_⟩⟩
  conv => whnf
  refine Or.inl ?_
  conv => whnf
  obtain ⟨y_1, hy, h⟩ := bind_e h
  refine ⟨_, _, (atlas_Begin_FC F y_0.1 (api_Plan.mk (1 : Int) (0 : Int) (1 : Int) (0 : Int) (2 : Int) (0 : Int) (0 : Int) ([] : List UInt8)) y_1 hy), Or.inr ⟨[], rfl, ?_⟩⟩
  conv => whnf
  refine Or.inl ?_
  conv => whnf
  obtain ⟨y_2, hy, h⟩ := bind_e h
  refine ⟨_, _, (mover_Next_FC F y_1.1 (api_Shard.mk (0 : Int) (0 : Int) (0 : Int) ([] : List UInt8) ([] : List UInt8) [] []) y_2 hy), Or.inr ⟨[], rfl, ?_⟩⟩
  conv => whnf
  refine Or.inl ?_
  conv => whnf
  obtain ⟨y_3, hy, h⟩ := bind_e h
  refine ⟨_, _, (mover_Heard_FC F y_1.1 (api_Shard.mk (0 : Int) (0 : Int) (0 : Int) ([] : List UInt8) ([] : List UInt8) [] []) (api_Result.mk (0 : Int) (0 : Int) []) (api_Shard.mk (1 : Int) (1 : Int) (2 : Int) ([] : List UInt8) ([] : List UInt8) [] []) y_3 hy), Or.inr ⟨[], rfl, ?_⟩⟩
  conv => whnf
  refine Or.inl ?_
  conv => whnf
  obtain ⟨y_4, hy, h⟩ := bind_e h
  refine ⟨_, _, (mover_Next_FC F y_1.1 y_3.1 y_4 hy), Or.inr ⟨[], rfl, ?_⟩⟩
  conv => whnf
  refine Or.inl ?_
  conv => whnf
  obtain ⟨y_5, hy, h⟩ := bind_e h
  refine ⟨_, _, (mover_Next_FC F y_0.1 (api_Shard.mk (0 : Int) (0 : Int) (0 : Int) ([] : List UInt8) ([] : List UInt8) [] []) y_5 hy), Or.inr ⟨[], rfl, ?_⟩⟩
  conv => whnf
  refine Or.inl ?_
  conv => whnf
  refine brn_i (fun hb => ?_) (fun hb => ?_)
  · replace h := cond_t h hb
    conv => whnf
    refine brn_i (fun hb => ?_) (fun hb => ?_)
    · replace h := cond_t h hb
      conv => whnf
      refine brn_i (fun hb => ?_) (fun hb => ?_)
      · replace h := cond_t h hb
        conv => whnf
        refine brn_i (fun hb => ?_) (fun hb => ?_)
        · replace h := cond_t h hb
          conv => whnf
          refine brn_i (fun hb => ?_) (fun hb => ?_)
          · replace h := cond_t h hb
            conv => whnf
            refine brn_i (fun hb => ?_) (fun hb => ?_)
            · replace h := cond_t h hb
              conv => whnf
              refine brn_i (fun hb => ?_) (fun hb => ?_)
              · replace h := cond_t h hb
                conv => whnf
                refine brn_i (fun hb => ?_) (fun hb => ?_)
                · replace h := cond_t h hb
                  conv => whnf
                  refine brn_i (fun hb => ?_) (fun hb => ?_)
                  · replace h := cond_t h hb
                    conv => whnf
                    refine brn_i (fun hb => ?_) (fun hb => ?_)
                    · replace h := cond_t h hb
                      conv => whnf
                      obtain rfl := Option.some.inj h
                      exact rfl
                    · replace h := cond_f h hb
                      conv => whnf
                      obtain rfl := Option.some.inj h
                      exact rfl
                  · replace h := cond_f h hb
                    conv => whnf
                    obtain rfl := Option.some.inj h
                    exact rfl
                · replace h := cond_f h hb
                  conv => whnf
                  obtain rfl := Option.some.inj h
                  exact rfl
              · replace h := cond_f h hb
                conv => whnf
                obtain rfl := Option.some.inj h
                exact rfl
            · replace h := cond_f h hb
              conv => whnf
              obtain rfl := Option.some.inj h
              exact rfl
          · replace h := cond_f h hb
            conv => whnf
            obtain rfl := Option.some.inj h
            exact rfl
        · replace h := cond_f h hb
          conv => whnf
          obtain rfl := Option.some.inj h
          exact rfl
      · replace h := cond_f h hb
        conv => whnf
        obtain rfl := Option.some.inj h
        exact rfl
    · replace h := cond_f h hb
      conv => whnf
      obtain rfl := Option.some.inj h
      exact rfl
  · replace h := cond_f h hb
    conv => whnf
    obtain rfl := Option.some.inj h
    exact rfl

theorem matinsref19_Place_FC (F : Nat) (a : api_Atlas) (shard : Int) (r : Int) (h : matinsref19_Place F a shard = some r) : FC Try.prog G0 20 [] [(.agg (api_Atlas.c a)), (.int IntKind.i64 shard)] (.int IntKind.i64 r) [] := by
  refine FC_of 2000 Try.func20 rfl (by kernel_rfl) mixed (by show 2 ≤ 22; decide) ?_
  unfold matinsref19_Place at h
  conv => whnf
  obtain ⟨o0, h0, k0⟩ := bind_e h
  refine Or.inr (joins_i (o0 = Sum.inr (outR o0)) [] [] 0 ?_ (fun hR => ?_))
  · conv => whnf
    refine Or.inl ?_
    conv => whnf
    refine loops_i (α := (Nat × Int)) (fun x => ((1, (AV.int IntKind.i64 shard)) :: ((2, (AV.ptr 0 0 0)) :: ((5, (AV.int IntKind.i64 x.2)) :: [])))) (fun x => ((0, (AO.rows false (((AV.int IntKind.i64 a.Groups) :: ((AV.int IntKind.i64 a.Last) :: ((AV.sl (List.map api_Span.c a.Spans)) :: ((AV.int IntKind.i64 a.Plan.Kind) :: ((AV.int IntKind.i64 a.Plan.Phase) :: ((AV.int IntKind.i64 a.Plan.Shard) :: ((AV.int IntKind.i64 a.Plan.Other) :: ((AV.int IntKind.i64 a.Plan.Group) :: ((AV.int IntKind.i64 a.Plan.Past) :: ((AV.int IntKind.i64 a.Plan.Epoch) :: ((AV.str a.Plan.Key) :: []))))))))))) :: []))) :: [])) 1 (fun x => matinsref19_Place_l0 F a shard x.1 x.2 = some o0) (fun x => x.1) (F, (0 : Int)) [(0, 8)] h0 rfl rfl rfl ?_
    rintro ⟨n_6, i_7⟩ h0
    replace h0 : matinsref19_Place_l0 F a shard n_6 i_7 = some o0 := h0
    cases n_6 with
    | zero => rw [matinsref19_Place_l0.eq_1] at h0; cases h0
    | succ n_6 =>
      rw [matinsref19_Place_l0.eq_2] at h0
      conv => whnf
      refine Or.inl ?_
      conv => whnf
      refine brn_i (fun hb => ?_) (fun hb => ?_)
      · replace h0 := cond_t h0 (by first | simpa only [length_enc8, List.length_map, List.length_append, List.length_cons, List.length_nil, List.length_set, List.length_replicate, List.length_take, List.length_drop, Nat.zero_add] using hb | simpa [length_enc8, List.length_map, List.length_append, List.length_cons, List.length_nil, List.length_set, List.length_replicate, List.length_take, List.length_drop, Nat.zero_add, chunk] using hb)
        conv => whnf
        refine Or.inl ?_
        conv => whnf
        obtain ⟨hg, h0⟩ := grd_e h0
        refine And.intro hg ?_
        conv => whnf
        obtain ⟨y_9, hy, h0⟩ := bind_e h0
        refine opt_i (api_Span.c y_9) (getE rfl hy) ?_
        conv => whnf
        refine Or.inl ?_
        conv => whnf
        refine brn_i (fun hb => ?_) (fun hb => ?_)
        · replace h0 := cond_t h0 hb
          conv => whnf
          obtain rfl := Option.some.inj h0
          obtain rfl := Option.some.inj (elim_l k0)
          exact rfl
        · replace h0 := cond_f h0 hb
          conv => whnf
          exact round_i (n_6, (IntKind.wrap IntKind.i64 (i_7 + (1 : Int)))) [(0, 0)] h0 (Nat.lt_succ_self _) rfl rfl rfl
      · replace h0 := cond_f h0 (by first | simpa only [length_enc8, List.length_map, List.length_append, List.length_cons, List.length_nil, List.length_set, List.length_replicate, List.length_take, List.length_drop, Nat.zero_add] using hb | simpa [length_enc8, List.length_map, List.length_append, List.length_cons, List.length_nil, List.length_set, List.length_replicate, List.length_take, List.length_drop, Nat.zero_add, chunk] using hb)
        conv => whnf
        obtain rfl := Option.some.inj h0
        exact end_i rfl [] rfl rfl rfl
  · replace k0 := elim_e hR k0
    generalize outR o0 = v at k0 ⊢
    conv => whnf
    obtain rfl := Option.some.inj k0
    exact rfl

theorem matinsref09_Named_FC (F : Nat) (s : (List UInt8)) (r : Bool) (h : matinsref09_Named F s = some r) : FC Try.prog G0 40 [] [(.str s)] (.bool r) [] := by
  refine FC_of 2000 Try.func40 rfl (by kernel_rfl) mixed (by show 1 ≤ 45; decide) ?_
  unfold matinsref09_Named at h
  conv => whnf
  obtain ⟨o4, h4, k4⟩ := bind_e h
  refine Or.inr (joins_i (o4 = Sum.inr (outR o4)) ((0, (AV.str s)) :: []) [] 0 ?_ (fun hR => ?_))
  · conv => whnf
    refine Or.inl ?_
    conv => whnf
    refine loops_i (α := (Nat × Int)) (fun x => ((0, (AV.str s)) :: ((3, (AV.int IntKind.i64 x.2)) :: []))) (fun x => []) 0 (fun x => matinsref09_Named_l0 F s x.1 x.2 = some o4) (fun x => x.1) (F, (0 : Int)) [] h4 rfl rfl rfl ?_
    rintro ⟨n_12, i_13⟩ h4
    replace h4 : matinsref09_Named_l0 F s n_12 i_13 = some o4 := h4
    cases n_12 with
    | zero => rw [matinsref09_Named_l0.eq_1] at h4; cases h4
    | succ n_12 =>
      rw [matinsref09_Named_l0.eq_2] at h4
      conv => whnf
      refine Or.inl ?_
      conv => whnf
      refine brn_i (fun hb => ?_) (fun hb => ?_)
      · replace h4 := cond_t h4 hb
        conv => whnf
        refine Or.inl ?_
        conv => whnf
        obtain ⟨hg, h4⟩ := grd_e h4
        refine And.intro hg ?_
        conv => whnf
        obtain ⟨y_16, hy, h4⟩ := bind_e h4
        refine opt_i y_16 hy ?_
        conv => whnf
        obtain ⟨t36_17, h8, k8⟩ := bind_e h4
        refine Or.inr (joins_i True ((0, (AV.str s)) :: ((3, (AV.int IntKind.i64 i_13)) :: ((36, (AV.bool t36_17)) :: []))) [] 0 ?_ (fun _ => ?_))
        · conv => whnf
          refine Or.inl ?_
          conv => whnf
          refine brn_i (fun hb => ?_) (fun hb => ?_)
          · replace h8 := cond_t h8 hb
            conv => whnf
            refine brn_i (fun hb => ?_) (fun hb => ?_)
            · replace h8 := cond_t h8 hb
              conv => whnf
              obtain rfl := Option.some.inj h8
              exact end_i trivial [] rfl rfl rfl
            · replace h8 := cond_f h8 hb
              conv => whnf
              refine brn_i (fun hb => ?_) (fun hb => ?_)
              · replace h8 := cond_t h8 hb
                conv => whnf
                refine brn_i (fun hb => ?_) (fun hb => ?_)
                · replace h8 := cond_t h8 hb
                  conv => whnf
                  obtain rfl := Option.some.inj h8
                  exact end_i trivial [] rfl rfl rfl
                · replace h8 := cond_f h8 hb
                  conv => whnf
                  refine brn_i (fun hb => ?_) (fun hb => ?_)
                  · replace h8 := cond_t h8 hb
                    conv => whnf
                    obtain rfl := Option.some.inj h8
                    exact end_i trivial [] rfl rfl rfl
                  · replace h8 := cond_f h8 hb
                    conv => whnf
                    obtain rfl := Option.some.inj h8
                    exact end_i trivial [] rfl rfl rfl
              · replace h8 := cond_f h8 hb
                conv => whnf
                refine brn_i (fun hb => ?_) (fun hb => ?_)
                · replace h8 := cond_t h8 hb
                  conv => whnf
                  obtain rfl := Option.some.inj h8
                  exact end_i trivial [] rfl rfl rfl
                · replace h8 := cond_f h8 hb
                  conv => whnf
                  obtain rfl := Option.some.inj h8
                  exact end_i trivial [] rfl rfl rfl
          · replace h8 := cond_f h8 hb
            conv => whnf
            refine brn_i (fun hb => ?_) (fun hb => ?_)
            · replace h8 := cond_t h8 hb
              conv => whnf
              refine brn_i (fun hb => ?_) (fun hb => ?_)
              · replace h8 := cond_t h8 hb
                conv => whnf
                obtain rfl := Option.some.inj h8
                exact end_i trivial [] rfl rfl rfl
              · replace h8 := cond_f h8 hb
                conv => whnf
                refine brn_i (fun hb => ?_) (fun hb => ?_)
                · replace h8 := cond_t h8 hb
                  conv => whnf
                  obtain rfl := Option.some.inj h8
                  exact end_i trivial [] rfl rfl rfl
                · replace h8 := cond_f h8 hb
                  conv => whnf
                  obtain rfl := Option.some.inj h8
                  exact end_i trivial [] rfl rfl rfl
            · replace h8 := cond_f h8 hb
              conv => whnf
              refine brn_i (fun hb => ?_) (fun hb => ?_)
              · replace h8 := cond_t h8 hb
                conv => whnf
                obtain rfl := Option.some.inj h8
                exact end_i trivial [] rfl rfl rfl
              · replace h8 := cond_f h8 hb
                conv => whnf
                obtain rfl := Option.some.inj h8
                exact end_i trivial [] rfl rfl rfl
        · conv => whnf
          refine Or.inl ?_
          conv => whnf
          refine brn_i (fun hb => ?_) (fun hb => ?_)
          · replace k8 := cond_t k8 hb
            conv => whnf
            obtain rfl := Option.some.inj k8
            obtain rfl := Option.some.inj (elim_l k4)
            exact rfl
          · replace k8 := cond_f k8 hb
            conv => whnf
            exact round_i (n_12, (IntKind.wrap IntKind.i64 (i_13 + (1 : Int)))) [] k8 (Nat.lt_succ_self _) rfl rfl rfl
      · replace h4 := cond_f h4 hb
        conv => whnf
        obtain rfl := Option.some.inj h4
        exact end_i rfl [] rfl rfl rfl
  · replace k4 := elim_e hR k4
    generalize outR o4 = v at k4 ⊢
    conv => whnf
    refine Or.inl ?_
    conv => whnf
    refine brn_i (fun hb => ?_) (fun hb => ?_)
    · replace k4 := cond_t k4 hb
      conv => whnf
      obtain rfl := Option.some.inj k4
      exact rfl
    · replace k4 := cond_f k4 hb
      conv => whnf
      obtain rfl := Option.some.inj k4
      exact rfl

theorem matinsref19_spans_FC (F : Nat) (a : api_Atlas) (r : Bool) (h : matinsref19_spans F a = some r) : FC Try.prog G0 31 [] [(.agg (api_Atlas.c a))] (.bool r) [] := by
  refine FC_of 2000 Try.func31 rfl (by kernel_rfl) mixed (by show 1 ≤ 117; decide) ?_
  unfold matinsref19_spans at h
  conv => whnf
  obtain ⟨t30_0, h0, k0⟩ := bind_e h
  refine Or.inr (joins_i True ((1, (AV.ptr 0 0 0)) :: ((3, (AV.int IntKind.i64 (((List.length (List.map api_Span.c a.Spans)) : Nat) : Int))) :: ((30, (AV.bool t30_0)) :: []))) ((0, (AO.rows false (((AV.int IntKind.i64 a.Groups) :: ((AV.int IntKind.i64 a.Last) :: ((AV.sl (List.map api_Span.c a.Spans)) :: ((AV.int IntKind.i64 a.Plan.Kind) :: ((AV.int IntKind.i64 a.Plan.Phase) :: ((AV.int IntKind.i64 a.Plan.Shard) :: ((AV.int IntKind.i64 a.Plan.Other) :: ((AV.int IntKind.i64 a.Plan.Group) :: ((AV.int IntKind.i64 a.Plan.Past) :: ((AV.int IntKind.i64 a.Plan.Epoch) :: ((AV.str a.Plan.Key) :: []))))))))))) :: []))) :: []) 1 ?_ (fun _ => ?_))
  · conv => whnf
    refine Or.inl ?_
    conv => whnf
    refine brn_i (fun hb => ?_) (fun hb => ?_)
    · replace h0 := cond_t h0 hb
      conv => whnf
      obtain rfl := Option.some.inj h0
      exact end_i trivial [(0, 8)] rfl rfl rfl
    · replace h0 := cond_f h0 hb
      conv => whnf
      refine brn_i (fun hb => ?_) (fun hb => ?_)
      · replace h0 := cond_t h0 hb
        conv => whnf
        obtain rfl := Option.some.inj h0
        exact end_i trivial [(0, 8)] rfl rfl rfl
      · replace h0 := cond_f h0 hb
        conv => whnf
        refine brn_i (fun hb => ?_) (fun hb => ?_)
        · replace h0 := cond_t h0 (by first | simpa only [length_enc8, List.length_map, List.length_append, List.length_cons, List.length_nil, List.length_set, List.length_replicate, List.length_take, List.length_drop, Nat.zero_add] using hb | simpa [length_enc8, List.length_map, List.length_append, List.length_cons, List.length_nil, List.length_set, List.length_replicate, List.length_take, List.length_drop, Nat.zero_add, chunk] using hb)
          conv => whnf
          obtain rfl := Option.some.inj h0
          exact end_i trivial [(0, 8)] rfl rfl rfl
        · replace h0 := cond_f h0 (by first | simpa only [length_enc8, List.length_map, List.length_append, List.length_cons, List.length_nil, List.length_set, List.length_replicate, List.length_take, List.length_drop, Nat.zero_add] using hb | simpa [length_enc8, List.length_map, List.length_append, List.length_cons, List.length_nil, List.length_set, List.length_replicate, List.length_take, List.length_drop, Nat.zero_add, chunk] using hb)
          conv => whnf
          refine brn_i (fun hb => ?_) (fun hb => ?_)
          · replace h0 := cond_t h0 (by first | simpa only [length_enc8, List.length_map, List.length_append, List.length_cons, List.length_nil, List.length_set, List.length_replicate, List.length_take, List.length_drop, Nat.zero_add] using hb | simpa [length_enc8, List.length_map, List.length_append, List.length_cons, List.length_nil, List.length_set, List.length_replicate, List.length_take, List.length_drop, Nat.zero_add, chunk] using hb)
            conv => whnf
            obtain rfl := Option.some.inj h0
            exact end_i trivial [(0, 8)] rfl rfl rfl
          · replace h0 := cond_f h0 (by first | simpa only [length_enc8, List.length_map, List.length_append, List.length_cons, List.length_nil, List.length_set, List.length_replicate, List.length_take, List.length_drop, Nat.zero_add] using hb | simpa [length_enc8, List.length_map, List.length_append, List.length_cons, List.length_nil, List.length_set, List.length_replicate, List.length_take, List.length_drop, Nat.zero_add, chunk] using hb)
            conv => whnf
            obtain rfl := Option.some.inj h0
            exact end_i trivial [(0, 8)] rfl rfl rfl
  · conv => whnf
    refine Or.inl ?_
    conv => whnf
    refine brn_i (fun hb => ?_) (fun hb => ?_)
    · replace k0 := cond_t k0 hb
      conv => whnf
      obtain rfl := Option.some.inj k0
      exact rfl
    · replace k0 := cond_f k0 hb
      conv => whnf
      obtain ⟨o9, h9, k9⟩ := bind_e k0
      refine Or.inr (joins_i (o9 = Sum.inr (outR o9)) [] [] 0 ?_ (fun hR => ?_))
      · conv => whnf
        refine Or.inl ?_
        conv => whnf
        refine loops_i (α := (Nat × (List UInt8) × Int)) (fun x => ((1, (AV.ptr 0 0 0)) :: ((3, (AV.int IntKind.i64 (((List.length (List.map api_Span.c a.Spans)) : Nat) : Int))) :: ((4, (AV.str x.2.1)) :: ((5, (AV.int IntKind.i64 x.2.2)) :: []))))) (fun x => ((0, (AO.rows false (((AV.int IntKind.i64 a.Groups) :: ((AV.int IntKind.i64 a.Last) :: ((AV.sl (List.map api_Span.c a.Spans)) :: ((AV.int IntKind.i64 a.Plan.Kind) :: ((AV.int IntKind.i64 a.Plan.Phase) :: ((AV.int IntKind.i64 a.Plan.Shard) :: ((AV.int IntKind.i64 a.Plan.Other) :: ((AV.int IntKind.i64 a.Plan.Group) :: ((AV.int IntKind.i64 a.Plan.Past) :: ((AV.int IntKind.i64 a.Plan.Epoch) :: ((AV.str a.Plan.Key) :: []))))))))))) :: []))) :: [])) 1 (fun x => matinsref19_spans_l0 F a x.1 x.2.1 x.2.2 = some o9) (fun x => x.1) (F, ([] : List UInt8), (0 : Int)) [(0, 0)] h9 rfl rfl rfl ?_
        rintro ⟨n_31, from__32, i_33⟩ h9
        replace h9 : matinsref19_spans_l0 F a n_31 from__32 i_33 = some o9 := h9
        cases n_31 with
        | zero => rw [matinsref19_spans_l0.eq_1] at h9; cases h9
        | succ n_31 =>
          rw [matinsref19_spans_l0.eq_2] at h9
          conv => whnf
          refine Or.inl ?_
          conv => whnf
          refine brn_i (fun hb => ?_) (fun hb => ?_)
          · replace h9 := cond_t h9 (by first | simpa only [length_enc8, List.length_map, List.length_append, List.length_cons, List.length_nil, List.length_set, List.length_replicate, List.length_take, List.length_drop, Nat.zero_add] using hb | simpa [length_enc8, List.length_map, List.length_append, List.length_cons, List.length_nil, List.length_set, List.length_replicate, List.length_take, List.length_drop, Nat.zero_add, chunk] using hb)
            conv => whnf
            refine Or.inl ?_
            conv => whnf
            obtain ⟨hg, h9⟩ := grd_e h9
            refine And.intro hg ?_
            conv => whnf
            obtain ⟨y_39, hy, h9⟩ := bind_e h9
            refine opt_i (api_Span.c y_39) (getE rfl hy) ?_
            conv => whnf
            obtain ⟨t86_41, h16, k16⟩ := bind_e h9
            refine Or.inr (joins_i True ((1, (AV.ptr 0 0 0)) :: ((3, (AV.int IntKind.i64 (((List.length (List.map api_Span.c a.Spans)) : Nat) : Int))) :: ((5, (AV.int IntKind.i64 i_33)) :: ((6, (AV.ptr 1 0 0)) :: ((86, (AV.bool t86_41)) :: []))))) ((0, (AO.rows false (((AV.int IntKind.i64 a.Groups) :: ((AV.int IntKind.i64 a.Last) :: ((AV.sl (List.map api_Span.c a.Spans)) :: ((AV.int IntKind.i64 a.Plan.Kind) :: ((AV.int IntKind.i64 a.Plan.Phase) :: ((AV.int IntKind.i64 a.Plan.Shard) :: ((AV.int IntKind.i64 a.Plan.Other) :: ((AV.int IntKind.i64 a.Plan.Group) :: ((AV.int IntKind.i64 a.Plan.Past) :: ((AV.int IntKind.i64 a.Plan.Epoch) :: ((AV.str a.Plan.Key) :: []))))))))))) :: []))) :: ((1, (AO.rows false (((AV.str y_39.From) :: ((AV.str y_39.To) :: ((AV.int IntKind.i64 y_39.Shard) :: ((AV.int IntKind.i64 y_39.Epoch) :: ((AV.int IntKind.i64 y_39.Group) :: []))))) :: []))) :: [])) 2 ?_ (fun _ => ?_))
            · conv => whnf
              refine Or.inl ?_
              conv => whnf
              refine brn_i (fun hb => ?_) (fun hb => ?_)
              · replace h16 := cond_t h16 hb
                conv => whnf
                obtain rfl := Option.some.inj h16
                exact end_i trivial [(0, 0), (1, 65)] rfl rfl rfl
              · replace h16 := cond_f h16 hb
                conv => whnf
                refine brn_i (fun hb => ?_) (fun hb => ?_)
                · replace h16 := cond_t h16 hb
                  conv => whnf
                  obtain rfl := Option.some.inj h16
                  exact end_i trivial [(0, 0), (1, 65)] rfl rfl rfl
                · replace h16 := cond_f h16 hb
                  conv => whnf
                  refine brn_i (fun hb => ?_) (fun hb => ?_)
                  · replace h16 := cond_t h16 hb
                    conv => whnf
                    obtain rfl := Option.some.inj h16
                    exact end_i trivial [(0, 0), (1, 65)] rfl rfl rfl
                  · replace h16 := cond_f h16 hb
                    conv => whnf
                    refine Or.inl ?_
                    conv => whnf
                    obtain ⟨y_42, hy, h16⟩ := bind_e h16
                    refine ⟨_, _, (matinsref19_Place_FC F a y_39.Shard y_42 hy), Or.inl ⟨rfl, rfl, ?_⟩⟩
                    conv => whnf
                    refine brn_i (fun hb => ?_) (fun hb => ?_)
                    · replace h16 := cond_t h16 hb
                      conv => whnf
                      obtain rfl := Option.some.inj h16
                      exact end_i trivial [(0, 0), (1, 65)] rfl rfl rfl
                    · replace h16 := cond_f h16 hb
                      conv => whnf
                      refine brn_i (fun hb => ?_) (fun hb => ?_)
                      · replace h16 := cond_t h16 hb
                        conv => whnf
                        obtain rfl := Option.some.inj h16
                        exact end_i trivial [(0, 0), (1, 65)] rfl rfl rfl
                      · replace h16 := cond_f h16 hb
                        conv => whnf
                        refine brn_i (fun hb => ?_) (fun hb => ?_)
                        · replace h16 := cond_t h16 hb
                          conv => whnf
                          obtain rfl := Option.some.inj h16
                          exact end_i trivial [(0, 0), (1, 65)] rfl rfl rfl
                        · replace h16 := cond_f h16 hb
                          conv => whnf
                          refine brn_i (fun hb => ?_) (fun hb => ?_)
                          · replace h16 := cond_t h16 hb
                            conv => whnf
                            obtain rfl := Option.some.inj h16
                            exact end_i trivial [(0, 0), (1, 65)] rfl rfl rfl
                          · replace h16 := cond_f h16 hb
                            conv => whnf
                            obtain rfl := Option.some.inj h16
                            exact end_i trivial [(0, 0), (1, 65)] rfl rfl rfl
            · conv => whnf
              refine Or.inl ?_
              conv => whnf
              refine brn_i (fun hb => ?_) (fun hb => ?_)
              · replace k16 := cond_t k16 hb
                conv => whnf
                obtain rfl := Option.some.inj k16
                obtain rfl := Option.some.inj (elim_l k9)
                exact rfl
              · replace k16 := cond_f k16 hb
                conv => whnf
                obtain ⟨t114_44, h17, k17⟩ := bind_e k16
                refine Or.inr (joins_i True ((1, (AV.ptr 0 0 0)) :: ((3, (AV.int IntKind.i64 (((List.length (List.map api_Span.c a.Spans)) : Nat) : Int))) :: ((5, (AV.int IntKind.i64 i_33)) :: ((6, (AV.ptr 1 0 0)) :: ((114, (AV.bool t114_44)) :: []))))) ((0, (AO.rows false (((AV.int IntKind.i64 a.Groups) :: ((AV.int IntKind.i64 a.Last) :: ((AV.sl (List.map api_Span.c a.Spans)) :: ((AV.int IntKind.i64 a.Plan.Kind) :: ((AV.int IntKind.i64 a.Plan.Phase) :: ((AV.int IntKind.i64 a.Plan.Shard) :: ((AV.int IntKind.i64 a.Plan.Other) :: ((AV.int IntKind.i64 a.Plan.Group) :: ((AV.int IntKind.i64 a.Plan.Past) :: ((AV.int IntKind.i64 a.Plan.Epoch) :: ((AV.str a.Plan.Key) :: []))))))))))) :: []))) :: ((1, (AO.rows false (((AV.str y_39.From) :: ((AV.str y_39.To) :: ((AV.int IntKind.i64 y_39.Shard) :: ((AV.int IntKind.i64 y_39.Epoch) :: ((AV.int IntKind.i64 y_39.Group) :: []))))) :: []))) :: [])) 2 ?_ (fun _ => ?_))
                · conv => whnf
                  refine Or.inl ?_
                  conv => whnf
                  refine brn_i (fun hb => ?_) (fun hb => ?_)
                  · replace h17 := cond_t h17 (by first | simpa only [length_enc8, List.length_map, List.length_append, List.length_cons, List.length_nil, List.length_set, List.length_replicate, List.length_take, List.length_drop, Nat.zero_add] using hb | simpa [length_enc8, List.length_map, List.length_append, List.length_cons, List.length_nil, List.length_set, List.length_replicate, List.length_take, List.length_drop, Nat.zero_add, chunk] using hb)
                    conv => whnf
                    refine Or.inl ?_
                    conv => whnf
                    obtain ⟨y_45, hy, h17⟩ := bind_e h17
                    refine ⟨_, _, (matinsref09_Named_FC F y_39.To y_45 hy), Or.inl ⟨rfl, rfl, ?_⟩⟩
                    conv => whnf
                    refine brn_i (fun hb => ?_) (fun hb => ?_)
                    · replace h17 := cond_t h17 hb
                      conv => whnf
                      obtain rfl := Option.some.inj h17
                      exact end_i trivial [(0, 0), (1, 1)] rfl rfl rfl
                    · replace h17 := cond_f h17 hb
                      conv => whnf
                      refine brn_i (fun hb => ?_) (fun hb => ?_)
                      · replace h17 := cond_t h17 hb
                        conv => whnf
                        obtain rfl := Option.some.inj h17
                        exact end_i trivial [(0, 0), (1, 1)] rfl rfl rfl
                      · replace h17 := cond_f h17 hb
                        conv => whnf
                        refine brn_i (fun hb => ?_) (fun hb => ?_)
                        · replace h17 := cond_t h17 (by first | simpa only [length_enc8, List.length_map, List.length_append, List.length_cons, List.length_nil, List.length_set, List.length_replicate, List.length_take, List.length_drop, Nat.zero_add] using hb | simpa [length_enc8, List.length_map, List.length_append, List.length_cons, List.length_nil, List.length_set, List.length_replicate, List.length_take, List.length_drop, Nat.zero_add, chunk] using hb)
                          conv => whnf
                          obtain rfl := Option.some.inj h17
                          exact end_i trivial [(0, 0), (1, 1)] rfl rfl rfl
                        · replace h17 := cond_f h17 (by first | simpa only [length_enc8, List.length_map, List.length_append, List.length_cons, List.length_nil, List.length_set, List.length_replicate, List.length_take, List.length_drop, Nat.zero_add] using hb | simpa [length_enc8, List.length_map, List.length_append, List.length_cons, List.length_nil, List.length_set, List.length_replicate, List.length_take, List.length_drop, Nat.zero_add, chunk] using hb)
                          conv => whnf
                          obtain rfl := Option.some.inj h17
                          exact end_i trivial [(0, 0), (1, 1)] rfl rfl rfl
                  · replace h17 := cond_f h17 (by first | simpa only [length_enc8, List.length_map, List.length_append, List.length_cons, List.length_nil, List.length_set, List.length_replicate, List.length_take, List.length_drop, Nat.zero_add] using hb | simpa [length_enc8, List.length_map, List.length_append, List.length_cons, List.length_nil, List.length_set, List.length_replicate, List.length_take, List.length_drop, Nat.zero_add, chunk] using hb)
                    conv => whnf
                    refine brn_i (fun hb => ?_) (fun hb => ?_)
                    · replace h17 := cond_t h17 (by first | simpa only [length_enc8, List.length_map, List.length_append, List.length_cons, List.length_nil, List.length_set, List.length_replicate, List.length_take, List.length_drop, Nat.zero_add] using hb | simpa [length_enc8, List.length_map, List.length_append, List.length_cons, List.length_nil, List.length_set, List.length_replicate, List.length_take, List.length_drop, Nat.zero_add, chunk] using hb)
                      conv => whnf
                      obtain rfl := Option.some.inj h17
                      exact end_i trivial [(0, 0), (1, 1)] rfl rfl rfl
                    · replace h17 := cond_f h17 (by first | simpa only [length_enc8, List.length_map, List.length_append, List.length_cons, List.length_nil, List.length_set, List.length_replicate, List.length_take, List.length_drop, Nat.zero_add] using hb | simpa [length_enc8, List.length_map, List.length_append, List.length_cons, List.length_nil, List.length_set, List.length_replicate, List.length_take, List.length_drop, Nat.zero_add, chunk] using hb)
                      conv => whnf
                      obtain rfl := Option.some.inj h17
                      exact end_i trivial [(0, 0), (1, 1)] rfl rfl rfl
                · conv => whnf
                  refine Or.inl ?_
                  conv => whnf
                  refine brn_i (fun hb => ?_) (fun hb => ?_)
                  · replace k17 := cond_t k17 hb
                    conv => whnf
                    obtain rfl := Option.some.inj k17
                    obtain rfl := Option.some.inj (elim_l k9)
                    exact rfl
                  · replace k17 := cond_f k17 hb
                    conv => whnf
                    exact round_i (n_31, y_39.To, (IntKind.wrap IntKind.i64 (i_33 + (1 : Int)))) [(0, 0)] k17 (Nat.lt_succ_self _) rfl rfl rfl
          · replace h9 := cond_f h9 (by first | simpa only [length_enc8, List.length_map, List.length_append, List.length_cons, List.length_nil, List.length_set, List.length_replicate, List.length_take, List.length_drop, Nat.zero_add] using hb | simpa [length_enc8, List.length_map, List.length_append, List.length_cons, List.length_nil, List.length_set, List.length_replicate, List.length_take, List.length_drop, Nat.zero_add, chunk] using hb)
            conv => whnf
            obtain rfl := Option.some.inj h9
            exact end_i rfl [] rfl rfl rfl
      · replace k9 := elim_e hR k9
        generalize outR o9 = v at k9 ⊢
        conv => whnf
        obtain rfl := Option.some.inj k9
        exact rfl

theorem matinsref19_move_FC (F : Nat) (a : api_Atlas) (s : api_Span) (r : Bool) (h : matinsref19_move F a s = some r) : FC Try.prog G0 32 [] [(.agg (api_Atlas.c a)), (.agg (api_Span.c s))] (.bool r) [] := by
  refine FC_of 2000 Try.func32 rfl (by kernel_rfl) mixed (by show 2 ≤ 94; decide) ?_
  unfold matinsref19_move at h
  conv => whnf
  obtain ⟨t46_0, h0, k0⟩ := bind_e h
  refine Or.inr (joins_i True ((3, (AV.ptr 0 0 0)) :: ((5, (AV.ptr 1 0 0)) :: ((46, (AV.bool t46_0)) :: []))) ((0, (AO.rows false (((AV.str s.From) :: ((AV.str s.To) :: ((AV.int IntKind.i64 s.Shard) :: ((AV.int IntKind.i64 s.Epoch) :: ((AV.int IntKind.i64 s.Group) :: []))))) :: []))) :: ((1, (AO.rows false (((AV.int IntKind.i64 a.Plan.Kind) :: ((AV.int IntKind.i64 a.Plan.Phase) :: ((AV.int IntKind.i64 a.Plan.Shard) :: ((AV.int IntKind.i64 a.Plan.Other) :: ((AV.int IntKind.i64 a.Plan.Group) :: ((AV.int IntKind.i64 a.Plan.Past) :: ((AV.int IntKind.i64 a.Plan.Epoch) :: ((AV.str a.Plan.Key) :: [])))))))) :: []))) :: [])) 2 ?_ (fun _ => ?_))
  · conv => whnf
    refine Or.inl ?_
    conv => whnf
    refine brn_i (fun hb => ?_) (fun hb => ?_)
    · replace h0 := cond_t h0 hb
      conv => whnf
      obtain rfl := Option.some.inj h0
      exact end_i trivial [(0, 16), (1, 48)] rfl rfl rfl
    · replace h0 := cond_f h0 hb
      conv => whnf
      refine brn_i (fun hb => ?_) (fun hb => ?_)
      · replace h0 := cond_t h0 hb
        conv => whnf
        obtain rfl := Option.some.inj h0
        exact end_i trivial [(0, 16), (1, 48)] rfl rfl rfl
      · replace h0 := cond_f h0 hb
        conv => whnf
        refine brn_i (fun hb => ?_) (fun hb => ?_)
        · replace h0 := cond_t h0 hb
          conv => whnf
          obtain rfl := Option.some.inj h0
          exact end_i trivial [(0, 16), (1, 48)] rfl rfl rfl
        · replace h0 := cond_f h0 hb
          conv => whnf
          refine brn_i (fun hb => ?_) (fun hb => ?_)
          · replace h0 := cond_t h0 hb
            conv => whnf
            obtain rfl := Option.some.inj h0
            exact end_i trivial [(0, 16), (1, 48)] rfl rfl rfl
          · replace h0 := cond_f h0 hb
            conv => whnf
            refine brn_i (fun hb => ?_) (fun hb => ?_)
            · replace h0 := cond_t h0 hb
              conv => whnf
              obtain rfl := Option.some.inj h0
              exact end_i trivial [(0, 16), (1, 48)] rfl rfl rfl
            · replace h0 := cond_f h0 hb
              conv => whnf
              refine brn_i (fun hb => ?_) (fun hb => ?_)
              · replace h0 := cond_t h0 hb
                conv => whnf
                obtain rfl := Option.some.inj h0
                exact end_i trivial [(0, 16), (1, 48)] rfl rfl rfl
              · replace h0 := cond_f h0 hb
                conv => whnf
                obtain rfl := Option.some.inj h0
                exact end_i trivial [(0, 16), (1, 48)] rfl rfl rfl
  · conv => whnf
    refine Or.inl ?_
    conv => whnf
    refine brn_i (fun hb => ?_) (fun hb => ?_)
    · replace k0 := cond_t k0 hb
      conv => whnf
      obtain rfl := Option.some.inj k0
      exact rfl
    · replace k0 := cond_f k0 hb
      conv => whnf
      refine Or.inl ?_
      conv => whnf
      refine Or.inl ?_
      conv => whnf
      refine brn_i (fun hb => ?_) (fun hb => ?_)
      · replace k0 := cond_t k0 hb
        conv => whnf
        refine Or.inl ?_
        conv => whnf
        refine brn_i (fun hb => ?_) (fun hb => ?_)
        · replace k0 := cond_t k0 hb
          conv => whnf
          obtain rfl := Option.some.inj k0
          exact rfl
        · replace k0 := cond_f k0 hb
          conv => whnf
          obtain rfl := Option.some.inj k0
          exact rfl
      · replace k0 := cond_f k0 hb
        conv => whnf
        obtain ⟨t63_2, h2, k2⟩ := bind_e k0
        refine Or.inr (joins_i True ((3, (AV.ptr 0 0 0)) :: ((5, (AV.ptr 1 0 0)) :: ((48, (AV.int IntKind.i64 a.Plan.Phase)) :: ((63, (AV.bool t63_2)) :: [])))) ((0, (AO.rows false (((AV.str s.From) :: ((AV.str s.To) :: ((AV.int IntKind.i64 s.Shard) :: ((AV.int IntKind.i64 s.Epoch) :: ((AV.int IntKind.i64 s.Group) :: []))))) :: []))) :: ((1, (AO.rows false (((AV.int IntKind.i64 a.Plan.Kind) :: ((AV.int IntKind.i64 a.Plan.Phase) :: ((AV.int IntKind.i64 a.Plan.Shard) :: ((AV.int IntKind.i64 a.Plan.Other) :: ((AV.int IntKind.i64 a.Plan.Group) :: ((AV.int IntKind.i64 a.Plan.Past) :: ((AV.int IntKind.i64 a.Plan.Epoch) :: ((AV.str a.Plan.Key) :: [])))))))) :: []))) :: [])) 2 ?_ (fun _ => ?_))
        · conv => whnf
          refine Or.inl ?_
          conv => whnf
          refine brn_i (fun hb => ?_) (fun hb => ?_)
          · replace h2 := cond_t h2 hb
            conv => whnf
            obtain rfl := Option.some.inj h2
            exact end_i trivial [(0, 0), (1, 1)] rfl rfl rfl
          · replace h2 := cond_f h2 hb
            conv => whnf
            obtain rfl := Option.some.inj h2
            exact end_i trivial [(0, 0), (1, 1)] rfl rfl rfl
        · conv => whnf
          refine Or.inl ?_
          conv => whnf
          refine brn_i (fun hb => ?_) (fun hb => ?_)
          · replace k2 := cond_t k2 hb
            conv => whnf
            refine Or.inl ?_
            conv => whnf
            refine brn_i (fun hb => ?_) (fun hb => ?_)
            · replace k2 := cond_t k2 hb
              conv => whnf
              obtain rfl := Option.some.inj k2
              exact rfl
            · replace k2 := cond_f k2 hb
              conv => whnf
              obtain rfl := Option.some.inj k2
              exact rfl
          · replace k2 := cond_f k2 hb
            conv => whnf
            refine Or.inl ?_
            conv => whnf
            refine brn_i (fun hb => ?_) (fun hb => ?_)
            · replace k2 := cond_t k2 hb
              conv => whnf
              refine Or.inl ?_
              conv => whnf
              refine brn_i (fun hb => ?_) (fun hb => ?_)
              · replace k2 := cond_t k2 hb
                conv => whnf
                obtain rfl := Option.some.inj k2
                exact rfl
              · replace k2 := cond_f k2 hb
                conv => whnf
                obtain rfl := Option.some.inj k2
                exact rfl
            · replace k2 := cond_f k2 hb
              conv => whnf
              obtain rfl := Option.some.inj k2
              exact rfl

theorem matinsref19_inside_FC (F : Nat) (s : api_Span) (key : (List UInt8)) (r : Bool) (h : matinsref19_inside F s key = some r) : FC Try.prog G0 33 [] [(.agg (api_Span.c s)), (.str key)] (.bool r) [] := by
  refine FC_of 2000 Try.func33 rfl (by kernel_rfl) mixed (by show 2 ≤ 24; decide) ?_
  unfold matinsref19_inside at h
  conv => whnf
  refine Or.inl ?_
  conv => whnf
  refine Or.inl ?_
  conv => whnf
  obtain ⟨y_0, hy, h⟩ := bind_e h
  refine ⟨_, _, (matinsref09_Named_FC F key y_0 hy), Or.inl ⟨rfl, rfl, ?_⟩⟩
  conv => whnf
  refine brn_i (fun hb => ?_) (fun hb => ?_)
  · replace h := cond_t h hb
    conv => whnf
    refine brn_i (fun hb => ?_) (fun hb => ?_)
    · replace h := cond_t h hb
      conv => whnf
      refine brn_i (fun hb => ?_) (fun hb => ?_)
      · replace h := cond_t h hb
        conv => whnf
        obtain rfl := Option.some.inj h
        exact rfl
      · replace h := cond_f h hb
        conv => whnf
        obtain rfl := Option.some.inj h
        exact rfl
    · replace h := cond_f h hb
      conv => whnf
      obtain rfl := Option.some.inj h
      exact rfl
  · replace h := cond_f h hb
    conv => whnf
    obtain rfl := Option.some.inj h
    exact rfl

theorem matinsref19_Check_FC (F : Nat) (a : api_Atlas) (r : Bool) (h : matinsref19_Check F a = some r) : FC Try.prog G0 18 [] [(.agg (api_Atlas.c a))] (.bool r) [] := by
  refine FC_of 2000 Try.func18 rfl (by kernel_rfl) mixed (by show 1 ≤ 168; decide) ?_
  unfold matinsref19_Check at h
  conv => whnf
  refine Or.inl ?_
  conv => whnf
  obtain ⟨y_0, hy, h⟩ := bind_e h
  refine ⟨_, _, (matinsref19_spans_FC F a y_0 hy), Or.inl ⟨rfl, rfl, ?_⟩⟩
  conv => whnf
  refine Or.inl ?_
  conv => whnf
  refine brn_i (fun hb => ?_) (fun hb => ?_)
  · replace h := cond_t h hb
    conv => whnf
    obtain rfl := Option.some.inj h
    exact rfl
  · replace h := cond_f h hb
    conv => whnf
    refine And.intro ⟨by kernel_rfl, _, rfl⟩ ?_
    conv => whnf
    refine Or.inl ?_
    conv => whnf
    refine brn_i (fun hb => ?_) (fun hb => ?_)
    · replace h := cond_t h hb
      conv => whnf
      obtain rfl := Option.some.inj h
      exact rfl
    · replace h := cond_f h hb
      conv => whnf
      refine Or.inl ?_
      conv => whnf
      obtain ⟨y_1, hy, h⟩ := bind_e h
      refine ⟨_, _, (matinsref19_Place_FC F a a.Plan.Shard y_1 hy), Or.inl ⟨rfl, rfl, ?_⟩⟩
      conv => whnf
      obtain ⟨t39_2, h0, k0⟩ := bind_e h
      refine Or.inr (joins_i True ((1, (AV.ptr 0 0 0)) :: ((3, (AV.ptr 1 0 0)) :: ((4, (AV.int IntKind.i64 y_1)) :: ((39, (AV.bool t39_2)) :: [])))) ((0, (AO.rows false (((AV.int IntKind.i64 a.Groups) :: ((AV.int IntKind.i64 a.Last) :: ((AV.sl (List.map api_Span.c a.Spans)) :: ((AV.int IntKind.i64 a.Plan.Kind) :: ((AV.int IntKind.i64 a.Plan.Phase) :: ((AV.int IntKind.i64 a.Plan.Shard) :: ((AV.int IntKind.i64 a.Plan.Other) :: ((AV.int IntKind.i64 a.Plan.Group) :: ((AV.int IntKind.i64 a.Plan.Past) :: ((AV.int IntKind.i64 a.Plan.Epoch) :: ((AV.str a.Plan.Key) :: []))))))))))) :: []))) :: ((1, (AO.rows false (((AV.int IntKind.i64 a.Plan.Kind) :: ((AV.int IntKind.i64 a.Plan.Phase) :: ((AV.int IntKind.i64 a.Plan.Shard) :: ((AV.int IntKind.i64 a.Plan.Other) :: ((AV.int IntKind.i64 a.Plan.Group) :: ((AV.int IntKind.i64 a.Plan.Past) :: ((AV.int IntKind.i64 a.Plan.Epoch) :: ((AV.str a.Plan.Key) :: [])))))))) :: []))) :: [])) 2 ?_ (fun _ => ?_))
      · conv => whnf
        refine Or.inl ?_
        conv => whnf
        refine brn_i (fun hb => ?_) (fun hb => ?_)
        · replace h0 := cond_t h0 hb
          conv => whnf
          obtain rfl := Option.some.inj h0
          exact end_i trivial [(0, 8), (1, 64)] rfl rfl rfl
        · replace h0 := cond_f h0 hb
          conv => whnf
          refine brn_i (fun hb => ?_) (fun hb => ?_)
          · replace h0 := cond_t h0 hb
            conv => whnf
            obtain rfl := Option.some.inj h0
            exact end_i trivial [(0, 8), (1, 64)] rfl rfl rfl
          · replace h0 := cond_f h0 hb
            conv => whnf
            refine brn_i (fun hb => ?_) (fun hb => ?_)
            · replace h0 := cond_t h0 hb
              conv => whnf
              obtain rfl := Option.some.inj h0
              exact end_i trivial [(0, 8), (1, 64)] rfl rfl rfl
            · replace h0 := cond_f h0 hb
              conv => whnf
              refine brn_i (fun hb => ?_) (fun hb => ?_)
              · replace h0 := cond_t h0 hb
                conv => whnf
                obtain rfl := Option.some.inj h0
                exact end_i trivial [(0, 8), (1, 64)] rfl rfl rfl
              · replace h0 := cond_f h0 hb
                conv => whnf
                obtain rfl := Option.some.inj h0
                exact end_i trivial [(0, 8), (1, 64)] rfl rfl rfl
      · conv => whnf
        refine Or.inl ?_
        conv => whnf
        refine brn_i (fun hb => ?_) (fun hb => ?_)
        · replace k0 := cond_t k0 hb
          conv => whnf
          obtain rfl := Option.some.inj k0
          exact rfl
        · replace k0 := cond_f k0 hb
          conv => whnf
          obtain ⟨hg, k0⟩ := grd_e k0
          refine And.intro hg ?_
          conv => whnf
          obtain ⟨y_3, hy, k0⟩ := bind_e k0
          refine opt_i (api_Span.c y_3) (getE rfl hy) ?_
          conv => whnf
          refine Or.inl ?_
          conv => whnf
          refine brn_i (fun hb => ?_) (fun hb => ?_)
          · replace k0 := cond_t k0 hb
            conv => whnf
            refine Or.inl ?_
            conv => whnf
            obtain ⟨y_4, hy, k0⟩ := bind_e k0
            refine ⟨_, _, (matinsref19_move_FC F a y_3 y_4 hy), Or.inl ⟨rfl, rfl, ?_⟩⟩
            conv => whnf
            obtain rfl := Option.some.inj k0
            exact rfl
          · replace k0 := cond_f k0 hb
            conv => whnf
            obtain ⟨t95_5, h1, k1⟩ := bind_e k0
            refine Or.inr (joins_i True ((1, (AV.ptr 0 0 0)) :: ((3, (AV.ptr 1 0 0)) :: ((4, (AV.int IntKind.i64 y_1)) :: ((5, (AV.ptr 2 0 0)) :: ((95, (AV.bool t95_5)) :: []))))) ((0, (AO.rows false (((AV.int IntKind.i64 a.Groups) :: ((AV.int IntKind.i64 a.Last) :: ((AV.sl (List.map api_Span.c a.Spans)) :: ((AV.int IntKind.i64 a.Plan.Kind) :: ((AV.int IntKind.i64 a.Plan.Phase) :: ((AV.int IntKind.i64 a.Plan.Shard) :: ((AV.int IntKind.i64 a.Plan.Other) :: ((AV.int IntKind.i64 a.Plan.Group) :: ((AV.int IntKind.i64 a.Plan.Past) :: ((AV.int IntKind.i64 a.Plan.Epoch) :: ((AV.str a.Plan.Key) :: []))))))))))) :: []))) :: ((1, (AO.rows false (((AV.int IntKind.i64 a.Plan.Kind) :: ((AV.int IntKind.i64 a.Plan.Phase) :: ((AV.int IntKind.i64 a.Plan.Shard) :: ((AV.int IntKind.i64 a.Plan.Other) :: ((AV.int IntKind.i64 a.Plan.Group) :: ((AV.int IntKind.i64 a.Plan.Past) :: ((AV.int IntKind.i64 a.Plan.Epoch) :: ((AV.str a.Plan.Key) :: [])))))))) :: []))) :: ((2, (AO.rows false (((AV.str y_3.From) :: ((AV.str y_3.To) :: ((AV.int IntKind.i64 y_3.Shard) :: ((AV.int IntKind.i64 y_3.Epoch) :: ((AV.int IntKind.i64 y_3.Group) :: []))))) :: []))) :: []))) 3 ?_ (fun _ => ?_))
            · conv => whnf
              refine Or.inl ?_
              conv => whnf
              refine brn_i (fun hb => ?_) (fun hb => ?_)
              · replace h1 := cond_t h1 hb
                conv => whnf
                obtain rfl := Option.some.inj h1
                exact end_i trivial [(0, 0), (1, 1), (2, 42)] rfl rfl rfl
              · replace h1 := cond_f h1 hb
                conv => whnf
                refine brn_i (fun hb => ?_) (fun hb => ?_)
                · replace h1 := cond_t h1 hb
                  conv => whnf
                  obtain rfl := Option.some.inj h1
                  exact end_i trivial [(0, 0), (1, 1), (2, 42)] rfl rfl rfl
                · replace h1 := cond_f h1 hb
                  conv => whnf
                  refine brn_i (fun hb => ?_) (fun hb => ?_)
                  · replace h1 := cond_t h1 hb
                    conv => whnf
                    refine brn_i (fun hb => ?_) (fun hb => ?_)
                    · replace h1 := cond_t h1 hb
                      conv => whnf
                      obtain rfl := Option.some.inj h1
                      exact end_i trivial [(0, 0), (1, 1), (2, 42)] rfl rfl rfl
                    · replace h1 := cond_f h1 hb
                      conv => whnf
                      refine brn_i (fun hb => ?_) (fun hb => ?_)
                      · cases (cond_t h1 hb)
                      · replace h1 := cond_f h1 hb
                        conv => whnf
                        refine brn_i (fun hb => ?_) (fun hb => ?_)
                        · replace h1 := cond_t h1 hb
                          conv => whnf
                          obtain rfl := Option.some.inj h1
                          exact end_i trivial [(0, 0), (1, 1), (2, 42)] rfl rfl rfl
                        · cases (cond_f h1 hb)
                  · replace h1 := cond_f h1 hb
                    conv => whnf
                    refine brn_i (fun hb => ?_) (fun hb => ?_)
                    · replace h1 := cond_t h1 hb
                      conv => whnf
                      refine brn_i (fun hb => ?_) (fun hb => ?_)
                      · replace h1 := cond_t h1 hb
                        conv => whnf
                        obtain rfl := Option.some.inj h1
                        exact end_i trivial [(0, 0), (1, 1), (2, 42)] rfl rfl rfl
                      · replace h1 := cond_f h1 hb
                        conv => whnf
                        refine brn_i (fun hb => ?_) (fun hb => ?_)
                        · cases (cond_t h1 hb)
                        · replace h1 := cond_f h1 hb
                          conv => whnf
                          obtain rfl := Option.some.inj h1
                          exact end_i trivial [(0, 0), (1, 1), (2, 42)] rfl rfl rfl
                    · cases (cond_f h1 hb)
            · conv => whnf
              refine Or.inl ?_
              conv => whnf
              refine brn_i (fun hb => ?_) (fun hb => ?_)
              · replace k1 := cond_t k1 hb
                conv => whnf
                obtain rfl := Option.some.inj k1
                exact rfl
              · replace k1 := cond_f k1 hb
                conv => whnf
                refine Or.inl ?_
                conv => whnf
                refine brn_i (fun hb => ?_) (fun hb => ?_)
                · replace k1 := cond_t k1 hb
                  conv => whnf
                  refine Or.inl ?_
                  conv => whnf
                  refine brn_i (fun hb => ?_) (fun hb => ?_)
                  · replace k1 := cond_t k1 hb
                    conv => whnf
                    refine Or.inl ?_
                    conv => whnf
                    obtain ⟨y_6, hy, k1⟩ := bind_e k1
                    refine ⟨_, _, (matinsref19_Place_FC F a a.Plan.Other y_6 hy), Or.inl ⟨rfl, rfl, ?_⟩⟩
                    conv => whnf
                    refine brn_i (fun hb => ?_) (fun hb => ?_)
                    · replace k1 := cond_t k1 hb
                      conv => whnf
                      refine Or.inl ?_
                      conv => whnf
                      obtain ⟨y_7, hy, k1⟩ := bind_e k1
                      refine ⟨_, _, (matinsref19_inside_FC F y_3 a.Plan.Key y_7 hy), Or.inl ⟨rfl, rfl, ?_⟩⟩
                      conv => whnf
                      refine brn_i (fun hb => ?_) (fun hb => ?_)
                      · replace k1 := cond_t k1 hb
                        conv => whnf
                        obtain rfl := Option.some.inj k1
                        exact rfl
                      · replace k1 := cond_f k1 hb
                        conv => whnf
                        obtain rfl := Option.some.inj k1
                        exact rfl
                    · replace k1 := cond_f k1 hb
                      conv => whnf
                      obtain rfl := Option.some.inj k1
                      exact rfl
                  · replace k1 := cond_f k1 hb
                    conv => whnf
                    obtain rfl := Option.some.inj k1
                    exact rfl
                · replace k1 := cond_f k1 hb
                  conv => whnf
                  refine Or.inl ?_
                  conv => whnf
                  refine brn_i (fun hb => ?_) (fun hb => ?_)
                  · replace k1 := cond_t k1 hb
                    conv => whnf
                    refine brn_i (fun hb => ?_) (fun hb => ?_)
                    · replace k1 := cond_t k1 (by first | simpa only [length_enc8, List.length_map, List.length_append, List.length_cons, List.length_nil, List.length_set, List.length_replicate, List.length_take, List.length_drop, Nat.zero_add] using hb | simpa [length_enc8, List.length_map, List.length_append, List.length_cons, List.length_nil, List.length_set, List.length_replicate, List.length_take, List.length_drop, Nat.zero_add, chunk] using hb)
                      conv => whnf
                      obtain ⟨hg, k1⟩ := grd_e k1
                      refine And.intro hg ?_
                      conv => whnf
                      obtain ⟨y_8, hy, k1⟩ := bind_e k1
                      refine opt_i (api_Span.c y_8) (getE rfl hy) ?_
                      conv => whnf
                      refine brn_i (fun hb => ?_) (fun hb => ?_)
                      · replace k1 := cond_t k1 hb
                        conv => whnf
                        obtain ⟨hg, k1⟩ := grd_e k1
                        refine And.intro hg ?_
                        conv => whnf
                        obtain ⟨y_9, hy, k1⟩ := bind_e k1
                        refine opt_i (api_Span.c y_9) (getE rfl hy) ?_
                        conv => whnf
                        refine brn_i (fun hb => ?_) (fun hb => ?_)
                        · replace k1 := cond_t k1 hb
                          conv => whnf
                          obtain ⟨hg, k1⟩ := grd_e k1
                          refine And.intro hg ?_
                          conv => whnf
                          obtain ⟨y_10, hy, k1⟩ := bind_e k1
                          refine opt_i (api_Span.c y_10) (getE rfl hy) ?_
                          conv => whnf
                          refine And.intro (by kernel_rfl) ?_
                          conv => whnf
                          obtain rfl := Option.some.inj k1
                          exact rfl
                        · replace k1 := cond_f k1 hb
                          conv => whnf
                          refine And.intro (by kernel_rfl) ?_
                          conv => whnf
                          obtain rfl := Option.some.inj k1
                          exact rfl
                      · replace k1 := cond_f k1 hb
                        conv => whnf
                        refine And.intro (by kernel_rfl) ?_
                        conv => whnf
                        obtain rfl := Option.some.inj k1
                        exact rfl
                    · replace k1 := cond_f k1 (by first | simpa only [length_enc8, List.length_map, List.length_append, List.length_cons, List.length_nil, List.length_set, List.length_replicate, List.length_take, List.length_drop, Nat.zero_add] using hb | simpa [length_enc8, List.length_map, List.length_append, List.length_cons, List.length_nil, List.length_set, List.length_replicate, List.length_take, List.length_drop, Nat.zero_add, chunk] using hb)
                      conv => whnf
                      refine And.intro (by kernel_rfl) ?_
                      conv => whnf
                      obtain rfl := Option.some.inj k1
                      exact rfl
                  · replace k1 := cond_f k1 hb
                    conv => whnf
                    refine And.intro (by kernel_rfl) ?_
                    conv => whnf
                    obtain rfl := Option.some.inj k1
                    exact rfl

theorem matinsref20_Has_FC (F : Nat) (p : api_Plan) (have_ : api_Shard) (r : Bool) (h : matinsref20_Has F p have_ = some r) : FC Try.prog G0 19 [] [(.agg (api_Plan.c p)), (.agg (api_Shard.c have_))] (.bool r) [] := by
  refine FC_of 2000 Try.func19 rfl (by kernel_rfl) mixed (by show 2 ≤ 17; decide) ?_
  unfold matinsref20_Has at h
  conv => whnf
  refine Or.inl ?_
  conv => whnf
  refine brn_i (fun hb => ?_) (fun hb => ?_)
  · replace h := cond_t h hb
    conv => whnf
    obtain rfl := Option.some.inj h
    exact rfl
  · replace h := cond_f h hb
    conv => whnf
    obtain rfl := Option.some.inj h
    exact rfl

theorem matinsref20_Next_FC (F : Nat) (a : api_Atlas) (have_ : api_Shard) (r : (Int × api_Order × Bool)) (h : matinsref20_Next F a have_ = some r) : FC Try.prog G0 6 [] [(.agg (api_Atlas.c a)), (.agg (api_Shard.c have_))] (.tup [(.int IntKind.i64 r.1), (.agg (api_Order.c r.2.1)), (.bool r.2.2)]) [] := by
  refine FC_of 2000 Try.func6 rfl (by kernel_rfl) mixed (by show 2 ≤ 180; decide) ?_
  unfold matinsref20_Next at h
  conv => whnf
  obtain ⟨t20_1, h0, k0⟩ := bind_e h
  refine Or.inr (joins_i True ((2, (AV.ptr 0 0 0)) :: ((3, (AV.ptr 1 0 0)) :: ((5, (AV.ptr 2 0 0)) :: ((20, (AV.bool t20_1)) :: [])))) ((0, (AO.rows false (((AV.int IntKind.i64 a.Groups) :: ((AV.int IntKind.i64 a.Last) :: ((AV.sl (List.map api_Span.c a.Spans)) :: ((AV.int IntKind.i64 a.Plan.Kind) :: ((AV.int IntKind.i64 a.Plan.Phase) :: ((AV.int IntKind.i64 a.Plan.Shard) :: ((AV.int IntKind.i64 a.Plan.Other) :: ((AV.int IntKind.i64 a.Plan.Group) :: ((AV.int IntKind.i64 a.Plan.Past) :: ((AV.int IntKind.i64 a.Plan.Epoch) :: ((AV.str a.Plan.Key) :: []))))))))))) :: []))) :: ((1, (AO.rows false (((AV.int IntKind.i64 have_.Id) :: ((AV.int IntKind.i64 have_.Epoch) :: ((AV.int IntKind.i64 have_.State) :: ((AV.str have_.From) :: ((AV.str have_.To) :: ((AV.sl (List.map api_Job.c have_.Jobs)) :: ((AV.sl (List.map api_Seen.c have_.Seen)) :: []))))))) :: []))) :: ((2, (AO.rows false (((AV.int IntKind.i64 (0 : Int)) :: ((AV.int IntKind.i64 (0 : Int)) :: ((AV.int IntKind.i64 (0 : Int)) :: ((AV.int IntKind.i64 (0 : Int)) :: ((AV.int IntKind.i64 (0 : Int)) :: ((AV.str ([] : List UInt8)) :: ((AV.int IntKind.i64 (0 : Int)) :: ((AV.int IntKind.i64 (0 : Int)) :: ((AV.int IntKind.i64 (0 : Int)) :: ((AV.str ([] : List UInt8)) :: ((AV.str ([] : List UInt8)) :: ((AV.str ([] : List UInt8)) :: ((AV.str ([] : List UInt8)) :: ((AV.int IntKind.i64 (0 : Int)) :: ((AV.int IntKind.i64 (0 : Int)) :: ((AV.int IntKind.i64 (0 : Int)) :: ((AV.int IntKind.i64 (0 : Int)) :: ((AV.str ([] : List UInt8)) :: ((AV.str ([] : List UInt8)) :: (AV.esl :: (AV.esl :: []))))))))))))))))))))) :: []))) :: []))) 3 ?_ (fun _ => ?_))
  · conv => whnf
    refine Or.inl ?_
    conv => whnf
    refine Or.inl ?_
    conv => whnf
    obtain ⟨y_2, hy, h0⟩ := bind_e h0
    refine ⟨_, _, (matinsref19_Check_FC F a y_2 hy), Or.inl ⟨rfl, rfl, ?_⟩⟩
    conv => whnf
    refine brn_i (fun hb => ?_) (fun hb => ?_)
    · replace h0 := cond_t h0 hb
      conv => whnf
      obtain rfl := Option.some.inj h0
      exact end_i trivial [(0, 8), (1, 16), (2, 32)] rfl rfl rfl
    · replace h0 := cond_f h0 hb
      conv => whnf
      obtain rfl := Option.some.inj h0
      exact end_i trivial [(0, 8), (1, 16), (2, 32)] rfl rfl rfl
  · conv => whnf
    refine Or.inl ?_
    conv => whnf
    refine brn_i (fun hb => ?_) (fun hb => ?_)
    · replace k0 := cond_t k0 hb
      conv => whnf
      obtain rfl := Option.some.inj k0
      exact rfl
    · replace k0 := cond_f k0 hb
      conv => whnf
      obtain ⟨owner_3, h1, k1⟩ := bind_e k0
      refine Or.inr (joins_i True ((2, (AV.ptr 0 0 0)) :: ((3, (AV.ptr 1 0 0)) :: ((5, (AV.ptr 2 0 0)) :: ((7, (AV.ptr 3 0 0)) :: ((8, (AV.int IntKind.i64 owner_3)) :: []))))) ((0, (AO.rows false (((AV.int IntKind.i64 a.Groups) :: ((AV.int IntKind.i64 a.Last) :: ((AV.sl (List.map api_Span.c a.Spans)) :: ((AV.int IntKind.i64 a.Plan.Kind) :: ((AV.int IntKind.i64 a.Plan.Phase) :: ((AV.int IntKind.i64 a.Plan.Shard) :: ((AV.int IntKind.i64 a.Plan.Other) :: ((AV.int IntKind.i64 a.Plan.Group) :: ((AV.int IntKind.i64 a.Plan.Past) :: ((AV.int IntKind.i64 a.Plan.Epoch) :: ((AV.str a.Plan.Key) :: []))))))))))) :: []))) :: ((1, (AO.rows false (((AV.int IntKind.i64 have_.Id) :: ((AV.int IntKind.i64 have_.Epoch) :: ((AV.int IntKind.i64 have_.State) :: ((AV.str have_.From) :: ((AV.str have_.To) :: ((AV.sl (List.map api_Job.c have_.Jobs)) :: ((AV.sl (List.map api_Seen.c have_.Seen)) :: []))))))) :: []))) :: ((2, (AO.rows false (((AV.int IntKind.i64 (0 : Int)) :: ((AV.int IntKind.i64 (0 : Int)) :: ((AV.int IntKind.i64 (0 : Int)) :: ((AV.int IntKind.i64 (0 : Int)) :: ((AV.int IntKind.i64 (0 : Int)) :: ((AV.str ([] : List UInt8)) :: ((AV.int IntKind.i64 (0 : Int)) :: ((AV.int IntKind.i64 (0 : Int)) :: ((AV.int IntKind.i64 (0 : Int)) :: ((AV.str ([] : List UInt8)) :: ((AV.str ([] : List UInt8)) :: ((AV.str ([] : List UInt8)) :: ((AV.str ([] : List UInt8)) :: ((AV.int IntKind.i64 (0 : Int)) :: ((AV.int IntKind.i64 (0 : Int)) :: ((AV.int IntKind.i64 (0 : Int)) :: ((AV.int IntKind.i64 (0 : Int)) :: ((AV.str ([] : List UInt8)) :: ((AV.str ([] : List UInt8)) :: (AV.esl :: (AV.esl :: []))))))))))))))))))))) :: []))) :: ((3, (AO.rows false (((AV.int IntKind.i64 a.Plan.Kind) :: ((AV.int IntKind.i64 a.Plan.Phase) :: ((AV.int IntKind.i64 a.Plan.Shard) :: ((AV.int IntKind.i64 a.Plan.Other) :: ((AV.int IntKind.i64 a.Plan.Group) :: ((AV.int IntKind.i64 a.Plan.Past) :: ((AV.int IntKind.i64 a.Plan.Epoch) :: ((AV.str a.Plan.Key) :: [])))))))) :: []))) :: [])))) 4 ?_ (fun _ => ?_))
      · conv => whnf
        refine Or.inl ?_
        conv => whnf
        refine brn_i (fun hb => ?_) (fun hb => ?_)
        · replace h1 := cond_t h1 hb
          conv => whnf
          obtain rfl := Option.some.inj h1
          exact end_i trivial [(0, 0), (1, 1), (2, 2), (3, 19)] rfl rfl rfl
        · replace h1 := cond_f h1 hb
          conv => whnf
          obtain rfl := Option.some.inj h1
          exact end_i trivial [(0, 0), (1, 1), (2, 2), (3, 19)] rfl rfl rfl
      · conv => whnf
        obtain ⟨t48_5, h2, k2⟩ := bind_e k1
        refine Or.inr (joins_i True ((2, (AV.ptr 0 0 0)) :: ((3, (AV.ptr 1 0 0)) :: ((5, (AV.ptr 2 0 0)) :: ((7, (AV.ptr 3 0 0)) :: ((8, (AV.int IntKind.i64 owner_3)) :: ((48, (AV.bool t48_5)) :: [])))))) ((0, (AO.rows false (((AV.int IntKind.i64 a.Groups) :: ((AV.int IntKind.i64 a.Last) :: ((AV.sl (List.map api_Span.c a.Spans)) :: ((AV.int IntKind.i64 a.Plan.Kind) :: ((AV.int IntKind.i64 a.Plan.Phase) :: ((AV.int IntKind.i64 a.Plan.Shard) :: ((AV.int IntKind.i64 a.Plan.Other) :: ((AV.int IntKind.i64 a.Plan.Group) :: ((AV.int IntKind.i64 a.Plan.Past) :: ((AV.int IntKind.i64 a.Plan.Epoch) :: ((AV.str a.Plan.Key) :: []))))))))))) :: []))) :: ((1, (AO.rows false (((AV.int IntKind.i64 have_.Id) :: ((AV.int IntKind.i64 have_.Epoch) :: ((AV.int IntKind.i64 have_.State) :: ((AV.str have_.From) :: ((AV.str have_.To) :: ((AV.sl (List.map api_Job.c have_.Jobs)) :: ((AV.sl (List.map api_Seen.c have_.Seen)) :: []))))))) :: []))) :: ((2, (AO.rows false (((AV.int IntKind.i64 (0 : Int)) :: ((AV.int IntKind.i64 (0 : Int)) :: ((AV.int IntKind.i64 (0 : Int)) :: ((AV.int IntKind.i64 (0 : Int)) :: ((AV.int IntKind.i64 (0 : Int)) :: ((AV.str ([] : List UInt8)) :: ((AV.int IntKind.i64 (0 : Int)) :: ((AV.int IntKind.i64 (0 : Int)) :: ((AV.int IntKind.i64 (0 : Int)) :: ((AV.str ([] : List UInt8)) :: ((AV.str ([] : List UInt8)) :: ((AV.str ([] : List UInt8)) :: ((AV.str ([] : List UInt8)) :: ((AV.int IntKind.i64 (0 : Int)) :: ((AV.int IntKind.i64 (0 : Int)) :: ((AV.int IntKind.i64 (0 : Int)) :: ((AV.int IntKind.i64 (0 : Int)) :: ((AV.str ([] : List UInt8)) :: ((AV.str ([] : List UInt8)) :: (AV.esl :: (AV.esl :: []))))))))))))))))))))) :: []))) :: ((3, (AO.rows false (((AV.int IntKind.i64 a.Plan.Kind) :: ((AV.int IntKind.i64 a.Plan.Phase) :: ((AV.int IntKind.i64 a.Plan.Shard) :: ((AV.int IntKind.i64 a.Plan.Other) :: ((AV.int IntKind.i64 a.Plan.Group) :: ((AV.int IntKind.i64 a.Plan.Past) :: ((AV.int IntKind.i64 a.Plan.Epoch) :: ((AV.str a.Plan.Key) :: [])))))))) :: []))) :: [])))) 4 ?_ (fun _ => ?_))
        · conv => whnf
          refine Or.inl ?_
          conv => whnf
          refine brn_i (fun hb => ?_) (fun hb => ?_)
          · replace h2 := cond_t h2 hb
            conv => whnf
            refine brn_i (fun hb => ?_) (fun hb => ?_)
            · replace h2 := cond_t h2 hb
              conv => whnf
              refine Or.inl ?_
              conv => whnf
              obtain ⟨y_6, hy, h2⟩ := bind_e h2
              refine ⟨_, _, (matinsref20_Has_FC F a.Plan have_ y_6 hy), Or.inl ⟨rfl, rfl, ?_⟩⟩
              conv => whnf
              refine brn_i (fun hb => ?_) (fun hb => ?_)
              · replace h2 := cond_t h2 hb
                conv => whnf
                obtain rfl := Option.some.inj h2
                exact end_i trivial [(0, 0), (1, 1), (2, 2), (3, 3)] rfl rfl rfl
              · replace h2 := cond_f h2 hb
                conv => whnf
                obtain rfl := Option.some.inj h2
                exact end_i trivial [(0, 0), (1, 1), (2, 2), (3, 3)] rfl rfl rfl
            · replace h2 := cond_f h2 hb
              conv => whnf
              obtain rfl := Option.some.inj h2
              exact end_i trivial [(0, 0), (1, 1), (2, 2), (3, 3)] rfl rfl rfl
          · replace h2 := cond_f h2 hb
            conv => whnf
            obtain rfl := Option.some.inj h2
            exact end_i trivial [(0, 0), (1, 1), (2, 2), (3, 3)] rfl rfl rfl
        · conv => whnf
          refine Or.inl ?_
          conv => whnf
          refine brn_i (fun hb => ?_) (fun hb => ?_)
          · replace k2 := cond_t k2 hb
            conv => whnf
            refine And.intro (by kernel_rfl) ?_
            conv => whnf
            obtain rfl := Option.some.inj k2
            exact rfl
          · replace k2 := cond_f k2 hb
            conv => whnf
            obtain ⟨t64_8, h3, k3⟩ := bind_e k2
            refine Or.inr (joins_i True ((2, (AV.ptr 0 0 0)) :: ((3, (AV.ptr 1 0 0)) :: ((5, (AV.ptr 2 0 0)) :: ((7, (AV.ptr 3 0 0)) :: ((8, (AV.int IntKind.i64 owner_3)) :: ((64, (AV.bool t64_8)) :: [])))))) ((0, (AO.rows false (((AV.int IntKind.i64 a.Groups) :: ((AV.int IntKind.i64 a.Last) :: ((AV.sl (List.map api_Span.c a.Spans)) :: ((AV.int IntKind.i64 a.Plan.Kind) :: ((AV.int IntKind.i64 a.Plan.Phase) :: ((AV.int IntKind.i64 a.Plan.Shard) :: ((AV.int IntKind.i64 a.Plan.Other) :: ((AV.int IntKind.i64 a.Plan.Group) :: ((AV.int IntKind.i64 a.Plan.Past) :: ((AV.int IntKind.i64 a.Plan.Epoch) :: ((AV.str a.Plan.Key) :: []))))))))))) :: []))) :: ((1, (AO.rows false (((AV.int IntKind.i64 have_.Id) :: ((AV.int IntKind.i64 have_.Epoch) :: ((AV.int IntKind.i64 have_.State) :: ((AV.str have_.From) :: ((AV.str have_.To) :: ((AV.sl (List.map api_Job.c have_.Jobs)) :: ((AV.sl (List.map api_Seen.c have_.Seen)) :: []))))))) :: []))) :: ((2, (AO.rows false (((AV.int IntKind.i64 (0 : Int)) :: ((AV.int IntKind.i64 (0 : Int)) :: ((AV.int IntKind.i64 (0 : Int)) :: ((AV.int IntKind.i64 (0 : Int)) :: ((AV.int IntKind.i64 (0 : Int)) :: ((AV.str ([] : List UInt8)) :: ((AV.int IntKind.i64 (0 : Int)) :: ((AV.int IntKind.i64 (0 : Int)) :: ((AV.int IntKind.i64 (0 : Int)) :: ((AV.str ([] : List UInt8)) :: ((AV.str ([] : List UInt8)) :: ((AV.str ([] : List UInt8)) :: ((AV.str ([] : List UInt8)) :: ((AV.int IntKind.i64 (0 : Int)) :: ((AV.int IntKind.i64 (0 : Int)) :: ((AV.int IntKind.i64 (0 : Int)) :: ((AV.int IntKind.i64 (0 : Int)) :: ((AV.str ([] : List UInt8)) :: ((AV.str ([] : List UInt8)) :: (AV.esl :: (AV.esl :: []))))))))))))))))))))) :: []))) :: ((3, (AO.rows false (((AV.int IntKind.i64 a.Plan.Kind) :: ((AV.int IntKind.i64 a.Plan.Phase) :: ((AV.int IntKind.i64 a.Plan.Shard) :: ((AV.int IntKind.i64 a.Plan.Other) :: ((AV.int IntKind.i64 a.Plan.Group) :: ((AV.int IntKind.i64 a.Plan.Past) :: ((AV.int IntKind.i64 a.Plan.Epoch) :: ((AV.str a.Plan.Key) :: [])))))))) :: []))) :: [])))) 4 ?_ (fun _ => ?_))
            · conv => whnf
              refine Or.inl ?_
              conv => whnf
              refine brn_i (fun hb => ?_) (fun hb => ?_)
              · replace h3 := cond_t h3 hb
                conv => whnf
                refine Or.inl ?_
                conv => whnf
                obtain ⟨y_9, hy, h3⟩ := bind_e h3
                refine ⟨_, _, (matinsref20_Has_FC F a.Plan have_ y_9 hy), Or.inl ⟨rfl, rfl, ?_⟩⟩
                conv => whnf
                obtain rfl := Option.some.inj h3
                exact end_i trivial [(0, 0), (1, 1), (2, 2), (3, 3)] rfl rfl rfl
              · replace h3 := cond_f h3 hb
                conv => whnf
                obtain rfl := Option.some.inj h3
                exact end_i trivial [(0, 0), (1, 1), (2, 2), (3, 3)] rfl rfl rfl
            · conv => whnf
              refine Or.inl ?_
              conv => whnf
              refine brn_i (fun hb => ?_) (fun hb => ?_)
              · replace k3 := cond_t k3 hb
                conv => whnf
                refine And.intro (by kernel_rfl) ?_
                conv => whnf
                obtain rfl := Option.some.inj k3
                exact rfl
              · replace k3 := cond_f k3 hb
                conv => whnf
                obtain ⟨t92_11, h4, k4⟩ := bind_e k3
                refine Or.inr (joins_i True ((2, (AV.ptr 0 0 0)) :: ((3, (AV.ptr 1 0 0)) :: ((5, (AV.ptr 2 0 0)) :: ((7, (AV.ptr 3 0 0)) :: ((8, (AV.int IntKind.i64 owner_3)) :: ((92, (AV.bool t92_11)) :: [])))))) ((0, (AO.rows false (((AV.int IntKind.i64 a.Groups) :: ((AV.int IntKind.i64 a.Last) :: ((AV.sl (List.map api_Span.c a.Spans)) :: ((AV.int IntKind.i64 a.Plan.Kind) :: ((AV.int IntKind.i64 a.Plan.Phase) :: ((AV.int IntKind.i64 a.Plan.Shard) :: ((AV.int IntKind.i64 a.Plan.Other) :: ((AV.int IntKind.i64 a.Plan.Group) :: ((AV.int IntKind.i64 a.Plan.Past) :: ((AV.int IntKind.i64 a.Plan.Epoch) :: ((AV.str a.Plan.Key) :: []))))))))))) :: []))) :: ((1, (AO.rows false (((AV.int IntKind.i64 have_.Id) :: ((AV.int IntKind.i64 have_.Epoch) :: ((AV.int IntKind.i64 have_.State) :: ((AV.str have_.From) :: ((AV.str have_.To) :: ((AV.sl (List.map api_Job.c have_.Jobs)) :: ((AV.sl (List.map api_Seen.c have_.Seen)) :: []))))))) :: []))) :: ((2, (AO.rows false (((AV.int IntKind.i64 (0 : Int)) :: ((AV.int IntKind.i64 (0 : Int)) :: ((AV.int IntKind.i64 (0 : Int)) :: ((AV.int IntKind.i64 (0 : Int)) :: ((AV.int IntKind.i64 (0 : Int)) :: ((AV.str ([] : List UInt8)) :: ((AV.int IntKind.i64 (0 : Int)) :: ((AV.int IntKind.i64 (0 : Int)) :: ((AV.int IntKind.i64 (0 : Int)) :: ((AV.str ([] : List UInt8)) :: ((AV.str ([] : List UInt8)) :: ((AV.str ([] : List UInt8)) :: ((AV.str ([] : List UInt8)) :: ((AV.int IntKind.i64 (0 : Int)) :: ((AV.int IntKind.i64 (0 : Int)) :: ((AV.int IntKind.i64 (0 : Int)) :: ((AV.int IntKind.i64 (0 : Int)) :: ((AV.str ([] : List UInt8)) :: ((AV.str ([] : List UInt8)) :: (AV.esl :: (AV.esl :: []))))))))))))))))))))) :: []))) :: ((3, (AO.rows false (((AV.int IntKind.i64 a.Plan.Kind) :: ((AV.int IntKind.i64 a.Plan.Phase) :: ((AV.int IntKind.i64 a.Plan.Shard) :: ((AV.int IntKind.i64 a.Plan.Other) :: ((AV.int IntKind.i64 a.Plan.Group) :: ((AV.int IntKind.i64 a.Plan.Past) :: ((AV.int IntKind.i64 a.Plan.Epoch) :: ((AV.str a.Plan.Key) :: [])))))))) :: []))) :: [])))) 4 ?_ (fun _ => ?_))
                · conv => whnf
                  refine Or.inl ?_
                  conv => whnf
                  refine brn_i (fun hb => ?_) (fun hb => ?_)
                  · replace h4 := cond_t h4 hb
                    conv => whnf
                    obtain rfl := Option.some.inj h4
                    exact end_i trivial [(0, 0), (1, 1), (2, 2), (3, 3)] rfl rfl rfl
                  · replace h4 := cond_f h4 hb
                    conv => whnf
                    refine brn_i (fun hb => ?_) (fun hb => ?_)
                    · replace h4 := cond_t h4 hb
                      conv => whnf
                      refine brn_i (fun hb => ?_) (fun hb => ?_)
                      · replace h4 := cond_t h4 hb
                        conv => whnf
                        refine Or.inl ?_
                        conv => whnf
                        obtain ⟨y_12, hy, h4⟩ := bind_e h4
                        refine ⟨_, _, (matinsref20_Has_FC F a.Plan have_ y_12 hy), Or.inl ⟨rfl, rfl, ?_⟩⟩
                        conv => whnf
                        obtain rfl := Option.some.inj h4
                        exact end_i trivial [(0, 0), (1, 1), (2, 2), (3, 3)] rfl rfl rfl
                      · replace h4 := cond_f h4 hb
                        conv => whnf
                        obtain rfl := Option.some.inj h4
                        exact end_i trivial [(0, 0), (1, 1), (2, 2), (3, 3)] rfl rfl rfl
                    · replace h4 := cond_f h4 hb
                      conv => whnf
                      obtain rfl := Option.some.inj h4
                      exact end_i trivial [(0, 0), (1, 1), (2, 2), (3, 3)] rfl rfl rfl
                · conv => whnf
                  refine Or.inl ?_
                  conv => whnf
                  refine brn_i (fun hb => ?_) (fun hb => ?_)
                  · replace k4 := cond_t k4 hb
                    conv => whnf
                    refine And.intro (by kernel_rfl) ?_
                    conv => whnf
                    obtain rfl := Option.some.inj k4
                    exact rfl
                  · replace k4 := cond_f k4 hb
                    conv => whnf
                    refine Or.inl ?_
                    conv => whnf
                    refine brn_i (fun hb => ?_) (fun hb => ?_)
                    · replace k4 := cond_t k4 hb
                      conv => whnf
                      refine And.intro (by kernel_rfl) ?_
                      conv => whnf
                      obtain rfl := Option.some.inj k4
                      exact rfl
                    · replace k4 := cond_f k4 hb
                      conv => whnf
                      refine Or.inl ?_
                      conv => whnf
                      refine brn_i (fun hb => ?_) (fun hb => ?_)
                      · replace k4 := cond_t k4 hb
                        conv => whnf
                        refine Or.inl ?_
                        conv => whnf
                        obtain ⟨y_13, hy, k4⟩ := bind_e k4
                        refine ⟨_, _, (matinsref19_Place_FC F a a.Plan.Shard y_13 hy), Or.inl ⟨rfl, rfl, ?_⟩⟩
                        conv => whnf
                        obtain ⟨hg, k4⟩ := grd_e k4
                        refine And.intro hg ?_
                        conv => whnf
                        obtain ⟨y_14, hy, k4⟩ := bind_e k4
                        refine opt_i (api_Span.c y_14) (getE rfl hy) ?_
                        conv => whnf
                        refine And.intro (by kernel_rfl) ?_
                        conv => whnf
                        obtain ⟨past_15, h5, k5⟩ := bind_e k4
                        refine Or.inr (joins_i True ((5, (AV.ptr 0 0 0)) :: ((7, (AV.ptr 1 0 0)) :: ((9, (AV.int IntKind.i64 y_14.Epoch)) :: ((10, (AV.int IntKind.i64 past_15)) :: [])))) ((0, (AO.rows false (((AV.int IntKind.i64 (0 : Int)) :: ((AV.int IntKind.i64 (0 : Int)) :: ((AV.int IntKind.i64 (0 : Int)) :: ((AV.int IntKind.i64 (0 : Int)) :: ((AV.int IntKind.i64 (0 : Int)) :: ((AV.str ([] : List UInt8)) :: ((AV.int IntKind.i64 (0 : Int)) :: ((AV.int IntKind.i64 (0 : Int)) :: ((AV.int IntKind.i64 (0 : Int)) :: ((AV.str ([] : List UInt8)) :: ((AV.str ([] : List UInt8)) :: ((AV.str ([] : List UInt8)) :: ((AV.str ([] : List UInt8)) :: ((AV.int IntKind.i64 (0 : Int)) :: ((AV.int IntKind.i64 (0 : Int)) :: ((AV.int IntKind.i64 (0 : Int)) :: ((AV.int IntKind.i64 (0 : Int)) :: ((AV.str ([] : List UInt8)) :: ((AV.str ([] : List UInt8)) :: (AV.esl :: (AV.esl :: []))))))))))))))))))))) :: []))) :: ((1, (AO.rows false (((AV.int IntKind.i64 a.Plan.Kind) :: ((AV.int IntKind.i64 a.Plan.Phase) :: ((AV.int IntKind.i64 a.Plan.Shard) :: ((AV.int IntKind.i64 a.Plan.Other) :: ((AV.int IntKind.i64 a.Plan.Group) :: ((AV.int IntKind.i64 a.Plan.Past) :: ((AV.int IntKind.i64 a.Plan.Epoch) :: ((AV.str a.Plan.Key) :: [])))))))) :: []))) :: [])) 2 ?_ (fun _ => ?_))
                        · conv => whnf
                          refine Or.inl ?_
                          conv => whnf
                          refine brn_i (fun hb => ?_) (fun hb => ?_)
                          · replace h5 := cond_t h5 hb
                            conv => whnf
                            obtain rfl := Option.some.inj h5
                            exact end_i trivial [(0, 2), (1, 3)] rfl rfl rfl
                          · replace h5 := cond_f h5 hb
                            conv => whnf
                            obtain rfl := Option.some.inj h5
                            exact end_i trivial [(0, 2), (1, 3)] rfl rfl rfl
                        · conv => whnf
                          refine And.intro (by kernel_rfl) ?_
                          conv => whnf
                          obtain rfl := Option.some.inj k5
                          exact rfl
                      · replace k4 := cond_f k4 hb
                        conv => whnf
                        refine Or.inl ?_
                        conv => whnf
                        refine Or.inl ?_
                        conv => whnf
                        refine brn_i (fun hb => ?_) (fun hb => ?_)
                        · replace k4 := cond_t k4 hb
                          conv => whnf
                          refine And.intro (by kernel_rfl) ?_
                          conv => whnf
                          obtain rfl := Option.some.inj k4
                          exact rfl
                        · replace k4 := cond_f k4 hb
                          conv => whnf
                          refine Or.inl ?_
                          conv => whnf
                          refine brn_i (fun hb => ?_) (fun hb => ?_)
                          · replace k4 := cond_t k4 hb
                            conv => whnf
                            refine And.intro (by kernel_rfl) ?_
                            conv => whnf
                            obtain rfl := Option.some.inj k4
                            exact rfl
                          · replace k4 := cond_f k4 hb
                            conv => whnf
                            refine And.intro (by kernel_rfl) ?_
                            conv => whnf
                            obtain rfl := Option.some.inj k4
                            exact rfl


end Go.T
