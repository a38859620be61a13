/-
  CertCr: the program's functions compute them. Printed by a program.
-/
import Derived.Test.YtceclaaopomcnaaDoorSem
import Derived.Test.YtceclaaopomcnaaDoorProg
import Derived.KernelRfl
import Derived.Test.YtceclaaopomcnaaDoorPlain
import Derived.WalkKit
set_option linter.unusedVariables false
set_option maxRecDepth 200000
set_option maxHeartbeats 4000000
namespace Go.T
open Go Go.Ab Go.Proofs
theorem mixed : Tryd.prog.follows .mixedOrders = true := by kernel_rfl
theorem blank_pred : ∀ w, PredAtRunes Tryd.prog 17 #[] blankP w := by
  intro w W x hx hb
  show Calls Tryd.prog 17 #[.int .i32 x] W _
  have key : Calls Tryd.prog 17 #[.int .i32 x] W fun e w' => e = .returned (.bool ((x : Int) == 32 || (x : Int) == 9)) ∧ W = w' := by
    go_enter Tryd.func17, Tryd.ntmps17
    go_wp2
    all_goals go_ret
    all_goals (refine ⟨?_, rfl⟩; simp_all)
  refine key.mono ?_
  rintro e w' ⟨rfl, rfl⟩
  refine ⟨?_, 0, rfl⟩
  have h : ((x : Int) == 32 || (x : Int) == 9) = blankP x := by
    unfold blankP
    rw [Bool.eq_iff_iff]
    simp only [Bool.or_eq_true, beq_iff_eq]
    omega
  rw [h]
theorem strings_FieldsFunc_FC {ml : Int} (F : Nat) (s : (List UInt8)) (r : (List (List UInt8))) (h : strings_FieldsFunc F s = some r) : FC Tryd.prog (GM ml) 16 [] [.str s, .fn 17 []] (.sl (List.map cStr r)) [] := by
  unfold strings_FieldsFunc at h
  obtain ⟨hg, h⟩ := grd_e h
  obtain rfl := Option.some.inj h
  exact FC_fields (t := 9) (by kernel_rfl) blankP blank_pred (fun s w a b => Tryd.strings_FieldsFunc_runes 17 #[] (enters_of Tryd.func17 (by kernel_rfl) rfl) blankP s w a b) s hg.1 hg.2

theorem strings_Split_FC {ml : Int} (F : Nat) (s sep : (List UInt8)) (r : (List (List UInt8))) (h : strings_Split F s sep = some r) : FC Tryd.prog (GM ml) 26 [] [.str s, .str sep] (.sl (List.map cStr r)) [] := by
  unfold strings_Split at h
  obtain ⟨hg, h⟩ := grd_e h
  obtain rfl := Option.some.inj h
  exact FC_split (g := 2) (t := 9) (by kernel_rfl) rfl (fun s sep w a b c => Tryd.strings_Split s sep ml w a b c) s sep hg.1 hg.2

theorem strings_Cut_FC {ml : Int} (F : Nat) (s sep : (List UInt8)) (r : ((List UInt8) × (List UInt8) × Bool)) (h : strings_Cut F s sep = some r) : FC Tryd.prog (GM ml) 34 [] [.str s, .str sep] (.tup [.str r.1, .str r.2.1, .bool r.2.2]) [] := by
  unfold strings_Cut at h
  obtain ⟨hg, h⟩ := grd_e h
  obtain rfl := Option.some.inj h
  exact FC_cut (g := 2) (by kernel_rfl) rfl (fun s sep w a b => Tryd.strings_Cut s sep ml w a b) s sep hg

theorem strings_Trim_FC {ml : Int} (F : Nat) (s cs : (List UInt8)) (r : (List UInt8)) (h : strings_Trim F s cs = some r) : FC Tryd.prog (GM ml) 44 [] [.str s, .str cs] (.str r) [] := by
  unfold strings_Trim at h
  obtain ⟨hg, h⟩ := grd_e h
  obtain rfl := Option.some.inj h
  exact FC_trim (by kernel_rfl) (fun s cs w a b c => Tryd.strings_Trim_ascii s cs w a b c) s cs hg.1 hg.2.1 hg.2.2

theorem strconv_Atoi_FC0 {ml : Int} (F : Nat) (s : (List UInt8)) (r : Int) (h : strconv_Atoi F s = some r) : FC Tryd.prog (GM ml) 45 [] [.str s] (.tup [.int .i64 r, .con .nilIface]) [] := by
  unfold strconv_Atoi at h
  split at h
  · rename_i v hv
    obtain ⟨hg, h⟩ := grd_e h
    obtain rfl := Option.some.inj h
    exact FC_atoi (by kernel_rfl) (fun s v w a b => (Tryd.strconv_Atoi_ok s a v b w).mono fun e w' hh => ⟨hh.1, hh.2.imp id fun ⟨t, ht⟩ => ⟨t, _, ht⟩⟩) s _ hg hv
  · cases h

theorem cron_number_FC {ml : Int} (F : Nat) (s : (List UInt8)) (r : (Int × Bool)) (h : cron_number F s = some r) : FC Tryd.prog (GM ml) 35 [] [(AV.str s)] (.tup [(.int IntKind.i64 r.1), (.bool r.2)]) [] := by
  refine FC_of 2000 Tryd.func35 rfl (by kernel_rfl) mixed (by show 1 ≤ 25; decide) ?_
  unfold cron_number at h
  conv => whnf
  obtain ⟨t18_1, h0, k0⟩ := bind_e h
  refine Or.inr (joins_i True ((0, (AV.str s)) :: ((18, (AV.bool t18_1)) :: [])) [] 0 ?_ (fun _ => ?_))
  · conv => whnf
    refine Or.inl ?_
    conv => whnf
    refine brn_i (fun hb => ?_) (fun hb => ?_)
    · replace h0 := cond_t h0 hb
      conv => whnf
      obtain rfl := Option.some.inj h0
      exact end_i trivial [] rfl rfl rfl
    · replace h0 := cond_f h0 hb
      conv => whnf
      refine brn_i (fun hb => ?_) (fun hb => ?_)
      · replace h0 := cond_t h0 hb
        conv => whnf
        obtain rfl := Option.some.inj h0
        exact end_i trivial [] rfl rfl rfl
      · replace h0 := cond_f h0 hb
        conv => whnf
        refine Or.inl ?_
        conv => whnf
        obtain ⟨y_2, hy, h0⟩ := bind_e h0
        refine ⟨_, _, (strings_Trim_FC F s ([48, 49, 50, 51, 52, 53, 54, 55, 56, 57] : List UInt8) y_2 hy), Or.inl ⟨rfl, rfl, ?_⟩⟩
        conv => whnf
        obtain rfl := Option.some.inj h0
        exact end_i trivial [] rfl rfl rfl
  · conv => whnf
    refine Or.inl ?_
    conv => whnf
    refine brn_i (fun hb => ?_) (fun hb => ?_)
    · replace k0 := cond_t k0 hb
      conv => whnf
      obtain rfl := Option.some.inj k0
      exact rfl
    · replace k0 := cond_f k0 hb
      conv => whnf
      refine Or.inl ?_
      conv => whnf
      obtain ⟨y_3, hy, k0⟩ := bind_e k0
      refine ⟨_, _, (FC_close (strconv_Atoi_FC0 F s y_3 hy) rfl), Or.inr ⟨[], rfl, ?_⟩⟩
      conv => whnf
      obtain rfl := Option.some.inj k0
      exact rfl

theorem cron_read_FC {ml : Int} (F : Nat) (s : (List UInt8)) (f : cron_span) (r : (cron_item × Bool)) (h : cron_read F s f = some r) : FC Tryd.prog (GM ml) 27 [] [(AV.str s), (AV.agg (cron_span.c f))] (.tup [(.agg (cron_item.c r.1)), (.bool r.2)]) [] := by
  refine FC_of 2000 Tryd.func27 rfl (by kernel_rfl) mixed (by show 2 ≤ 74; decide) ?_
  unfold cron_read at h
  conv => whnf
  refine Or.inl ?_
  conv => whnf
  obtain ⟨y_0, hy, h⟩ := bind_e h
  refine ⟨_, _, (strings_Cut_FC F s ([47] : List UInt8) y_0 hy), Or.inl ⟨rfl, rfl, ?_⟩⟩
  conv => whnf
  obtain ⟨o0, h0, k0⟩ := bind_e h
  refine Or.inr (joins_i True ((0, (AV.str y_0.1)) :: ((3, (AV.ptr 0 0 0)) :: ((4, (AV.ptr 1 0 0)) :: ((7, (AV.bool y_0.2.2)) :: ((8, (AV.int IntKind.i64 o0.1)) :: ((9, (AV.bool o0.2)) :: [])))))) ((0, (AO.rows false (((AV.int IntKind.i64 f.least) :: ((AV.int IntKind.i64 f.most) :: [])) :: []))) :: ((1, (AO.rows false (((AV.int IntKind.i64 (0 : Int)) :: ((AV.int IntKind.i64 (0 : Int)) :: ((AV.int IntKind.i64 (0 : Int)) :: []))) :: []))) :: [])) 2 ?_ (fun _ => ?_))
  · conv => whnf
    refine Or.inl ?_
    conv => whnf
    refine brn_i (fun hb => ?_) (fun hb => ?_)
    · replace h0 := cond_t h0 hb
      conv => whnf
      refine Or.inl ?_
      conv => whnf
      obtain ⟨y_4, hy, h0⟩ := bind_e h0
      refine ⟨_, _, (cron_number_FC F y_0.2.1 y_4 hy), Or.inl ⟨rfl, rfl, ?_⟩⟩
      conv => whnf
      obtain rfl := Option.some.inj h0
      exact end_i trivial [(0, 8), (1, 16)] rfl rfl rfl
    · replace h0 := cond_f h0 hb
      conv => whnf
      obtain rfl := Option.some.inj h0
      exact end_i trivial [(0, 8), (1, 16)] rfl rfl rfl
  · obtain ⟨step_2, ok_3⟩ := o0
    conv => whnf
    refine Or.inl ?_
    conv => whnf
    refine brn_i (fun hb => ?_) (fun hb => ?_)
    · replace k0 := cond_t k0 hb
      conv => whnf
      obtain rfl := Option.some.inj k0
      exact rfl
    · replace k0 := cond_f k0 hb
      conv => whnf
      refine Or.inl ?_
      conv => whnf
      obtain ⟨y_5, hy, k0⟩ := bind_e k0
      refine ⟨_, _, (strings_Cut_FC F y_0.1 ([45] : List UInt8) y_5 hy), Or.inl ⟨rfl, rfl, ?_⟩⟩
      conv => whnf
      refine Or.inl ?_
      conv => whnf
      obtain ⟨y_6, hy, k0⟩ := bind_e k0
      refine ⟨_, _, (cron_number_FC F y_5.1 y_6 hy), Or.inl ⟨rfl, rfl, ?_⟩⟩
      conv => whnf
      obtain ⟨o1, h1, k1⟩ := bind_e k0
      refine Or.inr (joins_i True ((4, (AV.ptr 0 0 0)) :: ((7, (AV.bool y_0.2.2)) :: ((8, (AV.int IntKind.i64 step_2)) :: ((9, (AV.bool ok_3)) :: ((12, (AV.bool y_5.2.2)) :: ((13, (AV.int IntKind.i64 y_6.1)) :: ((14, (AV.bool y_6.2)) :: ((15, (AV.int IntKind.i64 o1.1)) :: ((16, (AV.bool o1.2)) :: []))))))))) ((0, (AO.rows false (((AV.int IntKind.i64 (0 : Int)) :: ((AV.int IntKind.i64 (0 : Int)) :: ((AV.int IntKind.i64 (0 : Int)) :: []))) :: []))) :: []) 1 ?_ (fun _ => ?_))
      · conv => whnf
        refine Or.inl ?_
        conv => whnf
        refine brn_i (fun hb => ?_) (fun hb => ?_)
        · replace h1 := cond_t h1 hb
          conv => whnf
          refine Or.inl ?_
          conv => whnf
          obtain ⟨y_10, hy, h1⟩ := bind_e h1
          refine ⟨_, _, (cron_number_FC F y_5.2.1 y_10 hy), Or.inl ⟨rfl, rfl, ?_⟩⟩
          conv => whnf
          obtain rfl := Option.some.inj h1
          exact end_i trivial [(0, 1)] rfl rfl rfl
        · replace h1 := cond_f h1 hb
          conv => whnf
          obtain rfl := Option.some.inj h1
          exact end_i trivial [(0, 1)] rfl rfl rfl
      · obtain ⟨to__8, so_9⟩ := o1
        conv => whnf
        refine Or.inl ?_
        conv => whnf
        refine brn_i (fun hb => ?_) (fun hb => ?_)
        · replace k1 := cond_t k1 hb
          conv => whnf
          refine brn_i (fun hb => ?_) (fun hb => ?_)
          · replace k1 := cond_t k1 hb
            conv => whnf
            refine brn_i (fun hb => ?_) (fun hb => ?_)
            · replace k1 := cond_t k1 hb
              conv => whnf
              refine brn_i (fun hb => ?_) (fun hb => ?_)
              · replace k1 := cond_t k1 hb
                conv => whnf
                obtain rfl := Option.some.inj k1
                exact rfl
              · replace k1 := cond_f k1 hb
                conv => whnf
                obtain rfl := Option.some.inj k1
                exact rfl
            · replace k1 := cond_f k1 hb
              conv => whnf
              obtain rfl := Option.some.inj k1
              exact rfl
          · replace k1 := cond_f k1 hb
            conv => whnf
            obtain rfl := Option.some.inj k1
            exact rfl
        · replace k1 := cond_f k1 hb
          conv => whnf
          obtain rfl := Option.some.inj k1
          exact rfl

theorem cron_all_FC {ml : Int} (F : Nat) (least : Int) (most : Int) (r : Int) (h : cron_all F least most = some r) : FC Tryd.prog (GM ml) 20 [] [(AV.int IntKind.i64 least), (AV.int IntKind.i64 most)] (.int IntKind.u64 r) [] := by
  refine FC_of 2000 Tryd.func20 rfl (by kernel_rfl) mixed (by show 2 ≤ 11; decide) ?_
  unfold cron_all at h
  conv => whnf
  obtain ⟨hg, h⟩ := grd_e h
  refine And.intro hg ?_
  conv => whnf
  obtain ⟨hg, h⟩ := grd_e h
  refine And.intro hg ?_
  conv => whnf
  refine And.intro (by kernel_rfl) ?_
  conv => whnf
  obtain rfl := Option.some.inj h
  exact rfl

theorem cron_field_FC {ml : Int} (F : Nat) (s : (List UInt8)) (n : Int) (r : (Int × Int)) (h : cron_field F s n = some r) : FC Tryd.prog (GM ml) 18 [] [(AV.str s), (AV.int IntKind.i64 n)] (.tup [(.int IntKind.u64 r.1), (.int IntKind.i64 r.2)]) [] := by
  refine FC_of 2000 Tryd.func18 rfl (by kernel_rfl) mixed (by show 2 ≤ 91; decide) ?_
  unfold cron_field at h
  conv => whnf
  obtain ⟨o0, h0, k0⟩ := bind_e h
  refine Or.inr (joins_i True ((0, (AV.str s)) :: ((1, (AV.int IntKind.i64 n)) :: ((6, (AV.int IntKind.u64 (0 : Int))) :: ((7, (AV.int IntKind.i64 (0 : Int))) :: ((8, (AV.ptr 0 0 0)) :: []))))) ((0, (AO.rows false (((AV.int IntKind.i64 o0.1) :: ((AV.int IntKind.i64 o0.2) :: [])) :: []))) :: []) 1 ?_ (fun _ => ?_))
  · conv => whnf
    refine Or.inl ?_
    conv => whnf
    obtain ⟨hg, h0⟩ := grd_e h0
    refine And.intro hg ?_
    conv => whnf
    obtain ⟨hg, h0⟩ := grd_e h0
    refine And.intro hg ?_
    conv => whnf
    refine Or.inr ?_
    conv => whnf
    refine brn_i (fun hb => ?_) (fun hb => ?_)
    · replace h0 := cond_t h0 hb
      conv => whnf
      obtain rfl := Option.some.inj h0
      exact end_i trivial [(0, 64)] rfl rfl rfl
    · replace h0 := cond_f h0 hb
      conv => whnf
      refine brn_i (fun hb => ?_) (fun hb => ?_)
      · replace h0 := cond_t h0 hb
        conv => whnf
        obtain rfl := Option.some.inj h0
        exact end_i trivial [(0, 64)] rfl rfl rfl
      · replace h0 := cond_f h0 hb
        conv => whnf
        refine brn_i (fun hb => ?_) (fun hb => ?_)
        · replace h0 := cond_t h0 hb
          conv => whnf
          obtain rfl := Option.some.inj h0
          exact end_i trivial [(0, 64)] rfl rfl rfl
        · replace h0 := cond_f h0 hb
          conv => whnf
          refine brn_i (fun hb => ?_) (fun hb => ?_)
          · replace h0 := cond_t h0 hb
            conv => whnf
            obtain rfl := Option.some.inj h0
            exact end_i trivial [(0, 64)] rfl rfl rfl
          · replace h0 := cond_f h0 hb
            conv => whnf
            refine brn_i (fun hb => ?_) (fun hb => ?_)
            · replace h0 := cond_t h0 hb
              conv => whnf
              obtain rfl := Option.some.inj h0
              exact end_i trivial [(0, 64)] rfl rfl rfl
            · replace h0 := cond_f h0 hb
              conv => whnf
              exact trivial
  · obtain ⟨c_0, c_1⟩ := o0
    conv => whnf
    refine Or.inl ?_
    conv => whnf
    obtain ⟨y_2, hy, k0⟩ := bind_e k0
    refine ⟨_, _, (strings_Split_FC F s ([44] : List UInt8) y_2 hy), Or.inr ⟨[], rfl, ?_⟩⟩
    conv => whnf
    obtain ⟨o11, h11, k11⟩ := bind_e k0
    refine Or.inr (joins_i (o11 = Sum.inr (outR o11)) ((1, (AV.int IntKind.i64 n)) :: ((6, (AV.int IntKind.u64 (outR o11).1)) :: ((7, (AV.int IntKind.i64 (outR o11).2)) :: []))) [] 0 ?_ (fun hR => ?_))
    · conv => whnf
      refine Or.inl ?_
      conv => whnf
      refine loops_i (α := (Nat × Int × Int × Int)) (fun x => ((1, (AV.int IntKind.i64 n)) :: ((6, (AV.int IntKind.u64 x.2.1)) :: ((7, (AV.int IntKind.i64 x.2.2.1)) :: ((8, (AV.ptr 0 0 0)) :: ((18, (AV.sl (List.map cStr y_2))) :: ((19, (AV.int IntKind.i64 (@Nat.cast Int instNatCastInt (List.length (List.map cStr y_2))))) :: ((20, (AV.int IntKind.i64 x.2.2.2)) :: [])))))))) (fun x => ((0, (AO.rows false (((AV.int IntKind.i64 c_0) :: ((AV.int IntKind.i64 c_1) :: [])) :: []))) :: [])) 1 (fun x => cron_field_l0 F n c_0 c_1 y_2 x.1 x.2.1 x.2.2.1 x.2.2.2 = some o11) (fun x => x.1) (F, (0 : Int), (0 : Int), (0 : Int)) [(0, 0)] h11 rfl rfl rfl ?_
      rintro ⟨n_29, bits_30, e_31, t20_32⟩ h11
      replace h11 : cron_field_l0 F n c_0 c_1 y_2 n_29 bits_30 e_31 t20_32 = some o11 := h11
      cases n_29 with
      | zero => rw [cron_field_l0.eq_1] at h11; cases h11
      | succ n_29 =>
        rw [cron_field_l0.eq_2] at h11
        conv => whnf
        refine Or.inl ?_
        conv => whnf
        refine brn_i (fun hb => ?_) (fun hb => ?_)
        · replace h11 := cond_t h11 (by first | exact hb | simpa using hb | simpa [chunk] using hb)
          conv => whnf
          obtain ⟨o21, h21, k21⟩ := bind_e h11
          refine Or.inr (joins_i (o21 = Sum.inr (outR o21)) ((1, (AV.int IntKind.i64 n)) :: ((6, (AV.int IntKind.u64 (outR o21).1)) :: ((7, (AV.int IntKind.i64 (outR o21).2)) :: ((8, (AV.ptr 0 0 0)) :: ((18, (AV.sl (List.map cStr y_2))) :: ((19, (AV.int IntKind.i64 (@Nat.cast Int instNatCastInt (List.length (List.map cStr y_2))))) :: ((20, (AV.int IntKind.i64 t20_32)) :: []))))))) ((0, (AO.rows false (((AV.int IntKind.i64 c_0) :: ((AV.int IntKind.i64 c_1) :: [])) :: []))) :: []) 1 ?_ (fun hR => ?_))
          · conv => whnf
            refine Or.inl ?_
            conv => whnf
            obtain ⟨hg, h21⟩ := grd_e h21
            refine And.intro hg ?_
            conv => whnf
            obtain ⟨y_41, hy, h21⟩ := bind_e h21
            refine opt_i (cStr y_41) (getE rfl hy) ?_
            conv => whnf
            refine Or.inl ?_
            conv => whnf
            obtain ⟨y_42, hy, h21⟩ := bind_e h21
            refine ⟨_, _, (cron_read_FC F y_41 (cron_span.mk c_0 c_1) y_42 hy), Or.inl ⟨rfl, rfl, ?_⟩⟩
            conv => whnf
            refine Or.inl ?_
            conv => whnf
            refine brn_i (fun hb => ?_) (fun hb => ?_)
            · replace h21 := cond_t h21 hb
              conv => whnf
              obtain rfl := Option.some.inj h21
              obtain rfl := Option.some.inj k21
              obtain rfl := Option.some.inj k11
              exact rfl
            · replace h21 := cond_f h21 hb
              conv => whnf
              obtain ⟨t55_43, h22, k22⟩ := bind_e h21
              refine Or.inr (joins_i True ((1, (AV.int IntKind.i64 n)) :: ((6, (AV.int IntKind.u64 bits_30)) :: ((7, (AV.int IntKind.i64 e_31)) :: ((8, (AV.ptr 0 0 0)) :: ((10, (AV.str y_41)) :: ((11, (AV.ptr 1 0 0)) :: ((18, (AV.sl (List.map cStr y_2))) :: ((19, (AV.int IntKind.i64 (@Nat.cast Int instNatCastInt (List.length (List.map cStr y_2))))) :: ((20, (AV.int IntKind.i64 t20_32)) :: ((55, (AV.bool t55_43)) :: [])))))))))) ((0, (AO.rows false (((AV.int IntKind.i64 c_0) :: ((AV.int IntKind.i64 c_1) :: [])) :: []))) :: ((1, (AO.rows false (((AV.int IntKind.i64 y_42.1.from_) :: ((AV.int IntKind.i64 y_42.1.to_) :: ((AV.int IntKind.i64 y_42.1.step) :: []))) :: []))) :: [])) 2 ?_ (fun _ => ?_))
              · conv => whnf
                refine Or.inl ?_
                conv => whnf
                refine brn_i (fun hb => ?_) (fun hb => ?_)
                · replace h22 := cond_t h22 hb
                  conv => whnf
                  obtain rfl := Option.some.inj h22
                  exact end_i trivial [(0, 0), (1, 81)] rfl rfl rfl
                · replace h22 := cond_f h22 hb
                  conv => whnf
                  refine brn_i (fun hb => ?_) (fun hb => ?_)
                  · replace h22 := cond_t h22 hb
                    conv => whnf
                    obtain rfl := Option.some.inj h22
                    exact end_i trivial [(0, 0), (1, 81)] rfl rfl rfl
                  · replace h22 := cond_f h22 hb
                    conv => whnf
                    refine brn_i (fun hb => ?_) (fun hb => ?_)
                    · replace h22 := cond_t h22 hb
                      conv => whnf
                      obtain rfl := Option.some.inj h22
                      exact end_i trivial [(0, 0), (1, 81)] rfl rfl rfl
                    · replace h22 := cond_f h22 hb
                      conv => whnf
                      obtain rfl := Option.some.inj h22
                      exact end_i trivial [(0, 0), (1, 81)] rfl rfl rfl
              · conv => whnf
                refine Or.inl ?_
                conv => whnf
                refine brn_i (fun hb => ?_) (fun hb => ?_)
                · replace k22 := cond_t k22 hb
                  conv => whnf
                  obtain rfl := Option.some.inj k22
                  exact end_i rfl [(0, 0)] rfl rfl rfl
                · replace k22 := cond_f k22 hb
                  conv => whnf
                  obtain ⟨t61_44, h23, k23⟩ := bind_e k22
                  refine Or.inr (joins_i True ((1, (AV.int IntKind.i64 n)) :: ((6, (AV.int IntKind.u64 bits_30)) :: ((7, (AV.int IntKind.i64 e_31)) :: ((8, (AV.ptr 0 0 0)) :: ((11, (AV.ptr 1 0 0)) :: ((18, (AV.sl (List.map cStr y_2))) :: ((19, (AV.int IntKind.i64 (@Nat.cast Int instNatCastInt (List.length (List.map cStr y_2))))) :: ((20, (AV.int IntKind.i64 t20_32)) :: ((61, (AV.bool t61_44)) :: []))))))))) ((0, (AO.rows false (((AV.int IntKind.i64 c_0) :: ((AV.int IntKind.i64 c_1) :: [])) :: []))) :: ((1, (AO.rows false (((AV.int IntKind.i64 y_42.1.from_) :: ((AV.int IntKind.i64 y_42.1.to_) :: ((AV.int IntKind.i64 y_42.1.step) :: []))) :: []))) :: [])) 2 ?_ (fun _ => ?_))
                  · conv => whnf
                    refine Or.inl ?_
                    conv => whnf
                    refine brn_i (fun hb => ?_) (fun hb => ?_)
                    · replace h23 := cond_t h23 hb
                      conv => whnf
                      obtain rfl := Option.some.inj h23
                      exact end_i trivial [(0, 0), (1, 1)] rfl rfl rfl
                    · replace h23 := cond_f h23 hb
                      conv => whnf
                      obtain rfl := Option.some.inj h23
                      exact end_i trivial [(0, 0), (1, 1)] rfl rfl rfl
                  · conv => whnf
                    obtain ⟨c_45, h24, k24⟩ := bind_e k23
                    refine Or.inr (joins_i True ((1, (AV.int IntKind.i64 n)) :: ((6, (AV.int IntKind.u64 bits_30)) :: ((7, (AV.int IntKind.i64 e_31)) :: ((8, (AV.ptr 0 0 0)) :: ((11, (AV.ptr 1 0 0)) :: ((18, (AV.sl (List.map cStr y_2))) :: ((19, (AV.int IntKind.i64 (@Nat.cast Int instNatCastInt (List.length (List.map cStr y_2))))) :: ((20, (AV.int IntKind.i64 t20_32)) :: [])))))))) ((0, (AO.rows false (((AV.int IntKind.i64 c_0) :: ((AV.int IntKind.i64 c_1) :: [])) :: []))) :: ((1, (AO.rows false (((AV.int IntKind.i64 y_42.1.from_) :: ((AV.int IntKind.i64 c_45) :: ((AV.int IntKind.i64 y_42.1.step) :: []))) :: []))) :: [])) 2 ?_ (fun _ => ?_))
                    · conv => whnf
                      refine Or.inl ?_
                      conv => whnf
                      refine brn_i (fun hb => ?_) (fun hb => ?_)
                      · replace h24 := cond_t h24 hb
                        conv => whnf
                        obtain rfl := Option.some.inj h24
                        exact end_i trivial [(0, 0), (1, 1)] rfl rfl rfl
                      · replace h24 := cond_f h24 hb
                        conv => whnf
                        obtain rfl := Option.some.inj h24
                        exact end_i trivial [(0, 0), (1, 1)] rfl rfl rfl
                    · conv => whnf
                      obtain ⟨bits_46, h25, k25⟩ := bind_e k24
                      refine Or.inr (joins_i True ((1, (AV.int IntKind.i64 n)) :: ((6, (AV.int IntKind.u64 bits_46)) :: ((7, (AV.int IntKind.i64 e_31)) :: ((8, (AV.ptr 0 0 0)) :: ((18, (AV.sl (List.map cStr y_2))) :: ((19, (AV.int IntKind.i64 (@Nat.cast Int instNatCastInt (List.length (List.map cStr y_2))))) :: ((20, (AV.int IntKind.i64 t20_32)) :: []))))))) ((0, (AO.rows false (((AV.int IntKind.i64 c_0) :: ((AV.int IntKind.i64 c_1) :: [])) :: []))) :: []) 1 ?_ (fun _ => ?_))
                      · conv => whnf
                        refine Or.inl ?_
                        conv => whnf
                        refine loops_i (α := (Nat × Int × Int)) (fun x => ((1, (AV.int IntKind.i64 n)) :: ((6, (AV.int IntKind.u64 x.2.1)) :: ((7, (AV.int IntKind.i64 e_31)) :: ((8, (AV.ptr 0 0 0)) :: ((11, (AV.ptr 1 0 0)) :: ((13, (AV.int IntKind.i64 x.2.2)) :: ((18, (AV.sl (List.map cStr y_2))) :: ((19, (AV.int IntKind.i64 (@Nat.cast Int instNatCastInt (List.length (List.map cStr y_2))))) :: ((20, (AV.int IntKind.i64 t20_32)) :: [])))))))))) (fun x => ((0, (AO.rows false (((AV.int IntKind.i64 c_0) :: ((AV.int IntKind.i64 c_1) :: [])) :: []))) :: ((1, (AO.rows false (((AV.int IntKind.i64 y_42.1.from_) :: ((AV.int IntKind.i64 c_45) :: ((AV.int IntKind.i64 y_42.1.step) :: []))) :: []))) :: []))) 2 (fun x => cron_field_l1 F y_42 c_45 x.1 x.2.1 x.2.2 = some bits_46) (fun x => x.1) (F, bits_30, y_42.1.from_) [(0, 0), (1, 1)] h25 rfl rfl rfl ?_
                        rintro ⟨n_47, bits_48, k_49⟩ h25
                        replace h25 : cron_field_l1 F y_42 c_45 n_47 bits_48 k_49 = some bits_46 := h25
                        cases n_47 with
                        | zero => rw [cron_field_l1.eq_1] at h25; cases h25
                        | succ n_47 =>
                          rw [cron_field_l1.eq_2] at h25
                          conv => whnf
                          refine Or.inl ?_
                          conv => whnf
                          refine brn_i (fun hb => ?_) (fun hb => ?_)
                          · replace h25 := cond_t h25 hb
                            conv => whnf
                            refine Or.inl ?_
                            conv => whnf
                            obtain ⟨hg, h25⟩ := grd_e h25
                            refine And.intro hg ?_
                            conv => whnf
                            exact round_i (n_47, (@ibits BinOp.or IntKind.u64 bits_48 (IntKind.wrap IntKind.u64 ((1 : Int) * ((2 : Int) ^ (min (Int.toNat k_49) 64))))), (IntKind.wrap IntKind.i64 (k_49 + y_42.1.step))) [(0, 0), (1, 1)] h25 (Nat.lt_succ_self _) rfl rfl rfl
                          · replace h25 := cond_f h25 hb
                            conv => whnf
                            obtain rfl := Option.some.inj h25
                            exact end_i trivial [(0, 0)] rfl rfl rfl
                      · conv => whnf
                        obtain rfl := Option.some.inj k25
                        exact end_i rfl [(0, 0)] rfl rfl rfl
          · replace k21 := elim_e hR k21
            generalize outR o21 = v at k21 ⊢
            obtain ⟨bits_39, e_40⟩ := v
            conv => whnf
            exact round_i (n_29, bits_39, e_40, (IntKind.wrap IntKind.i64 (t20_32 + (1 : Int)))) [(0, 0)] k21 (Nat.lt_succ_self _) rfl rfl rfl
        · replace h11 := cond_f h11 (by first | exact hb | simpa using hb | simpa [chunk] using hb)
          conv => whnf
          obtain rfl := Option.some.inj h11
          exact end_i rfl [] rfl rfl rfl
    · replace k11 := elim_e hR k11
      generalize outR o11 = v at k11 ⊢
      obtain ⟨bits_19, e_20⟩ := v
      conv => whnf
      obtain ⟨t84_50, h12, k12⟩ := bind_e k11
      refine Or.inr (joins_i True ((6, (AV.int IntKind.u64 bits_19)) :: ((7, (AV.int IntKind.i64 e_20)) :: ((84, (AV.bool t84_50)) :: []))) [] 0 ?_ (fun _ => ?_))
      · conv => whnf
        refine Or.inl ?_
        conv => whnf
        refine brn_i (fun hb => ?_) (fun hb => ?_)
        · replace h12 := cond_t h12 hb
          conv => whnf
          refine And.intro (by decide) ?_
          conv => whnf
          obtain rfl := Option.some.inj h12
          exact end_i trivial [] rfl rfl rfl
        · replace h12 := cond_f h12 hb
          conv => whnf
          obtain rfl := Option.some.inj h12
          exact end_i trivial [] rfl rfl rfl
      · conv => whnf
        obtain ⟨bits_52, h13, k13⟩ := bind_e k12
        refine Or.inr (joins_i True ((6, (AV.int IntKind.u64 bits_52)) :: ((7, (AV.int IntKind.i64 e_20)) :: [])) [] 0 ?_ (fun _ => ?_))
        · conv => whnf
          refine Or.inl ?_
          conv => whnf
          refine brn_i (fun hb => ?_) (fun hb => ?_)
          · replace h13 := cond_t h13 hb
            conv => whnf
            refine Or.inl ?_
            conv => whnf
            obtain ⟨y_53, hy, h13⟩ := bind_e h13
            refine ⟨_, _, (cron_all_FC F (0 : Int) (6 : Int) y_53 hy), Or.inl ⟨rfl, rfl, ?_⟩⟩
            conv => whnf
            obtain rfl := Option.some.inj h13
            exact end_i trivial [] rfl rfl rfl
          · replace h13 := cond_f h13 hb
            conv => whnf
            obtain rfl := Option.some.inj h13
            exact end_i trivial [] rfl rfl rfl
        · conv => whnf
          obtain rfl := Option.some.inj k13
          exact rfl

theorem cron_Parse_FC {ml : Int} (F : Nat) (text : (List UInt8)) (r : (api_Cron × Int × Int)) (h : cron_Parse F text = some r) : FC Tryd.prog (GM ml) 9 [] [(AV.str text)] (.tup [(.agg (api_Cron.c r.1)), (.int IntKind.i64 r.2.1), (.int IntKind.i64 r.2.2)]) [] := by
  refine FC_of 2000 Tryd.func9 rfl (by kernel_rfl) mixed (by show 1 ≤ 62; decide) ?_
  unfold cron_Parse at h
  conv => whnf
  refine Or.inl ?_
  conv => whnf
  refine brn_i (fun hb => ?_) (fun hb => ?_)
  · replace h := cond_t h hb
    conv => whnf
    obtain rfl := Option.some.inj h
    exact rfl
  · replace h := cond_f h hb
    conv => whnf
    refine Or.inl ?_
    conv => whnf
    obtain ⟨y_0, hy, h⟩ := bind_e h
    refine ⟨_, _, (strings_FieldsFunc_FC F text y_0 hy), Or.inr ⟨[], rfl, ?_⟩⟩
    conv => whnf
    refine Or.inl ?_
    conv => whnf
    refine brn_i (fun hb => ?_) (fun hb => ?_)
    · replace h := cond_t h (by first | exact hb | simpa using hb | simpa [chunk] using hb)
      conv => whnf
      obtain rfl := Option.some.inj h
      exact rfl
    · replace h := cond_f h (by first | exact hb | simpa using hb | simpa [chunk] using hb)
      conv => whnf
      obtain ⟨o4, h4, k4⟩ := bind_e h
      refine Or.inr (joins_i (o4 = Sum.inr (outR o4)) ((2, (AV.ptr 0 0 0)) :: ((5, (AV.sl (List.map cStr y_0))) :: ((6, (AV.ptr 1 0 0)) :: []))) ((0, (AO.rows false (((AV.int IntKind.u64 (0 : Int)) :: ((AV.int IntKind.u64 (0 : Int)) :: ((AV.int IntKind.u64 (0 : Int)) :: ((AV.int IntKind.u64 (0 : Int)) :: ((AV.int IntKind.u64 (0 : Int)) :: ((AV.bool false) :: ((AV.bool false) :: []))))))) :: []))) :: ((1, (AO.rows false (((AV.int IntKind.u64 (outR o4).1) :: ((AV.int IntKind.u64 (outR o4).2.1) :: ((AV.int IntKind.u64 (outR o4).2.2.1) :: ((AV.int IntKind.u64 (outR o4).2.2.2.1) :: ((AV.int IntKind.u64 (outR o4).2.2.2.2) :: []))))) :: []))) :: [])) 2 ?_ (fun hR => ?_))
      · conv => whnf
        refine Or.inl ?_
        conv => whnf
        refine loops_i (α := (Nat × Int × Int × Int × Int × Int × Int)) (fun x => ((2, (AV.ptr 0 0 0)) :: ((5, (AV.sl (List.map cStr y_0))) :: ((6, (AV.ptr 1 0 0)) :: ((21, (AV.sl (List.map cStr y_0))) :: ((22, (AV.int IntKind.i64 (@Nat.cast Int instNatCastInt (List.length (List.map cStr y_0))))) :: ((23, (AV.int IntKind.i64 x.2.1)) :: []))))))) (fun x => ((0, (AO.rows false (((AV.int IntKind.u64 (0 : Int)) :: ((AV.int IntKind.u64 (0 : Int)) :: ((AV.int IntKind.u64 (0 : Int)) :: ((AV.int IntKind.u64 (0 : Int)) :: ((AV.int IntKind.u64 (0 : Int)) :: ((AV.bool false) :: ((AV.bool false) :: []))))))) :: []))) :: ((1, (AO.rows false (((AV.int IntKind.u64 x.2.2.1) :: ((AV.int IntKind.u64 x.2.2.2.1) :: ((AV.int IntKind.u64 x.2.2.2.2.1) :: ((AV.int IntKind.u64 x.2.2.2.2.2.1) :: ((AV.int IntKind.u64 x.2.2.2.2.2.2) :: []))))) :: []))) :: []))) 2 (fun x => cron_Parse_l0 F y_0 x.1 x.2.1 x.2.2.1 x.2.2.2.1 x.2.2.2.2.1 x.2.2.2.2.2.1 x.2.2.2.2.2.2 = some o4) (fun x => x.1) (F, (0 : Int), (0 : Int), (0 : Int), (0 : Int), (0 : Int), (0 : Int)) [(0, 8), (1, 104)] h4 rfl rfl rfl ?_
        rintro ⟨n_52, t23_53, c_54, c_55, c_56, c_57, c_58⟩ h4
        replace h4 : cron_Parse_l0 F y_0 n_52 t23_53 c_54 c_55 c_56 c_57 c_58 = some o4 := h4
        cases n_52 with
        | zero => rw [cron_Parse_l0.eq_1] at h4; cases h4
        | succ n_52 =>
          rw [cron_Parse_l0.eq_2] at h4
          conv => whnf
          refine Or.inl ?_
          conv => whnf
          refine brn_i (fun hb => ?_) (fun hb => ?_)
          · replace h4 := cond_t h4 (by first | exact hb | simpa using hb | simpa [chunk] using hb)
            conv => whnf
            refine Or.inl ?_
            conv => whnf
            obtain ⟨hg, h4⟩ := grd_e h4
            refine And.intro hg ?_
            conv => whnf
            obtain ⟨y_66, hy, h4⟩ := bind_e h4
            refine opt_i (cStr y_66) (getE rfl hy) ?_
            conv => whnf
            refine Or.inl ?_
            conv => whnf
            obtain ⟨y_67, hy, h4⟩ := bind_e h4
            refine ⟨_, _, (cron_field_FC F y_66 t23_53 y_67 hy), Or.inl ⟨rfl, rfl, ?_⟩⟩
            conv => whnf
            refine Or.inl ?_
            conv => whnf
            refine brn_i (fun hb => ?_) (fun hb => ?_)
            · replace h4 := cond_t h4 hb
              conv => whnf
              obtain rfl := Option.some.inj h4
              obtain rfl := Option.some.inj k4
              exact rfl
            · replace h4 := cond_f h4 hb
              conv => whnf
              obtain ⟨o8, h8, k8⟩ := bind_e h4
              refine Or.inr (joins_i True ((2, (AV.ptr 0 0 0)) :: ((5, (AV.sl (List.map cStr y_0))) :: ((6, (AV.ptr 1 0 0)) :: ((21, (AV.sl (List.map cStr y_0))) :: ((22, (AV.int IntKind.i64 (@Nat.cast Int instNatCastInt (List.length (List.map cStr y_0))))) :: ((23, (AV.int IntKind.i64 t23_53)) :: [])))))) ((0, (AO.rows false (((AV.int IntKind.u64 (0 : Int)) :: ((AV.int IntKind.u64 (0 : Int)) :: ((AV.int IntKind.u64 (0 : Int)) :: ((AV.int IntKind.u64 (0 : Int)) :: ((AV.int IntKind.u64 (0 : Int)) :: ((AV.bool false) :: ((AV.bool false) :: []))))))) :: []))) :: ((1, (AO.rows false (((AV.int IntKind.u64 o8.1) :: ((AV.int IntKind.u64 o8.2.1) :: ((AV.int IntKind.u64 o8.2.2.1) :: ((AV.int IntKind.u64 o8.2.2.2.1) :: ((AV.int IntKind.u64 o8.2.2.2.2) :: []))))) :: []))) :: [])) 2 ?_ (fun _ => ?_))
              · conv => whnf
                refine Or.inl ?_
                conv => whnf
                obtain ⟨hg, h8⟩ := grd_e h8
                refine And.intro hg ?_
                conv => whnf
                obtain ⟨hg, h8⟩ := grd_e h8
                refine And.intro hg ?_
                conv => whnf
                refine Or.inr ?_
                conv => whnf
                refine brn_i (fun hb => ?_) (fun hb => ?_)
                · replace h8 := cond_t h8 hb
                  conv => whnf
                  obtain rfl := Option.some.inj h8
                  exact end_i trivial [(0, 0), (1, 1)] rfl rfl rfl
                · replace h8 := cond_f h8 hb
                  conv => whnf
                  refine brn_i (fun hb => ?_) (fun hb => ?_)
                  · replace h8 := cond_t h8 hb
                    conv => whnf
                    obtain rfl := Option.some.inj h8
                    exact end_i trivial [(0, 0), (1, 1)] rfl rfl rfl
                  · replace h8 := cond_f h8 hb
                    conv => whnf
                    refine brn_i (fun hb => ?_) (fun hb => ?_)
                    · replace h8 := cond_t h8 hb
                      conv => whnf
                      obtain rfl := Option.some.inj h8
                      exact end_i trivial [(0, 0), (1, 1)] rfl rfl rfl
                    · replace h8 := cond_f h8 hb
                      conv => whnf
                      refine brn_i (fun hb => ?_) (fun hb => ?_)
                      · replace h8 := cond_t h8 hb
                        conv => whnf
                        obtain rfl := Option.some.inj h8
                        exact end_i trivial [(0, 0), (1, 1)] rfl rfl rfl
                      · replace h8 := cond_f h8 hb
                        conv => whnf
                        refine brn_i (fun hb => ?_) (fun hb => ?_)
                        · replace h8 := cond_t h8 hb
                          conv => whnf
                          obtain rfl := Option.some.inj h8
                          exact end_i trivial [(0, 0), (1, 1)] rfl rfl rfl
                        · replace h8 := cond_f h8 hb
                          conv => whnf
                          exact trivial
              · obtain ⟨c_68, c_69, c_70, c_71, c_72⟩ := o8
                conv => whnf
                exact round_i (n_52, (IntKind.wrap IntKind.i64 (t23_53 + (1 : Int))), c_68, c_69, c_70, c_71, c_72) [(0, 0), (1, 1)] k8 (Nat.lt_succ_self _) rfl rfl rfl
          · replace h4 := cond_f h4 (by first | exact hb | simpa using hb | simpa [chunk] using hb)
            conv => whnf
            obtain rfl := Option.some.inj h4
            exact end_i rfl [(0, 0), (1, 1)] rfl rfl rfl
      · replace k4 := elim_e hR k4
        generalize outR o4 = v at k4 ⊢
        obtain ⟨c_33, c_34, c_35, c_36, c_37⟩ := v
        conv => whnf
        refine And.intro (by decide) ?_
        conv => whnf
        refine And.intro (by decide) ?_
        conv => whnf
        refine Or.inl ?_
        conv => whnf
        refine And.intro (by decide) ?_
        conv => whnf
        refine And.intro (by decide) ?_
        conv => whnf
        refine Or.inl ?_
        conv => whnf
        refine And.intro (by decide) ?_
        conv => whnf
        refine And.intro (by decide) ?_
        conv => whnf
        refine Or.inl ?_
        conv => whnf
        refine And.intro (by decide) ?_
        conv => whnf
        refine And.intro (by decide) ?_
        conv => whnf
        refine Or.inl ?_
        conv => whnf
        refine And.intro (by decide) ?_
        conv => whnf
        refine And.intro (by decide) ?_
        conv => whnf
        refine Or.inl ?_
        conv => whnf
        refine And.intro (by decide) ?_
        conv => whnf
        obtain ⟨y_73, hy, k4⟩ := bind_e k4
        refine opt_i (cStr y_73) (getE rfl hy) ?_
        conv => whnf
        refine And.intro (by decide) ?_
        conv => whnf
        obtain ⟨y_74, hy, k4⟩ := bind_e k4
        refine opt_i (cStr y_74) (getE rfl hy) ?_
        conv => whnf
        refine And.intro (by kernel_rfl) ?_
        conv => whnf
        obtain rfl := Option.some.inj k4
        exact rfl

theorem cron_fields_FC {ml : Int} (F : Nat) (c : api_Cron) (r : A_5_uint64) (h : cron_fields F c = some r) : FC Tryd.prog (GM ml) 12 [] [(AV.agg (api_Cron.c c))] (.agg (A_5_uint64.c r)) [] := by
  refine FC_of 2000 Tryd.func12 rfl (by kernel_rfl) mixed (by show 1 ≤ 14; decide) ?_
  unfold cron_fields at h
  conv => whnf
  obtain rfl := Option.some.inj h
  exact rfl

theorem cron_full_FC {ml : Int} (F : Nat) (field : Int) (r : Int) (h : cron_full F field = some r) : FC Tryd.prog (GM ml) 13 [] [(AV.int IntKind.i64 field)] (.int IntKind.u64 r) [] := by
  refine FC_of 2000 Tryd.func13 rfl (by kernel_rfl) mixed (by show 1 ≤ 15; decide) ?_
  unfold cron_full at h
  conv => whnf
  refine Or.inl ?_
  conv => whnf
  refine brn_i (fun hb => ?_) (fun hb => ?_)
  · replace h := cond_t h hb
    conv => whnf
    refine Or.inl ?_
    conv => whnf
    obtain ⟨y_0, hy, h⟩ := bind_e h
    refine ⟨_, _, (cron_all_FC F (0 : Int) (6 : Int) y_0 hy), Or.inl ⟨rfl, rfl, ?_⟩⟩
    conv => whnf
    obtain rfl := Option.some.inj h
    exact rfl
  · replace h := cond_f h hb
    conv => whnf
    refine Or.inl ?_
    conv => whnf
    obtain ⟨hg, h⟩ := grd_e h
    refine And.intro hg ?_
    conv => whnf
    obtain ⟨hg, h⟩ := grd_e h
    refine And.intro hg ?_
    conv => whnf
    refine Or.inr ?_
    conv => whnf
    refine brn_i (fun hb => ?_) (fun hb => ?_)
    · replace h := cond_t h hb
      conv => whnf
      obtain ⟨hg, h⟩ := grd_e h
      refine And.intro hg ?_
      conv => whnf
      obtain ⟨hg, h⟩ := grd_e h
      refine And.intro hg ?_
      conv => whnf
      refine Or.inr ?_
      conv => whnf
      refine brn_i (fun hb => ?_) (fun hb => ?_)
      · replace h := cond_t h hb
        conv => whnf
        refine Or.inl ?_
        conv => whnf
        obtain ⟨y_1, hy, h⟩ := bind_e h
        refine ⟨_, _, (cron_all_FC F (0 : Int) (59 : Int) y_1 hy), Or.inl ⟨rfl, rfl, ?_⟩⟩
        conv => whnf
        refine And.intro (by kernel_rfl) ?_
        conv => whnf
        obtain rfl := Option.some.inj h
        exact rfl
      · cases (cond_f h hb)
    · replace h := cond_f h hb
      conv => whnf
      refine brn_i (fun hb => ?_) (fun hb => ?_)
      · replace h := cond_t h hb
        conv => whnf
        obtain ⟨hg, h⟩ := grd_e h
        refine And.intro hg ?_
        conv => whnf
        obtain ⟨hg, h⟩ := grd_e h
        refine And.intro hg ?_
        conv => whnf
        refine Or.inr ?_
        conv => whnf
        refine brn_i (fun hb => ?_) (fun hb => ?_)
        · cases (cond_t h hb)
        · replace h := cond_f h hb
          conv => whnf
          refine brn_i (fun hb => ?_) (fun hb => ?_)
          · replace h := cond_t h hb
            conv => whnf
            refine Or.inl ?_
            conv => whnf
            obtain ⟨y_2, hy, h⟩ := bind_e h
            refine ⟨_, _, (cron_all_FC F (0 : Int) (23 : Int) y_2 hy), Or.inl ⟨rfl, rfl, ?_⟩⟩
            conv => whnf
            refine And.intro (by kernel_rfl) ?_
            conv => whnf
            obtain rfl := Option.some.inj h
            exact rfl
          · cases (cond_f h hb)
      · replace h := cond_f h hb
        conv => whnf
        refine brn_i (fun hb => ?_) (fun hb => ?_)
        · replace h := cond_t h hb
          conv => whnf
          obtain ⟨hg, h⟩ := grd_e h
          refine And.intro hg ?_
          conv => whnf
          obtain ⟨hg, h⟩ := grd_e h
          refine And.intro hg ?_
          conv => whnf
          refine Or.inr ?_
          conv => whnf
          refine brn_i (fun hb => ?_) (fun hb => ?_)
          · cases (cond_t h hb)
          · replace h := cond_f h hb
            conv => whnf
            refine brn_i (fun hb => ?_) (fun hb => ?_)
            · cases (cond_t h hb)
            · replace h := cond_f h hb
              conv => whnf
              refine brn_i (fun hb => ?_) (fun hb => ?_)
              · replace h := cond_t h hb
                conv => whnf
                refine Or.inl ?_
                conv => whnf
                obtain ⟨y_3, hy, h⟩ := bind_e h
                refine ⟨_, _, (cron_all_FC F (1 : Int) (31 : Int) y_3 hy), Or.inl ⟨rfl, rfl, ?_⟩⟩
                conv => whnf
                refine And.intro (by kernel_rfl) ?_
                conv => whnf
                obtain rfl := Option.some.inj h
                exact rfl
              · cases (cond_f h hb)
        · replace h := cond_f h hb
          conv => whnf
          refine brn_i (fun hb => ?_) (fun hb => ?_)
          · replace h := cond_t h hb
            conv => whnf
            obtain ⟨hg, h⟩ := grd_e h
            refine And.intro hg ?_
            conv => whnf
            obtain ⟨hg, h⟩ := grd_e h
            refine And.intro hg ?_
            conv => whnf
            refine Or.inr ?_
            conv => whnf
            refine brn_i (fun hb => ?_) (fun hb => ?_)
            · cases (cond_t h hb)
            · replace h := cond_f h hb
              conv => whnf
              refine brn_i (fun hb => ?_) (fun hb => ?_)
              · cases (cond_t h hb)
              · replace h := cond_f h hb
                conv => whnf
                refine brn_i (fun hb => ?_) (fun hb => ?_)
                · cases (cond_t h hb)
                · replace h := cond_f h hb
                  conv => whnf
                  refine brn_i (fun hb => ?_) (fun hb => ?_)
                  · replace h := cond_t h hb
                    conv => whnf
                    refine Or.inl ?_
                    conv => whnf
                    obtain ⟨y_4, hy, h⟩ := bind_e h
                    refine ⟨_, _, (cron_all_FC F (1 : Int) (12 : Int) y_4 hy), Or.inl ⟨rfl, rfl, ?_⟩⟩
                    conv => whnf
                    refine And.intro (by kernel_rfl) ?_
                    conv => whnf
                    obtain rfl := Option.some.inj h
                    exact rfl
                  · cases (cond_f h hb)
          · replace h := cond_f h hb
            conv => whnf
            refine brn_i (fun hb => ?_) (fun hb => ?_)
            · cases (cond_t h hb)
            · replace h := cond_f h hb
              conv => whnf
              exact trivial

theorem cron_Check_FC {ml : Int} (F : Nat) (c : api_Cron) (r : Bool) (h : cron_Check F c = some r) : FC Tryd.prog (GM ml) 10 [] [(AV.agg (api_Cron.c c))] (.bool r) [] := by
  refine FC_of 2000 Tryd.func10 rfl (by kernel_rfl) mixed (by show 1 ≤ 41; decide) ?_
  unfold cron_Check at h
  conv => whnf
  refine Or.inl ?_
  conv => whnf
  obtain ⟨y_0, hy, h⟩ := bind_e h
  refine ⟨_, _, (cron_fields_FC F c y_0 hy), Or.inl ⟨rfl, rfl, ?_⟩⟩
  conv => whnf
  obtain ⟨o6, h6, k6⟩ := bind_e h
  refine Or.inr (joins_i (o6 = Sum.inr (outR o6)) ((1, (AV.ptr 0 0 0)) :: []) ((0, (AO.rows false (((AV.int IntKind.u64 c.Minute) :: ((AV.int IntKind.u64 c.Hour) :: ((AV.int IntKind.u64 c.Day) :: ((AV.int IntKind.u64 c.Month) :: ((AV.int IntKind.u64 c.Week) :: ((AV.bool c.AnyDay) :: ((AV.bool c.AnyWeek) :: []))))))) :: []))) :: []) 1 ?_ (fun hR => ?_))
  · conv => whnf
    refine Or.inl ?_
    conv => whnf
    refine loops_i (α := (Nat × Int)) (fun x => ((1, (AV.ptr 0 0 0)) :: ((6, (AV.agg ((AV.int IntKind.u64 y_0.e0) :: ((AV.int IntKind.u64 y_0.e1) :: ((AV.int IntKind.u64 y_0.e2) :: ((AV.int IntKind.u64 y_0.e3) :: ((AV.int IntKind.u64 y_0.e4) :: []))))))) :: ((7, (AV.int IntKind.i64 x.2)) :: [])))) (fun x => ((0, (AO.rows false (((AV.int IntKind.u64 c.Minute) :: ((AV.int IntKind.u64 c.Hour) :: ((AV.int IntKind.u64 c.Day) :: ((AV.int IntKind.u64 c.Month) :: ((AV.int IntKind.u64 c.Week) :: ((AV.bool c.AnyDay) :: ((AV.bool c.AnyWeek) :: []))))))) :: []))) :: [])) 1 (fun x => cron_Check_l0 F y_0 x.1 x.2 = some o6) (fun x => x.1) (F, (0 : Int)) [(0, 8)] h6 rfl rfl rfl ?_
    rintro ⟨n_17, t7_18⟩ h6
    replace h6 : cron_Check_l0 F y_0 n_17 t7_18 = some o6 := h6
    cases n_17 with
    | zero => rw [cron_Check_l0.eq_1] at h6; cases h6
    | succ n_17 =>
      rw [cron_Check_l0.eq_2] at h6
      conv => whnf
      refine Or.inl ?_
      conv => whnf
      refine brn_i (fun hb => ?_) (fun hb => ?_)
      · replace h6 := cond_t h6 hb
        conv => whnf
        refine Or.inl ?_
        conv => whnf
        obtain ⟨b_22, h13, k13⟩ := bind_e h6
        refine Or.inr (joins_i True ((1, (AV.ptr 0 0 0)) :: ((3, (AV.int IntKind.i64 t7_18)) :: ((4, (AV.int IntKind.u64 b_22)) :: ((6, (AV.agg ((AV.int IntKind.u64 y_0.e0) :: ((AV.int IntKind.u64 y_0.e1) :: ((AV.int IntKind.u64 y_0.e2) :: ((AV.int IntKind.u64 y_0.e3) :: ((AV.int IntKind.u64 y_0.e4) :: []))))))) :: ((7, (AV.int IntKind.i64 t7_18)) :: []))))) ((0, (AO.rows false (((AV.int IntKind.u64 c.Minute) :: ((AV.int IntKind.u64 c.Hour) :: ((AV.int IntKind.u64 c.Day) :: ((AV.int IntKind.u64 c.Month) :: ((AV.int IntKind.u64 c.Week) :: ((AV.bool c.AnyDay) :: ((AV.bool c.AnyWeek) :: []))))))) :: []))) :: []) 1 ?_ (fun _ => ?_))
        · conv => whnf
          refine Or.inl ?_
          conv => whnf
          obtain ⟨hg, h13⟩ := grd_e h13
          refine And.intro hg ?_
          conv => whnf
          obtain ⟨hg, h13⟩ := grd_e h13
          refine And.intro hg ?_
          conv => whnf
          refine Or.inr ?_
          conv => whnf
          refine brn_i (fun hb => ?_) (fun hb => ?_)
          · replace h13 := cond_t h13 hb
            conv => whnf
            obtain rfl := Option.some.inj h13
            exact end_i trivial [(0, 0)] rfl rfl rfl
          · replace h13 := cond_f h13 hb
            conv => whnf
            refine brn_i (fun hb => ?_) (fun hb => ?_)
            · replace h13 := cond_t h13 hb
              conv => whnf
              obtain rfl := Option.some.inj h13
              exact end_i trivial [(0, 0)] rfl rfl rfl
            · replace h13 := cond_f h13 hb
              conv => whnf
              refine brn_i (fun hb => ?_) (fun hb => ?_)
              · replace h13 := cond_t h13 hb
                conv => whnf
                obtain rfl := Option.some.inj h13
                exact end_i trivial [(0, 0)] rfl rfl rfl
              · replace h13 := cond_f h13 hb
                conv => whnf
                refine brn_i (fun hb => ?_) (fun hb => ?_)
                · replace h13 := cond_t h13 hb
                  conv => whnf
                  obtain rfl := Option.some.inj h13
                  exact end_i trivial [(0, 0)] rfl rfl rfl
                · replace h13 := cond_f h13 hb
                  conv => whnf
                  refine brn_i (fun hb => ?_) (fun hb => ?_)
                  · replace h13 := cond_t h13 hb
                    conv => whnf
                    obtain rfl := Option.some.inj h13
                    exact end_i trivial [(0, 0)] rfl rfl rfl
                  · replace h13 := cond_f h13 hb
                    conv => whnf
                    exact trivial
        · conv => whnf
          obtain ⟨t19_24, h14, k14⟩ := bind_e k13
          refine Or.inr (joins_i True ((1, (AV.ptr 0 0 0)) :: ((6, (AV.agg ((AV.int IntKind.u64 y_0.e0) :: ((AV.int IntKind.u64 y_0.e1) :: ((AV.int IntKind.u64 y_0.e2) :: ((AV.int IntKind.u64 y_0.e3) :: ((AV.int IntKind.u64 y_0.e4) :: []))))))) :: ((7, (AV.int IntKind.i64 t7_18)) :: ((19, (AV.bool t19_24)) :: [])))) ((0, (AO.rows false (((AV.int IntKind.u64 c.Minute) :: ((AV.int IntKind.u64 c.Hour) :: ((AV.int IntKind.u64 c.Day) :: ((AV.int IntKind.u64 c.Month) :: ((AV.int IntKind.u64 c.Week) :: ((AV.bool c.AnyDay) :: ((AV.bool c.AnyWeek) :: []))))))) :: []))) :: []) 1 ?_ (fun _ => ?_))
          · conv => whnf
            refine Or.inl ?_
            conv => whnf
            refine brn_i (fun hb => ?_) (fun hb => ?_)
            · replace h14 := cond_t h14 hb
              conv => whnf
              obtain rfl := Option.some.inj h14
              exact end_i trivial [(0, 0)] rfl rfl rfl
            · replace h14 := cond_f h14 hb
              conv => whnf
              refine Or.inl ?_
              conv => whnf
              obtain ⟨y_25, hy, h14⟩ := bind_e h14
              refine ⟨_, _, (cron_full_FC F t7_18 y_25 hy), Or.inl ⟨rfl, rfl, ?_⟩⟩
              conv => whnf
              obtain rfl := Option.some.inj h14
              exact end_i trivial [(0, 0)] rfl rfl rfl
          · conv => whnf
            refine Or.inl ?_
            conv => whnf
            refine brn_i (fun hb => ?_) (fun hb => ?_)
            · replace k14 := cond_t k14 hb
              conv => whnf
              obtain rfl := Option.some.inj k14
              obtain rfl := Option.some.inj k6
              exact rfl
            · replace k14 := cond_f k14 hb
              conv => whnf
              exact round_i (n_17, (IntKind.wrap IntKind.i64 (t7_18 + (1 : Int)))) [(0, 0)] k14 (Nat.lt_succ_self _) rfl rfl rfl
      · replace h6 := cond_f h6 hb
        conv => whnf
        obtain rfl := Option.some.inj h6
        exact end_i rfl [(0, 0)] rfl rfl rfl
  · replace k6 := elim_e hR k6
    generalize outR o6 = v at k6 ⊢
    conv => whnf
    refine Or.inl ?_
    conv => whnf
    refine brn_i (fun hb => ?_) (fun hb => ?_)
    · replace k6 := cond_t k6 hb
      conv => whnf
      refine brn_i (fun hb => ?_) (fun hb => ?_)
      · replace k6 := cond_t k6 hb
        conv => whnf
        refine And.intro (by kernel_rfl) ?_
        conv => whnf
        obtain rfl := Option.some.inj k6
        exact rfl
      · replace k6 := cond_f k6 hb
        conv => whnf
        refine Or.inl ?_
        conv => whnf
        obtain ⟨y_26, hy, k6⟩ := bind_e k6
        refine ⟨_, _, (cron_full_FC F (4 : Int) y_26 hy), Or.inl ⟨rfl, rfl, ?_⟩⟩
        conv => whnf
        refine And.intro (by kernel_rfl) ?_
        conv => whnf
        obtain rfl := Option.some.inj k6
        exact rfl
    · replace k6 := cond_f k6 hb
      conv => whnf
      refine Or.inl ?_
      conv => whnf
      obtain ⟨y_27, hy, k6⟩ := bind_e k6
      refine ⟨_, _, (cron_full_FC F (2 : Int) y_27 hy), Or.inl ⟨rfl, rfl, ?_⟩⟩
      conv => whnf
      refine brn_i (fun hb => ?_) (fun hb => ?_)
      · replace k6 := cond_t k6 hb
        conv => whnf
        refine brn_i (fun hb => ?_) (fun hb => ?_)
        · replace k6 := cond_t k6 hb
          conv => whnf
          refine And.intro (by kernel_rfl) ?_
          conv => whnf
          obtain rfl := Option.some.inj k6
          exact rfl
        · replace k6 := cond_f k6 hb
          conv => whnf
          refine Or.inl ?_
          conv => whnf
          obtain ⟨y_28, hy, k6⟩ := bind_e k6
          refine ⟨_, _, (cron_full_FC F (4 : Int) y_28 hy), Or.inl ⟨rfl, rfl, ?_⟩⟩
          conv => whnf
          refine And.intro (by kernel_rfl) ?_
          conv => whnf
          obtain rfl := Option.some.inj k6
          exact rfl
      · replace k6 := cond_f k6 hb
        conv => whnf
        refine And.intro (by kernel_rfl) ?_
        conv => whnf
        obtain rfl := Option.some.inj k6
        exact rfl

theorem math_bits_TrailingZeros64_FC {ml : Int} (F : Nat) (n : Int) (r : Int) (h : math_bits_TrailingZeros64 F n = some r) : FC Tryd.prog (GM ml) 21 [] [.int .u64 n] (.int .i64 r) [] := by
  unfold math_bits_TrailingZeros64 at h
  obtain ⟨hg, h⟩ := grd_e h
  obtain rfl := Option.some.inj h
  exact FC_ctz (g := 1) (by kernel_rfl) rfl (fun x w a b => Tryd.bits_TrailingZeros64 x a w b) n hg.1 hg.2

theorem strconv_Itoa_FC {ml : Int} (F : Nat) (n : Int) (r : (List UInt8)) (h : strconv_Itoa F n = some r) : FC Tryd.prog (GM ml) 22 [] [.int .i64 n] (.str r) [] := by
  unfold strconv_Itoa at h
  obtain ⟨hg, h⟩ := grd_e h
  obtain rfl := Option.some.inj h
  exact FC_itoa_small (by kernel_rfl) (fun n w a => Tryd.strconv_Itoa_small n a w) n hg.1 hg.2

theorem strings_Join_FC {ml : Int} (F : Nat) (xs : List (List UInt8)) (sep : (List UInt8)) (r : (List UInt8)) (h : strings_Join F xs sep = some r) : FC Tryd.prog (GM ml) 15 [] [.sl (List.map cStr xs), .str sep] (.str r) [] := by
  unfold strings_Join at h
  obtain ⟨hg, h⟩ := grd_e h
  obtain rfl := Option.some.inj h
  exact FC_join (by kernel_rfl) (fun a c sep w => Tryd.strings_Join_none a c sep w) (fun bk o c xs sep w a b d e g => Tryd.strings_Join bk o c xs sep w a b d e g) xs sep hg

theorem cron_runs_FC {ml : Int} (F : Nat) (b : Int) (r : (List UInt8)) (h : cron_runs F b = some r) : FC Tryd.prog (GM ml) 14 [] [(AV.int IntKind.u64 b)] (.str r) [] := by
  refine FC_of 2000 Tryd.func14 rfl (by kernel_rfl) mixed (by show 1 ≤ 42; decide) ?_
  unfold cron_runs at h
  conv => whnf
  obtain ⟨l_12, h2, k2⟩ := bind_e h
  refine Or.inr (joins_i True ((3, (AV.osw 0 (@GetElem.getElem (@Array TypeInfo) Nat TypeInfo (fun (xs_12 : (@Array TypeInfo)) => (fun (i_12 : Nat) => (i_12 < (@Array.size TypeInfo xs_12)))) (@Array.instGetElemNatLtSize TypeInfo) Proofs.Tryd.prog.toTables.types 9 (@Nat.le_of_ble_eq_true (Nat.succ 9) (@Array.size TypeInfo Proofs.Tryd.prog.toTables.types) (@rfl Bool true))).size)) :: []) ((0, (AO.rows true (List.map cStr l_12))) :: []) 1 ?_ (fun _ => ?_))
  · conv => whnf
    refine Or.inl ?_
    conv => whnf
    refine loops_i (α := (Nat × Int × (List (List UInt8)))) (fun x => ((0, (AV.int IntKind.u64 x.2.1)) :: ((3, (AV.osw 0 (@GetElem.getElem (@Array TypeInfo) Nat TypeInfo (fun (xs_12 : (@Array TypeInfo)) => (fun (i_12 : Nat) => (i_12 < (@Array.size TypeInfo xs_12)))) (@Array.instGetElemNatLtSize TypeInfo) Proofs.Tryd.prog.toTables.types 9 (@Nat.le_of_ble_eq_true (Nat.succ 9) (@Array.size TypeInfo Proofs.Tryd.prog.toTables.types) (@rfl Bool true))).size)) :: []))) (fun x => ((0, (AO.rows true (List.map cStr x.2.2))) :: [])) 1 (fun x => cron_runs_l0 F x.1 x.2.1 x.2.2 = some l_12) (fun x => x.1) (F, b, []) [(0, 16)] h2 rfl (cons2 (congrArg (fun X => some (AO.rows true X)) (by first | (simp; done) | rfl | (rw [List.map_append]; rfl))) rfl) rfl ?_
    rintro ⟨n_19, b_20, l_21⟩ h2
    replace h2 : cron_runs_l0 F n_19 b_20 l_21 = some l_12 := h2
    cases n_19 with
    | zero => rw [cron_runs_l0.eq_1] at h2; cases h2
    | succ n_19 =>
      rw [cron_runs_l0.eq_2] at h2
      conv => whnf
      refine Or.inl ?_
      conv => whnf
      refine brn_i (fun hb => ?_) (fun hb => ?_)
      · replace h2 := cond_t h2 hb
        conv => whnf
        refine Or.inl ?_
        conv => whnf
        refine Or.inl ?_
        conv => whnf
        obtain ⟨y_22, hy, h2⟩ := bind_e h2
        refine ⟨_, _, (math_bits_TrailingZeros64_FC F b_20 y_22 hy), Or.inl ⟨rfl, rfl, ?_⟩⟩
        conv => whnf
        obtain ⟨hg, h2⟩ := grd_e h2
        refine And.intro hg ?_
        conv => whnf
        refine Or.inl ?_
        conv => whnf
        obtain ⟨y_23, hy, h2⟩ := bind_e h2
        refine ⟨_, _, (math_bits_TrailingZeros64_FC F (@ibits BinOp.xor IntKind.u64 (if ((@IntKind.signed IntKind.u64) = true) then (@Neg.neg Int Int.instNegInt (1 : Int)) else (@IntKind.max IntKind.u64)) (@Int.fdiv b_20 ((2 : Int) ^ (min (Int.toNat y_22) 64)))) y_23 hy), Or.inl ⟨rfl, rfl, ?_⟩⟩
        conv => whnf
        refine Or.inl ?_
        conv => whnf
        obtain ⟨y_24, hy, h2⟩ := bind_e h2
        refine ⟨_, _, (strconv_Itoa_FC F y_22 y_24 hy), Or.inl ⟨rfl, rfl, ?_⟩⟩
        conv => whnf
        obtain ⟨s_26, h4, k4⟩ := bind_e h2
        refine Or.inr (joins_i True ((0, (AV.int IntKind.u64 b_20)) :: ((3, (AV.osw 0 (@GetElem.getElem (@Array TypeInfo) Nat TypeInfo (fun (xs_12 : (@Array TypeInfo)) => (fun (i_12 : Nat) => (i_12 < (@Array.size TypeInfo xs_12)))) (@Array.instGetElemNatLtSize TypeInfo) Proofs.Tryd.prog.toTables.types 9 (@Nat.le_of_ble_eq_true (Nat.succ 9) (@Array.size TypeInfo Proofs.Tryd.prog.toTables.types) (@rfl Bool true))).size)) :: ((4, (AV.int IntKind.i64 y_22)) :: ((5, (AV.int IntKind.i64 y_23)) :: ((6, (AV.str s_26)) :: []))))) ((0, (AO.rows true (List.map cStr l_21))) :: []) 1 ?_ (fun _ => ?_))
        · conv => whnf
          refine Or.inl ?_
          conv => whnf
          refine brn_i (fun hb => ?_) (fun hb => ?_)
          · replace h4 := cond_t h4 hb
            conv => whnf
            refine Or.inl ?_
            conv => whnf
            obtain ⟨y_27, hy, h4⟩ := bind_e h4
            refine ⟨_, _, (strconv_Itoa_FC F (IntKind.wrap IntKind.i64 ((IntKind.wrap IntKind.i64 (y_22 + y_23)) - (1 : Int))) y_27 hy), Or.inl ⟨rfl, rfl, ?_⟩⟩
            conv => whnf
            obtain ⟨hg, h4⟩ := grd_e h4
            refine And.intro hg ?_
            conv => whnf
            obtain ⟨hg, h4⟩ := grd_e h4
            refine And.intro hg ?_
            conv => whnf
            obtain rfl := Option.some.inj h4
            exact end_i trivial [(0, 0)] rfl rfl rfl
          · replace h4 := cond_f h4 hb
            conv => whnf
            obtain rfl := Option.some.inj h4
            exact end_i trivial [(0, 0)] rfl rfl rfl
        · conv => whnf
          refine And.intro (LenAll.cons rfl LenAll.nil) ?_
          conv => whnf
          refine And.intro (LenAll.map (fun _ => rfl)) ?_
          conv => whnf
          obtain ⟨hg, k4⟩ := grd_e k4
          refine And.intro (by first | exact hg | simpa using hg | simpa [chunk] using hg | (simp [chunk] at hg ⊢; omega)) ?_
          conv => whnf
          refine Or.inl ?_
          conv => whnf
          obtain ⟨y_28, hy, k4⟩ := bind_e k4
          refine ⟨_, _, (cron_all_FC F y_22 (IntKind.wrap IntKind.i64 ((IntKind.wrap IntKind.i64 (y_22 + y_23)) - (1 : Int))) y_28 hy), Or.inl ⟨rfl, rfl, ?_⟩⟩
          conv => whnf
          exact round_i (n_19, (@ibits BinOp.andNot IntKind.u64 b_20 y_28), (l_21 ++ (s_26 :: []))) [(0, 25)] k4 (Nat.lt_succ_self _) rfl (cons2 (congrArg (fun X => some (AO.rows true X)) (by first | (simp; done) | rfl | (rw [List.map_append]; rfl))) rfl) rfl
      · replace h2 := cond_f h2 hb
        conv => whnf
        obtain rfl := Option.some.inj h2
        exact end_i trivial [(0, 0)] rfl rfl rfl
  · conv => whnf
    refine Or.inl ?_
    conv => whnf
    obtain ⟨y_29, hy, k2⟩ := bind_e k2
    refine ⟨_, _, (strings_Join_FC F l_12 ([44] : List UInt8) y_29 hy), Or.inl ⟨rfl, rfl, ?_⟩⟩
    conv => whnf
    obtain rfl := Option.some.inj k2
    exact rfl

theorem cron_Print_FC {ml : Int} (F : Nat) (c : api_Cron) (r : ((List UInt8) × Int)) (h : cron_Print F c = some r) : FC Tryd.prog (GM ml) 8 [] [(AV.agg (api_Cron.c c))] (.tup [(.str r.1), (.int IntKind.i64 r.2)]) [] := by
  refine FC_of 2000 Tryd.func8 rfl (by kernel_rfl) mixed (by show 1 ≤ 42; decide) ?_
  unfold cron_Print at h
  conv => whnf
  refine Or.inl ?_
  conv => whnf
  obtain ⟨y_0, hy, h⟩ := bind_e h
  refine ⟨_, _, (cron_Check_FC F c y_0 hy), Or.inl ⟨rfl, rfl, ?_⟩⟩
  conv => whnf
  refine Or.inl ?_
  conv => whnf
  refine brn_i (fun hb => ?_) (fun hb => ?_)
  · replace h := cond_t h hb
    conv => whnf
    obtain rfl := Option.some.inj h
    exact rfl
  · replace h := cond_f h hb
    conv => whnf
    refine Or.inl ?_
    conv => whnf
    obtain ⟨y_1, hy, h⟩ := bind_e h
    refine ⟨_, _, (cron_fields_FC F c y_1 hy), Or.inl ⟨rfl, rfl, ?_⟩⟩
    conv => whnf
    obtain ⟨l_10, h4, k4⟩ := bind_e h
    refine Or.inr (joins_i True ((4, (AV.osw 0 (@GetElem.getElem (@Array TypeInfo) Nat TypeInfo (fun (xs_12 : (@Array TypeInfo)) => (fun (i_12 : Nat) => (i_12 < (@Array.size TypeInfo xs_12)))) (@Array.instGetElemNatLtSize TypeInfo) Proofs.Tryd.prog.toTables.types 9 (@Nat.le_of_ble_eq_true (Nat.succ 9) (@Array.size TypeInfo Proofs.Tryd.prog.toTables.types) (@rfl Bool true))).size)) :: []) ((0, (AO.rows true (List.map cStr l_10))) :: []) 1 ?_ (fun _ => ?_))
    · conv => whnf
      refine Or.inl ?_
      conv => whnf
      refine loops_i (α := (Nat × Int × (List (List UInt8)))) (fun x => ((1, (AV.ptr 0 0 0)) :: ((4, (AV.osw 1 (@GetElem.getElem (@Array TypeInfo) Nat TypeInfo (fun (xs_12 : (@Array TypeInfo)) => (fun (i_12 : Nat) => (i_12 < (@Array.size TypeInfo xs_12)))) (@Array.instGetElemNatLtSize TypeInfo) Proofs.Tryd.prog.toTables.types 9 (@Nat.le_of_ble_eq_true (Nat.succ 9) (@Array.size TypeInfo Proofs.Tryd.prog.toTables.types) (@rfl Bool true))).size)) :: ((12, (AV.agg ((AV.int IntKind.u64 y_1.e0) :: ((AV.int IntKind.u64 y_1.e1) :: ((AV.int IntKind.u64 y_1.e2) :: ((AV.int IntKind.u64 y_1.e3) :: ((AV.int IntKind.u64 y_1.e4) :: []))))))) :: ((13, (AV.int IntKind.i64 x.2.1)) :: []))))) (fun x => ((0, (AO.rows false (((AV.int IntKind.u64 c.Minute) :: ((AV.int IntKind.u64 c.Hour) :: ((AV.int IntKind.u64 c.Day) :: ((AV.int IntKind.u64 c.Month) :: ((AV.int IntKind.u64 c.Week) :: ((AV.bool c.AnyDay) :: ((AV.bool c.AnyWeek) :: []))))))) :: []))) :: ((1, (AO.rows true (List.map cStr x.2.2))) :: []))) 2 (fun x => cron_Print_l0 F c y_1 x.1 x.2.1 x.2.2 = some l_10) (fun x => x.1) (F, (0 : Int), []) [(0, 8), (1, 56)] h4 rfl (cons2 rfl (cons2 (congrArg (fun X => some (AO.rows true X)) (by first | (simp; done) | rfl | (rw [List.map_append]; rfl))) rfl)) rfl ?_
      rintro ⟨n_16, t13_17, l_18⟩ h4
      replace h4 : cron_Print_l0 F c y_1 n_16 t13_17 l_18 = some l_10 := h4
      cases n_16 with
      | zero => rw [cron_Print_l0.eq_1] at h4; cases h4
      | succ n_16 =>
        rw [cron_Print_l0.eq_2] at h4
        conv => whnf
        refine Or.inl ?_
        conv => whnf
        refine brn_i (fun hb => ?_) (fun hb => ?_)
        · replace h4 := cond_t h4 hb
          conv => whnf
          obtain ⟨l_23, h10, k10⟩ := bind_e h4
          refine Or.inr (joins_i True ((1, (AV.ptr 0 0 0)) :: ((4, (AV.osw 1 (@GetElem.getElem (@Array TypeInfo) Nat TypeInfo (fun (xs_12 : (@Array TypeInfo)) => (fun (i_12 : Nat) => (i_12 < (@Array.size TypeInfo xs_12)))) (@Array.instGetElemNatLtSize TypeInfo) Proofs.Tryd.prog.toTables.types 9 (@Nat.le_of_ble_eq_true (Nat.succ 9) (@Array.size TypeInfo Proofs.Tryd.prog.toTables.types) (@rfl Bool true))).size)) :: ((12, (AV.agg ((AV.int IntKind.u64 y_1.e0) :: ((AV.int IntKind.u64 y_1.e1) :: ((AV.int IntKind.u64 y_1.e2) :: ((AV.int IntKind.u64 y_1.e3) :: ((AV.int IntKind.u64 y_1.e4) :: []))))))) :: ((13, (AV.int IntKind.i64 t13_17)) :: [])))) ((0, (AO.rows false (((AV.int IntKind.u64 c.Minute) :: ((AV.int IntKind.u64 c.Hour) :: ((AV.int IntKind.u64 c.Day) :: ((AV.int IntKind.u64 c.Month) :: ((AV.int IntKind.u64 c.Week) :: ((AV.bool c.AnyDay) :: ((AV.bool c.AnyWeek) :: []))))))) :: []))) :: ((1, (AO.rows true (List.map cStr l_23))) :: [])) 2 ?_ (fun _ => ?_))
          · conv => whnf
            refine Or.inl ?_
            conv => whnf
            obtain ⟨b_24, h11, k11⟩ := bind_e h10
            refine Or.inr (joins_i True ((1, (AV.ptr 0 0 0)) :: ((4, (AV.osw 1 (@GetElem.getElem (@Array TypeInfo) Nat TypeInfo (fun (xs_12 : (@Array TypeInfo)) => (fun (i_12 : Nat) => (i_12 < (@Array.size TypeInfo xs_12)))) (@Array.instGetElemNatLtSize TypeInfo) Proofs.Tryd.prog.toTables.types 9 (@Nat.le_of_ble_eq_true (Nat.succ 9) (@Array.size TypeInfo Proofs.Tryd.prog.toTables.types) (@rfl Bool true))).size)) :: ((5, (AV.int IntKind.i64 t13_17)) :: ((6, (AV.int IntKind.u64 b_24)) :: ((12, (AV.agg ((AV.int IntKind.u64 y_1.e0) :: ((AV.int IntKind.u64 y_1.e1) :: ((AV.int IntKind.u64 y_1.e2) :: ((AV.int IntKind.u64 y_1.e3) :: ((AV.int IntKind.u64 y_1.e4) :: []))))))) :: ((13, (AV.int IntKind.i64 t13_17)) :: [])))))) ((0, (AO.rows false (((AV.int IntKind.u64 c.Minute) :: ((AV.int IntKind.u64 c.Hour) :: ((AV.int IntKind.u64 c.Day) :: ((AV.int IntKind.u64 c.Month) :: ((AV.int IntKind.u64 c.Week) :: ((AV.bool c.AnyDay) :: ((AV.bool c.AnyWeek) :: []))))))) :: []))) :: ((1, (AO.rows true (List.map cStr l_18))) :: [])) 2 ?_ (fun _ => ?_))
            · conv => whnf
              refine Or.inl ?_
              conv => whnf
              obtain ⟨hg, h11⟩ := grd_e h11
              refine And.intro hg ?_
              conv => whnf
              obtain ⟨hg, h11⟩ := grd_e h11
              refine And.intro hg ?_
              conv => whnf
              refine Or.inr ?_
              conv => whnf
              refine brn_i (fun hb => ?_) (fun hb => ?_)
              · replace h11 := cond_t h11 hb
                conv => whnf
                obtain rfl := Option.some.inj h11
                exact end_i trivial [(0, 0), (1, 1)] rfl rfl rfl
              · replace h11 := cond_f h11 hb
                conv => whnf
                refine brn_i (fun hb => ?_) (fun hb => ?_)
                · replace h11 := cond_t h11 hb
                  conv => whnf
                  obtain rfl := Option.some.inj h11
                  exact end_i trivial [(0, 0), (1, 1)] rfl rfl rfl
                · replace h11 := cond_f h11 hb
                  conv => whnf
                  refine brn_i (fun hb => ?_) (fun hb => ?_)
                  · replace h11 := cond_t h11 hb
                    conv => whnf
                    obtain rfl := Option.some.inj h11
                    exact end_i trivial [(0, 0), (1, 1)] rfl rfl rfl
                  · replace h11 := cond_f h11 hb
                    conv => whnf
                    refine brn_i (fun hb => ?_) (fun hb => ?_)
                    · replace h11 := cond_t h11 hb
                      conv => whnf
                      obtain rfl := Option.some.inj h11
                      exact end_i trivial [(0, 0), (1, 1)] rfl rfl rfl
                    · replace h11 := cond_f h11 hb
                      conv => whnf
                      refine brn_i (fun hb => ?_) (fun hb => ?_)
                      · replace h11 := cond_t h11 hb
                        conv => whnf
                        obtain rfl := Option.some.inj h11
                        exact end_i trivial [(0, 0), (1, 1)] rfl rfl rfl
                      · replace h11 := cond_f h11 hb
                        conv => whnf
                        exact trivial
            · conv => whnf
              refine Or.inl ?_
              conv => whnf
              obtain ⟨y_25, hy, k11⟩ := bind_e k11
              refine ⟨_, _, (cron_full_FC F t13_17 y_25 hy), Or.inl ⟨rfl, rfl, ?_⟩⟩
              conv => whnf
              obtain ⟨star_26, h12, k12⟩ := bind_e k11
              refine Or.inr (joins_i True ((1, (AV.ptr 0 0 0)) :: ((4, (AV.osw 1 (@GetElem.getElem (@Array TypeInfo) Nat TypeInfo (fun (xs_12 : (@Array TypeInfo)) => (fun (i_12 : Nat) => (i_12 < (@Array.size TypeInfo xs_12)))) (@Array.instGetElemNatLtSize TypeInfo) Proofs.Tryd.prog.toTables.types 9 (@Nat.le_of_ble_eq_true (Nat.succ 9) (@Array.size TypeInfo Proofs.Tryd.prog.toTables.types) (@rfl Bool true))).size)) :: ((6, (AV.int IntKind.u64 b_24)) :: ((7, (AV.bool star_26)) :: ((12, (AV.agg ((AV.int IntKind.u64 y_1.e0) :: ((AV.int IntKind.u64 y_1.e1) :: ((AV.int IntKind.u64 y_1.e2) :: ((AV.int IntKind.u64 y_1.e3) :: ((AV.int IntKind.u64 y_1.e4) :: []))))))) :: ((13, (AV.int IntKind.i64 t13_17)) :: [])))))) ((0, (AO.rows false (((AV.int IntKind.u64 c.Minute) :: ((AV.int IntKind.u64 c.Hour) :: ((AV.int IntKind.u64 c.Day) :: ((AV.int IntKind.u64 c.Month) :: ((AV.int IntKind.u64 c.Week) :: ((AV.bool c.AnyDay) :: ((AV.bool c.AnyWeek) :: []))))))) :: []))) :: ((1, (AO.rows true (List.map cStr l_18))) :: [])) 2 ?_ (fun _ => ?_))
              · conv => whnf
                refine Or.inl ?_
                conv => whnf
                refine Or.inl ?_
                conv => whnf
                refine brn_i (fun hb => ?_) (fun hb => ?_)
                · replace h12 := cond_t h12 hb
                  conv => whnf
                  obtain rfl := Option.some.inj h12
                  exact end_i trivial [(0, 0), (1, 1)] rfl rfl rfl
                · replace h12 := cond_f h12 hb
                  conv => whnf
                  refine Or.inl ?_
                  conv => whnf
                  refine brn_i (fun hb => ?_) (fun hb => ?_)
                  · replace h12 := cond_t h12 hb
                    conv => whnf
                    obtain rfl := Option.some.inj h12
                    exact end_i trivial [(0, 0), (1, 1)] rfl rfl rfl
                  · replace h12 := cond_f h12 hb
                    conv => whnf
                    obtain rfl := Option.some.inj h12
                    exact end_i trivial [(0, 0), (1, 1)] rfl rfl rfl
              · conv => whnf
                refine Or.inl ?_
                conv => whnf
                refine brn_i (fun hb => ?_) (fun hb => ?_)
                · replace k12 := cond_t k12 hb
                  conv => whnf
                  refine And.intro (LenAll.cons rfl LenAll.nil) ?_
                  conv => whnf
                  refine And.intro (LenAll.map (fun _ => rfl)) ?_
                  conv => whnf
                  obtain ⟨hg, k12⟩ := grd_e k12
                  refine And.intro (by first | exact hg | simpa using hg | simpa [chunk] using hg | (simp [chunk] at hg ⊢; omega)) ?_
                  conv => whnf
                  obtain rfl := Option.some.inj k12
                  exact end_i trivial [(0, 0), (1, 26)] rfl (cons2 rfl (cons2 (congrArg (fun X => some (AO.rows true X)) (by first | (simp; done) | rfl | (rw [List.map_append]; rfl))) rfl)) rfl
                · replace k12 := cond_f k12 hb
                  conv => whnf
                  refine Or.inl ?_
                  conv => whnf
                  obtain ⟨y_27, hy, k12⟩ := bind_e k12
                  refine ⟨_, _, (cron_runs_FC F b_24 y_27 hy), Or.inl ⟨rfl, rfl, ?_⟩⟩
                  conv => whnf
                  refine And.intro (LenAll.cons rfl LenAll.nil) ?_
                  conv => whnf
                  refine And.intro (LenAll.map (fun _ => rfl)) ?_
                  conv => whnf
                  obtain ⟨hg, k12⟩ := grd_e k12
                  refine And.intro (by first | exact hg | simpa using hg | simpa [chunk] using hg | (simp [chunk] at hg ⊢; omega)) ?_
                  conv => whnf
                  obtain rfl := Option.some.inj k12
                  exact end_i trivial [(0, 0), (1, 42)] rfl (cons2 rfl (cons2 (congrArg (fun X => some (AO.rows true X)) (by first | (simp; done) | rfl | (rw [List.map_append]; rfl))) rfl)) rfl
          · conv => whnf
            exact round_i (n_16, (IntKind.wrap IntKind.i64 (t13_17 + (1 : Int))), l_23) [(0, 0), (1, 1)] k10 (Nat.lt_succ_self _) rfl rfl rfl
        · replace h4 := cond_f h4 hb
          conv => whnf
          obtain rfl := Option.some.inj h4
          exact end_i trivial [(0, 1)] rfl rfl rfl
    · conv => whnf
      refine Or.inl ?_
      conv => whnf
      obtain ⟨y_28, hy, k4⟩ := bind_e k4
      refine ⟨_, _, (strings_Join_FC F l_10 ([32] : List UInt8) y_28 hy), Or.inl ⟨rfl, rfl, ?_⟩⟩
      conv => whnf
      obtain rfl := Option.some.inj k4
      exact rfl

theorem civil_leap_FC {ml : Int} (F : Nat) (year : Int) (r : Bool) (h : civil_leap F year = some r) : FC Tryd.prog (GM ml) 36 [] [(AV.int IntKind.i64 year)] (.bool r) [] := by
  refine FC_of 2000 Tryd.func36 rfl (by kernel_rfl) mixed (by show 1 ≤ 16; decide) ?_
  unfold civil_leap at h
  conv => whnf
  refine Or.inl ?_
  conv => whnf
  refine And.intro (by decide) ?_
  conv => whnf
  refine brn_i (fun hb => ?_) (fun hb => ?_)
  · replace h := cond_t h hb
    conv => whnf
    refine And.intro (by decide) ?_
    conv => whnf
    refine brn_i (fun hb => ?_) (fun hb => ?_)
    · replace h := cond_t h hb
      conv => whnf
      obtain rfl := Option.some.inj h
      exact rfl
    · replace h := cond_f h hb
      conv => whnf
      refine And.intro (by decide) ?_
      conv => whnf
      obtain rfl := Option.some.inj h
      exact rfl
  · replace h := cond_f h hb
    conv => whnf
    obtain rfl := Option.some.inj h
    exact rfl

theorem civil_Days_FC {ml : Int} (F : Nat) (year : Int) (month : Int) (r : Int) (h : civil_Days F year month = some r) : FC Tryd.prog (GM ml) 28 [] [(AV.int IntKind.i64 year), (AV.int IntKind.i64 month)] (.int IntKind.i64 r) [] := by
  refine FC_of 2000 Tryd.func28 rfl (by kernel_rfl) mixed (by show 2 ≤ 45; decide) ?_
  unfold civil_Days at h
  conv => whnf
  refine Or.inl ?_
  conv => whnf
  obtain ⟨t5_4, h3, k3⟩ := bind_e h
  refine Or.inr (joins_i True ((0, (AV.int IntKind.i64 year)) :: ((1, (AV.int IntKind.i64 month)) :: ((5, (AV.bool t5_4)) :: []))) [] 0 ?_ (fun _ => ?_))
  · conv => whnf
    refine Or.inl ?_
    conv => whnf
    refine brn_i (fun hb => ?_) (fun hb => ?_)
    · replace h3 := cond_t h3 hb
      conv => whnf
      obtain rfl := Option.some.inj h3
      exact end_i trivial [] rfl rfl rfl
    · replace h3 := cond_f h3 hb
      conv => whnf
      refine brn_i (fun hb => ?_) (fun hb => ?_)
      · replace h3 := cond_t h3 hb
        conv => whnf
        obtain rfl := Option.some.inj h3
        exact end_i trivial [] rfl rfl rfl
      · replace h3 := cond_f h3 hb
        conv => whnf
        refine brn_i (fun hb => ?_) (fun hb => ?_)
        · replace h3 := cond_t h3 hb
          conv => whnf
          obtain rfl := Option.some.inj h3
          exact end_i trivial [] rfl rfl rfl
        · replace h3 := cond_f h3 hb
          conv => whnf
          obtain rfl := Option.some.inj h3
          exact end_i trivial [] rfl rfl rfl
  · conv => whnf
    refine Or.inl ?_
    conv => whnf
    refine brn_i (fun hb => ?_) (fun hb => ?_)
    · replace k3 := cond_t k3 hb
      conv => whnf
      obtain rfl := Option.some.inj k3
      exact rfl
    · replace k3 := cond_f k3 hb
      conv => whnf
      obtain ⟨t20_6, h4, k4⟩ := bind_e k3
      refine Or.inr (joins_i True ((1, (AV.int IntKind.i64 month)) :: ((20, (AV.bool t20_6)) :: [])) [] 0 ?_ (fun _ => ?_))
      · conv => whnf
        refine Or.inl ?_
        conv => whnf
        refine brn_i (fun hb => ?_) (fun hb => ?_)
        · replace h4 := cond_t h4 hb
          conv => whnf
          refine Or.inl ?_
          conv => whnf
          obtain ⟨y_7, hy, h4⟩ := bind_e h4
          refine ⟨_, _, (civil_leap_FC F year y_7 hy), Or.inl ⟨rfl, rfl, ?_⟩⟩
          conv => whnf
          obtain rfl := Option.some.inj h4
          exact end_i trivial [] rfl rfl rfl
        · replace h4 := cond_f h4 hb
          conv => whnf
          obtain rfl := Option.some.inj h4
          exact end_i trivial [] rfl rfl rfl
      · conv => whnf
        refine Or.inl ?_
        conv => whnf
        refine brn_i (fun hb => ?_) (fun hb => ?_)
        · replace k4 := cond_t k4 hb
          conv => whnf
          obtain rfl := Option.some.inj k4
          exact rfl
        · replace k4 := cond_f k4 hb
          conv => whnf
          refine Or.inl ?_
          conv => whnf
          refine brn_i (fun hb => ?_) (fun hb => ?_)
          · replace k4 := cond_t k4 hb
            conv => whnf
            obtain rfl := Option.some.inj k4
            exact rfl
          · replace k4 := cond_f k4 hb
            conv => whnf
            obtain ⟨t30_8, h5, k5⟩ := bind_e k4
            refine Or.inr (joins_i True ((30, (AV.bool t30_8)) :: []) [] 0 ?_ (fun _ => ?_))
            · conv => whnf
              refine Or.inl ?_
              conv => whnf
              refine brn_i (fun hb => ?_) (fun hb => ?_)
              · replace h5 := cond_t h5 hb
                conv => whnf
                obtain rfl := Option.some.inj h5
                exact end_i trivial [] rfl rfl rfl
              · replace h5 := cond_f h5 hb
                conv => whnf
                refine brn_i (fun hb => ?_) (fun hb => ?_)
                · replace h5 := cond_t h5 hb
                  conv => whnf
                  obtain rfl := Option.some.inj h5
                  exact end_i trivial [] rfl rfl rfl
                · replace h5 := cond_f h5 hb
                  conv => whnf
                  refine brn_i (fun hb => ?_) (fun hb => ?_)
                  · replace h5 := cond_t h5 hb
                    conv => whnf
                    obtain rfl := Option.some.inj h5
                    exact end_i trivial [] rfl rfl rfl
                  · replace h5 := cond_f h5 hb
                    conv => whnf
                    obtain rfl := Option.some.inj h5
                    exact end_i trivial [] rfl rfl rfl
            · conv => whnf
              refine Or.inl ?_
              conv => whnf
              refine brn_i (fun hb => ?_) (fun hb => ?_)
              · replace k5 := cond_t k5 hb
                conv => whnf
                obtain rfl := Option.some.inj k5
                exact rfl
              · replace k5 := cond_f k5 hb
                conv => whnf
                obtain rfl := Option.some.inj k5
                exact rfl

theorem civil_number_FC {ml : Int} (F : Nat) (year : Int) (month : Int) (day : Int) (r : Int) (h : civil_number F year month day = some r) : FC Tryd.prog (GM ml) 29 [] [(AV.int IntKind.i64 year), (AV.int IntKind.i64 month), (AV.int IntKind.i64 day)] (.int IntKind.i64 r) [] := by
  refine FC_of 2000 Tryd.func29 rfl (by kernel_rfl) mixed (by show 3 ≤ 37; decide) ?_
  unfold civil_number at h
  conv => whnf
  obtain ⟨o0, h0, k0⟩ := bind_e h
  refine Or.inr (joins_i True ((2, (AV.int IntKind.i64 day)) :: ((7, (AV.int IntKind.i64 o0.1)) :: ((8, (AV.int IntKind.i64 o0.2)) :: []))) [] 0 ?_ (fun _ => ?_))
  · conv => whnf
    refine Or.inl ?_
    conv => whnf
    refine brn_i (fun hb => ?_) (fun hb => ?_)
    · replace h0 := cond_t h0 hb
      conv => whnf
      obtain rfl := Option.some.inj h0
      exact end_i trivial [] rfl rfl rfl
    · replace h0 := cond_f h0 hb
      conv => whnf
      obtain rfl := Option.some.inj h0
      exact end_i trivial [] rfl rfl rfl
  · obtain ⟨y_0, m_1⟩ := o0
    conv => whnf
    refine And.intro (by decide) ?_
    conv => whnf
    refine And.intro (by decide) ?_
    conv => whnf
    refine And.intro (by decide) ?_
    conv => whnf
    refine And.intro (by decide) ?_
    conv => whnf
    obtain rfl := Option.some.inj k0
    exact rfl

theorem civil_To_FC {ml : Int} (F : Nat) (c : api_Civil) (r : (Int × Int)) (h : civil_To F c = some r) : FC Tryd.prog (GM ml) 19 [] [(AV.agg (api_Civil.c c))] (.tup [(.int IntKind.i64 r.1), (.int IntKind.i64 r.2)]) [] := by
  refine FC_of 2000 Tryd.func19 rfl (by kernel_rfl) mixed (by show 1 ≤ 52; decide) ?_
  unfold civil_To at h
  conv => whnf
  obtain ⟨t36_1, h0, k0⟩ := bind_e h
  refine Or.inr (joins_i True ((1, (AV.ptr 0 0 0)) :: ((36, (AV.bool t36_1)) :: [])) ((0, (AO.rows false (((AV.int IntKind.i64 c.Year) :: ((AV.int IntKind.i64 c.Month) :: ((AV.int IntKind.i64 c.Day) :: ((AV.int IntKind.i64 c.Hour) :: ((AV.int IntKind.i64 c.Minute) :: ((AV.int IntKind.i64 c.Week) :: [])))))) :: []))) :: []) 1 ?_ (fun _ => ?_))
  · conv => whnf
    refine Or.inl ?_
    conv => whnf
    refine brn_i (fun hb => ?_) (fun hb => ?_)
    · replace h0 := cond_t h0 hb
      conv => whnf
      refine And.intro (by kernel_rfl) ?_
      conv => whnf
      obtain rfl := Option.some.inj h0
      exact end_i trivial [(0, 8)] rfl rfl rfl
    · replace h0 := cond_f h0 hb
      conv => whnf
      refine Or.inl ?_
      conv => whnf
      obtain ⟨y_2, hy, h0⟩ := bind_e h0
      refine ⟨_, _, (civil_Days_FC F c.Year c.Month y_2 hy), Or.inl ⟨rfl, rfl, ?_⟩⟩
      conv => whnf
      refine brn_i (fun hb => ?_) (fun hb => ?_)
      · replace h0 := cond_t h0 hb
        conv => whnf
        refine And.intro (by kernel_rfl) ?_
        conv => whnf
        obtain rfl := Option.some.inj h0
        exact end_i trivial [(0, 8)] rfl rfl rfl
      · replace h0 := cond_f h0 hb
        conv => whnf
        refine brn_i (fun hb => ?_) (fun hb => ?_)
        · replace h0 := cond_t h0 hb
          conv => whnf
          refine And.intro (by kernel_rfl) ?_
          conv => whnf
          obtain rfl := Option.some.inj h0
          exact end_i trivial [(0, 8)] rfl rfl rfl
        · replace h0 := cond_f h0 hb
          conv => whnf
          refine brn_i (fun hb => ?_) (fun hb => ?_)
          · replace h0 := cond_t h0 hb
            conv => whnf
            refine And.intro (by kernel_rfl) ?_
            conv => whnf
            obtain rfl := Option.some.inj h0
            exact end_i trivial [(0, 8)] rfl rfl rfl
          · replace h0 := cond_f h0 hb
            conv => whnf
            refine brn_i (fun hb => ?_) (fun hb => ?_)
            · replace h0 := cond_t h0 hb
              conv => whnf
              refine And.intro (by kernel_rfl) ?_
              conv => whnf
              obtain rfl := Option.some.inj h0
              exact end_i trivial [(0, 8)] rfl rfl rfl
            · replace h0 := cond_f h0 hb
              conv => whnf
              refine And.intro (by kernel_rfl) ?_
              conv => whnf
              obtain rfl := Option.some.inj h0
              exact end_i trivial [(0, 8)] rfl rfl rfl
  · conv => whnf
    refine Or.inl ?_
    conv => whnf
    refine brn_i (fun hb => ?_) (fun hb => ?_)
    · replace k0 := cond_t k0 hb
      conv => whnf
      obtain rfl := Option.some.inj k0
      exact rfl
    · replace k0 := cond_f k0 hb
      conv => whnf
      refine Or.inl ?_
      conv => whnf
      obtain ⟨y_3, hy, k0⟩ := bind_e k0
      refine ⟨_, _, (civil_number_FC F c.Year c.Month c.Day y_3 hy), Or.inl ⟨rfl, rfl, ?_⟩⟩
      conv => whnf
      refine And.intro (by kernel_rfl) ?_
      conv => whnf
      obtain rfl := Option.some.inj k0
      exact rfl

theorem cron_Fits_FC {ml : Int} (F : Nat) (c : api_Cron) (m : api_Civil) (r : Bool) (h : cron_Fits F c m = some r) : FC Tryd.prog (GM ml) 11 [] [(AV.agg (api_Cron.c c)), (AV.agg (api_Civil.c m))] (.bool r) [] := by
  refine FC_of 2000 Tryd.func11 rfl (by kernel_rfl) mixed (by show 2 ≤ 86; decide) ?_
  unfold cron_Fits at h
  conv => whnf
  refine Or.inl ?_
  conv => whnf
  obtain ⟨y_0, hy, h⟩ := bind_e h
  refine ⟨_, _, (civil_To_FC F m y_0 hy), Or.inl ⟨rfl, rfl, ?_⟩⟩
  conv => whnf
  obtain ⟨t30_2, h0, k0⟩ := bind_e h
  refine Or.inr (joins_i True ((2, (AV.ptr 0 0 0)) :: ((3, (AV.ptr 1 0 0)) :: ((30, (AV.bool t30_2)) :: []))) ((0, (AO.rows false (((AV.int IntKind.u64 c.Minute) :: ((AV.int IntKind.u64 c.Hour) :: ((AV.int IntKind.u64 c.Day) :: ((AV.int IntKind.u64 c.Month) :: ((AV.int IntKind.u64 c.Week) :: ((AV.bool c.AnyDay) :: ((AV.bool c.AnyWeek) :: []))))))) :: []))) :: ((1, (AO.rows false (((AV.int IntKind.i64 m.Year) :: ((AV.int IntKind.i64 m.Month) :: ((AV.int IntKind.i64 m.Day) :: ((AV.int IntKind.i64 m.Hour) :: ((AV.int IntKind.i64 m.Minute) :: ((AV.int IntKind.i64 m.Week) :: [])))))) :: []))) :: [])) 2 ?_ (fun _ => ?_))
  · conv => whnf
    refine Or.inl ?_
    conv => whnf
    refine brn_i (fun hb => ?_) (fun hb => ?_)
    · replace h0 := cond_t h0 hb
      conv => whnf
      obtain rfl := Option.some.inj h0
      exact end_i trivial [(0, 8), (1, 16)] rfl rfl rfl
    · replace h0 := cond_f h0 hb
      conv => whnf
      refine Or.inl ?_
      conv => whnf
      obtain ⟨y_3, hy, h0⟩ := bind_e h0
      refine ⟨_, _, (cron_Check_FC F c y_3 hy), Or.inl ⟨rfl, rfl, ?_⟩⟩
      conv => whnf
      refine brn_i (fun hb => ?_) (fun hb => ?_)
      · replace h0 := cond_t h0 hb
        conv => whnf
        obtain rfl := Option.some.inj h0
        exact end_i trivial [(0, 8), (1, 16)] rfl rfl rfl
      · replace h0 := cond_f h0 hb
        conv => whnf
        refine brn_i (fun hb => ?_) (fun hb => ?_)
        · replace h0 := cond_t h0 hb
          conv => whnf
          obtain rfl := Option.some.inj h0
          exact end_i trivial [(0, 8), (1, 16)] rfl rfl rfl
        · replace h0 := cond_f h0 hb
          conv => whnf
          obtain rfl := Option.some.inj h0
          exact end_i trivial [(0, 8), (1, 16)] rfl rfl rfl
  · conv => whnf
    refine Or.inl ?_
    conv => whnf
    refine brn_i (fun hb => ?_) (fun hb => ?_)
    · replace k0 := cond_t k0 hb
      conv => whnf
      obtain rfl := Option.some.inj k0
      exact rfl
    · replace k0 := cond_f k0 hb
      conv => whnf
      obtain ⟨t55_4, h1, k1⟩ := bind_e k0
      refine Or.inr (joins_i True ((2, (AV.ptr 0 0 0)) :: ((3, (AV.ptr 1 0 0)) :: ((55, (AV.bool t55_4)) :: []))) ((0, (AO.rows false (((AV.int IntKind.u64 c.Minute) :: ((AV.int IntKind.u64 c.Hour) :: ((AV.int IntKind.u64 c.Day) :: ((AV.int IntKind.u64 c.Month) :: ((AV.int IntKind.u64 c.Week) :: ((AV.bool c.AnyDay) :: ((AV.bool c.AnyWeek) :: []))))))) :: []))) :: ((1, (AO.rows false (((AV.int IntKind.i64 m.Year) :: ((AV.int IntKind.i64 m.Month) :: ((AV.int IntKind.i64 m.Day) :: ((AV.int IntKind.i64 m.Hour) :: ((AV.int IntKind.i64 m.Minute) :: ((AV.int IntKind.i64 m.Week) :: [])))))) :: []))) :: [])) 2 ?_ (fun _ => ?_))
      · conv => whnf
        refine Or.inl ?_
        conv => whnf
        obtain ⟨hg, h1⟩ := grd_e h1
        refine And.intro hg ?_
        conv => whnf
        refine brn_i (fun hb => ?_) (fun hb => ?_)
        · replace h1 := cond_t h1 hb
          conv => whnf
          obtain rfl := Option.some.inj h1
          exact end_i trivial [(0, 0), (1, 1)] rfl rfl rfl
        · replace h1 := cond_f h1 hb
          conv => whnf
          obtain ⟨hg, h1⟩ := grd_e h1
          refine And.intro hg ?_
          conv => whnf
          refine brn_i (fun hb => ?_) (fun hb => ?_)
          · replace h1 := cond_t h1 hb
            conv => whnf
            obtain rfl := Option.some.inj h1
            exact end_i trivial [(0, 0), (1, 1)] rfl rfl rfl
          · replace h1 := cond_f h1 hb
            conv => whnf
            obtain ⟨hg, h1⟩ := grd_e h1
            refine And.intro hg ?_
            conv => whnf
            obtain rfl := Option.some.inj h1
            exact end_i trivial [(0, 0), (1, 1)] rfl rfl rfl
      · conv => whnf
        refine Or.inl ?_
        conv => whnf
        refine brn_i (fun hb => ?_) (fun hb => ?_)
        · replace k1 := cond_t k1 hb
          conv => whnf
          obtain rfl := Option.some.inj k1
          exact rfl
        · replace k1 := cond_f k1 hb
          conv => whnf
          obtain ⟨hg, k1⟩ := grd_e k1
          refine And.intro hg ?_
          conv => whnf
          obtain ⟨hg, k1⟩ := grd_e k1
          refine And.intro hg ?_
          conv => whnf
          refine And.intro (by kernel_rfl) ?_
          conv => whnf
          obtain ⟨t77_5, h2, k2⟩ := bind_e k1
          refine Or.inr (joins_i True ((7, (AV.bool ((@ibits BinOp.and IntKind.u64 (@Int.fdiv c.Day ((2 : Int) ^ (min (Int.toNat m.Day) 64))) (1 : Int)) == (1 : Int)))) :: ((8, (AV.bool ((@ibits BinOp.and IntKind.u64 (@Int.fdiv c.Week ((2 : Int) ^ (min (Int.toNat m.Week) 64))) (1 : Int)) == (1 : Int)))) :: ((77, (AV.bool t77_5)) :: []))) [] 0 ?_ (fun _ => ?_))
          · conv => whnf
            refine Or.inl ?_
            conv => whnf
            refine brn_i (fun hb => ?_) (fun hb => ?_)
            · replace h2 := cond_t h2 hb
              conv => whnf
              obtain rfl := Option.some.inj h2
              exact end_i trivial [] rfl rfl rfl
            · replace h2 := cond_f h2 hb
              conv => whnf
              obtain rfl := Option.some.inj h2
              exact end_i trivial [] rfl rfl rfl
          · conv => whnf
            refine Or.inl ?_
            conv => whnf
            refine brn_i (fun hb => ?_) (fun hb => ?_)
            · replace k2 := cond_t k2 hb
              conv => whnf
              refine Or.inl ?_
              conv => whnf
              refine brn_i (fun hb => ?_) (fun hb => ?_)
              · replace k2 := cond_t k2 hb
                conv => whnf
                obtain rfl := Option.some.inj k2
                exact rfl
              · replace k2 := cond_f k2 hb
                conv => whnf
                obtain rfl := Option.some.inj k2
                exact rfl
            · replace k2 := cond_f k2 hb
              conv => whnf
              refine Or.inl ?_
              conv => whnf
              refine brn_i (fun hb => ?_) (fun hb => ?_)
              · replace k2 := cond_t k2 hb
                conv => whnf
                obtain rfl := Option.some.inj k2
                exact rfl
              · replace k2 := cond_f k2 hb
                conv => whnf
                obtain rfl := Option.some.inj k2
                exact rfl

theorem matinslaw06_awake_FC {ml : Int} (F : Nat) (r : Bool) (h : matinslaw06_awake F = some r) : FC Tryd.prog (GM ml) 7 [] [] (.bool r) [] := by
  refine FC_of 2000 Tryd.func7 rfl (by kernel_rfl) mixed (by show 0 ≤ 75; decide) ?_
  unfold matinslaw06_awake at h
  conv => whnf
  refine Or.inl ?_
  conv => whnf
  obtain ⟨y_0, hy, h⟩ := bind_e h
  refine ⟨_, _, (cron_Parse_FC F ([48, 32, 49, 50, 32, 42, 32, 42, 32, 49, 45, 53] : List UInt8) y_0 hy), Or.inl ⟨rfl, rfl, ?_⟩⟩
  conv => whnf
  refine Or.inl ?_
  conv => whnf
  obtain ⟨y_1, hy, h⟩ := bind_e h
  refine ⟨_, _, (cron_Parse_FC F ([54, 48, 32, 42, 32, 42, 32, 42, 32, 42] : List UInt8) y_1 hy), Or.inl ⟨rfl, rfl, ?_⟩⟩
  conv => whnf
  refine Or.inl ?_
  conv => whnf
  obtain ⟨y_2, hy, h⟩ := bind_e h
  refine ⟨_, _, (cron_Print_FC F y_0.1 y_2 hy), Or.inl ⟨rfl, rfl, ?_⟩⟩
  conv => whnf
  refine Or.inl ?_
  conv => whnf
  refine brn_i (fun hb => ?_) (fun hb => ?_)
  · replace h := cond_t h hb
    conv => whnf
    refine brn_i (fun hb => ?_) (fun hb => ?_)
    · replace h := cond_t h hb
      conv => whnf
      refine brn_i (fun hb => ?_) (fun hb => ?_)
      · replace h := cond_t h hb
        conv => whnf
        refine brn_i (fun hb => ?_) (fun hb => ?_)
        · replace h := cond_t h hb
          conv => whnf
          refine brn_i (fun hb => ?_) (fun hb => ?_)
          · replace h := cond_t h hb
            conv => whnf
            refine brn_i (fun hb => ?_) (fun hb => ?_)
            · replace h := cond_t h hb
              conv => whnf
              refine brn_i (fun hb => ?_) (fun hb => ?_)
              · replace h := cond_t h hb
                conv => whnf
                refine brn_i (fun hb => ?_) (fun hb => ?_)
                · replace h := cond_t h hb
                  conv => whnf
                  refine brn_i (fun hb => ?_) (fun hb => ?_)
                  · replace h := cond_t h hb
                    conv => whnf
                    refine brn_i (fun hb => ?_) (fun hb => ?_)
                    · replace h := cond_t h hb
                      conv => whnf
                      refine brn_i (fun hb => ?_) (fun hb => ?_)
                      · replace h := cond_t h hb
                        conv => whnf
                        refine Or.inl ?_
                        conv => whnf
                        obtain ⟨y_3, hy, h⟩ := bind_e h
                        refine ⟨_, _, (cron_Fits_FC F y_0.1 (api_Civil.mk (2024 : Int) (3 : Int) (29 : Int) (12 : Int) (0 : Int) (5 : Int)) y_3 hy), Or.inl ⟨rfl, rfl, ?_⟩⟩
                        conv => whnf
                        obtain rfl := Option.some.inj h
                        exact rfl
                      · replace h := cond_f h hb
                        conv => whnf
                        obtain rfl := Option.some.inj h
                        exact rfl
                    · replace h := cond_f h hb
                      conv => whnf
                      obtain rfl := Option.some.inj h
                      exact rfl
                  · replace h := cond_f h hb
                    conv => whnf
                    obtain rfl := Option.some.inj h
                    exact rfl
                · replace h := cond_f h hb
                  conv => whnf
                  obtain rfl := Option.some.inj h
                  exact rfl
              · replace h := cond_f h hb
                conv => whnf
                obtain rfl := Option.some.inj h
                exact rfl
            · replace h := cond_f h hb
              conv => whnf
              obtain rfl := Option.some.inj h
              exact rfl
          · replace h := cond_f h hb
            conv => whnf
            obtain rfl := Option.some.inj h
            exact rfl
        · replace h := cond_f h hb
          conv => whnf
          obtain rfl := Option.some.inj h
          exact rfl
      · replace h := cond_f h hb
        conv => whnf
        obtain rfl := Option.some.inj h
        exact rfl
    · replace h := cond_f h hb
      conv => whnf
      obtain rfl := Option.some.inj h
      exact rfl
  · replace h := cond_f h hb
    conv => whnf
    obtain rfl := Option.some.inj h
    exact rfl

theorem matinslaw06_CronBack_FC {ml : Int} (F : Nat) (c : api_Cron) (text : (List UInt8)) (r : Bool) (h : matinslaw06_CronBack F c text = some r) : FC Tryd.prog (GM ml) 3 [] [(AV.agg (api_Cron.c c)), (AV.str text)] (.bool r) [] := by
  refine FC_of 2000 Tryd.func3 rfl (by kernel_rfl) mixed (by show 2 ≤ 81; decide) ?_
  unfold matinslaw06_CronBack at h
  conv => whnf
  refine Or.inl ?_
  conv => whnf
  obtain ⟨y_0, hy, h⟩ := bind_e h
  refine ⟨_, _, (matinslaw06_awake_FC F y_0 hy), Or.inl ⟨rfl, rfl, ?_⟩⟩
  conv => whnf
  refine Or.inl ?_
  conv => whnf
  refine brn_i (fun hb => ?_) (fun hb => ?_)
  · replace h := cond_t h hb
    conv => whnf
    obtain rfl := Option.some.inj h
    exact rfl
  · replace h := cond_f h hb
    conv => whnf
    refine Or.inl ?_
    conv => whnf
    obtain ⟨y_1, hy, h⟩ := bind_e h
    refine ⟨_, _, (cron_Print_FC F c y_1 hy), Or.inl ⟨rfl, rfl, ?_⟩⟩
    conv => whnf
    obtain ⟨o1, h1, k1⟩ := bind_e h
    refine Or.inr (joins_i (o1 = Sum.inr (outR o1)) ((1, (AV.str text)) :: []) [] 0 ?_ (fun hR => ?_))
    · conv => whnf
      refine Or.inl ?_
      conv => whnf
      refine brn_i (fun hb => ?_) (fun hb => ?_)
      · replace h1 := cond_t h1 hb
        conv => whnf
        refine Or.inl ?_
        conv => whnf
        obtain ⟨y_4, hy, h1⟩ := bind_e h1
        refine ⟨_, _, (cron_Parse_FC F y_1.1 y_4 hy), Or.inl ⟨rfl, rfl, ?_⟩⟩
        conv => whnf
        obtain ⟨t43_5, h2, k2⟩ := bind_e h1
        refine Or.inr (joins_i True ((1, (AV.str text)) :: ((43, (AV.bool t43_5)) :: [])) [] 0 ?_ (fun _ => ?_))
        · conv => whnf
          refine Or.inl ?_
          conv => whnf
          refine And.intro ⟨by kernel_rfl, _, rfl⟩ ?_
          conv => whnf
          refine brn_i (fun hb => ?_) (fun hb => ?_)
          · replace h2 := cond_t h2 hb
            conv => whnf
            obtain rfl := Option.some.inj h2
            exact end_i trivial [] rfl rfl rfl
          · replace h2 := cond_f h2 hb
            conv => whnf
            refine brn_i (fun hb => ?_) (fun hb => ?_)
            · replace h2 := cond_t h2 hb
              conv => whnf
              obtain rfl := Option.some.inj h2
              exact end_i trivial [] rfl rfl rfl
            · replace h2 := cond_f h2 hb
              conv => whnf
              obtain rfl := Option.some.inj h2
              exact end_i trivial [] rfl rfl rfl
        · conv => whnf
          refine Or.inl ?_
          conv => whnf
          refine brn_i (fun hb => ?_) (fun hb => ?_)
          · replace k2 := cond_t k2 hb
            conv => whnf
            obtain rfl := Option.some.inj k2
            obtain rfl := Option.some.inj k1
            exact rfl
          · replace k2 := cond_f k2 hb
            conv => whnf
            obtain rfl := Option.some.inj k2
            exact end_i rfl [] rfl rfl rfl
      · replace h1 := cond_f h1 hb
        conv => whnf
        obtain rfl := Option.some.inj h1
        exact end_i rfl [] rfl rfl rfl
    · replace k1 := elim_e hR k1
      generalize outR o1 = v at k1 ⊢
      conv => whnf
      refine Or.inl ?_
      conv => whnf
      obtain ⟨y_6, hy, k1⟩ := bind_e k1
      refine ⟨_, _, (cron_Parse_FC F text y_6 hy), Or.inl ⟨rfl, rfl, ?_⟩⟩
      conv => whnf
      refine Or.inl ?_
      conv => whnf
      refine brn_i (fun hb => ?_) (fun hb => ?_)
      · replace k1 := cond_t k1 hb
        conv => whnf
        refine And.intro ⟨by kernel_rfl, _, rfl⟩ ?_
        conv => whnf
        obtain rfl := Option.some.inj k1
        exact rfl
      · replace k1 := cond_f k1 hb
        conv => whnf
        refine Or.inl ?_
        conv => whnf
        obtain ⟨y_7, hy, k1⟩ := bind_e k1
        refine ⟨_, _, (cron_Print_FC F y_6.1 y_7 hy), Or.inl ⟨rfl, rfl, ?_⟩⟩
        conv => whnf
        refine Or.inl ?_
        conv => whnf
        obtain ⟨y_8, hy, k1⟩ := bind_e k1
        refine ⟨_, _, (cron_Parse_FC F y_7.1 y_8 hy), Or.inl ⟨rfl, rfl, ?_⟩⟩
        conv => whnf
        refine Or.inl ?_
        conv => whnf
        refine Or.inl ?_
        conv => whnf
        obtain ⟨y_9, hy, k1⟩ := bind_e k1
        refine ⟨_, _, (cron_Check_FC F y_6.1 y_9 hy), Or.inl ⟨rfl, rfl, ?_⟩⟩
        conv => whnf
        refine brn_i (fun hb => ?_) (fun hb => ?_)
        · replace k1 := cond_t k1 hb
          conv => whnf
          refine brn_i (fun hb => ?_) (fun hb => ?_)
          · replace k1 := cond_t k1 hb
            conv => whnf
            refine brn_i (fun hb => ?_) (fun hb => ?_)
            · replace k1 := cond_t k1 hb
              conv => whnf
              refine And.intro ⟨by kernel_rfl, _, rfl⟩ ?_
              conv => whnf
              obtain rfl := Option.some.inj k1
              exact rfl
            · replace k1 := cond_f k1 hb
              conv => whnf
              obtain rfl := Option.some.inj k1
              exact rfl
          · replace k1 := cond_f k1 hb
            conv => whnf
            obtain rfl := Option.some.inj k1
            exact rfl
        · replace k1 := cond_f k1 hb
          conv => whnf
          obtain rfl := Option.some.inj k1
          exact rfl

theorem matinslaw06_CronLists_FC {ml : Int} (F : Nat) (a : (List UInt8)) (b : (List UInt8)) (rest : (List UInt8)) (m : api_Civil) (r : Bool) (h : matinslaw06_CronLists F a b rest m = some r) : FC Tryd.prog (GM ml) 4 [] [(AV.str a), (AV.str b), (AV.str rest), (AV.agg (api_Civil.c m))] (.bool r) [] := by
  refine FC_of 2000 Tryd.func4 rfl (by kernel_rfl) mixed (by show 4 ≤ 134; decide) ?_
  unfold matinslaw06_CronLists at h
  conv => whnf
  refine Or.inl ?_
  conv => whnf
  obtain ⟨y_0, hy, h⟩ := bind_e h
  refine ⟨_, _, (matinslaw06_awake_FC F y_0 hy), Or.inl ⟨rfl, rfl, ?_⟩⟩
  conv => whnf
  refine Or.inl ?_
  conv => whnf
  refine brn_i (fun hb => ?_) (fun hb => ?_)
  · replace h := cond_t h hb
    conv => whnf
    obtain rfl := Option.some.inj h
    exact rfl
  · replace h := cond_f h hb
    conv => whnf
    obtain ⟨o8, h8, k8⟩ := bind_e h
    refine Or.inr (joins_i (o8 = Sum.inr (outR o8)) ((0, (AV.str a)) :: ((1, (AV.str b)) :: ((2, (AV.str rest)) :: ((7, (AV.ptr 0 0 0)) :: [])))) ((0, (AO.rows false (((AV.int IntKind.i64 m.Year) :: ((AV.int IntKind.i64 m.Month) :: ((AV.int IntKind.i64 m.Day) :: ((AV.int IntKind.i64 m.Hour) :: ((AV.int IntKind.i64 m.Minute) :: ((AV.int IntKind.i64 m.Week) :: [])))))) :: []))) :: []) 1 ?_ (fun hR => ?_))
    · conv => whnf
      refine Or.inl ?_
      conv => whnf
      refine loops_i (α := (Nat × Int)) (fun x => ((0, (AV.str a)) :: ((1, (AV.str b)) :: ((2, (AV.str rest)) :: ((7, (AV.ptr 0 0 0)) :: ((9, (AV.int IntKind.i64 x.2)) :: [])))))) (fun x => ((0, (AO.rows false (((AV.int IntKind.i64 m.Year) :: ((AV.int IntKind.i64 m.Month) :: ((AV.int IntKind.i64 m.Day) :: ((AV.int IntKind.i64 m.Hour) :: ((AV.int IntKind.i64 m.Minute) :: ((AV.int IntKind.i64 m.Week) :: [])))))) :: []))) :: [])) 1 (fun x => matinslaw06_CronLists_l0 F a b x.1 x.2 = some o8) (fun x => x.1) (F, (0 : Int)) [(0, 8)] h8 rfl rfl rfl ?_
      rintro ⟨n_25, i_26⟩ h8
      replace h8 : matinslaw06_CronLists_l0 F a b n_25 i_26 = some o8 := h8
      cases n_25 with
      | zero => rw [matinslaw06_CronLists_l0.eq_1] at h8; cases h8
      | succ n_25 =>
        rw [matinslaw06_CronLists_l0.eq_2] at h8
        conv => whnf
        refine Or.inl ?_
        conv => whnf
        refine brn_i (fun hb => ?_) (fun hb => ?_)
        · replace h8 := cond_t h8 hb
          conv => whnf
          refine Or.inl ?_
          conv => whnf
          obtain ⟨c_33, h15, k15⟩ := bind_e h8
          refine Or.inr (joins_i True ((0, (AV.str a)) :: ((1, (AV.str b)) :: ((2, (AV.str rest)) :: ((7, (AV.ptr 0 0 0)) :: ((9, (AV.int IntKind.i64 i_26)) :: ((10, (AV.int IntKind.u8 c_33)) :: [])))))) ((0, (AO.rows false (((AV.int IntKind.i64 m.Year) :: ((AV.int IntKind.i64 m.Month) :: ((AV.int IntKind.i64 m.Day) :: ((AV.int IntKind.i64 m.Hour) :: ((AV.int IntKind.i64 m.Minute) :: ((AV.int IntKind.i64 m.Week) :: [])))))) :: []))) :: []) 1 ?_ (fun _ => ?_))
          · conv => whnf
            refine Or.inl ?_
            conv => whnf
            refine brn_i (fun hb => ?_) (fun hb => ?_)
            · replace h15 := cond_t h15 hb
              conv => whnf
              obtain ⟨hg, h15⟩ := grd_e h15
              refine And.intro hg ?_
              conv => whnf
              obtain ⟨y_34, hy, h15⟩ := bind_e h15
              refine opt_i y_34 hy ?_
              conv => whnf
              obtain rfl := Option.some.inj h15
              exact end_i trivial [(0, 0)] rfl rfl rfl
            · replace h15 := cond_f h15 hb
              conv => whnf
              obtain ⟨hg, h15⟩ := grd_e h15
              refine And.intro hg ?_
              conv => whnf
              obtain ⟨y_35, hy, h15⟩ := bind_e h15
              refine opt_i y_35 hy ?_
              conv => whnf
              obtain rfl := Option.some.inj h15
              exact end_i trivial [(0, 0)] rfl rfl rfl
          · conv => whnf
            obtain ⟨t49_36, h16, k16⟩ := bind_e k15
            refine Or.inr (joins_i True ((0, (AV.str a)) :: ((1, (AV.str b)) :: ((2, (AV.str rest)) :: ((7, (AV.ptr 0 0 0)) :: ((9, (AV.int IntKind.i64 i_26)) :: ((49, (AV.bool t49_36)) :: [])))))) ((0, (AO.rows false (((AV.int IntKind.i64 m.Year) :: ((AV.int IntKind.i64 m.Month) :: ((AV.int IntKind.i64 m.Day) :: ((AV.int IntKind.i64 m.Hour) :: ((AV.int IntKind.i64 m.Minute) :: ((AV.int IntKind.i64 m.Week) :: [])))))) :: []))) :: []) 1 ?_ (fun _ => ?_))
            · conv => whnf
              refine Or.inl ?_
              conv => whnf
              refine brn_i (fun hb => ?_) (fun hb => ?_)
              · replace h16 := cond_t h16 hb
                conv => whnf
                obtain rfl := Option.some.inj h16
                exact end_i trivial [(0, 0)] rfl rfl rfl
              · replace h16 := cond_f h16 hb
                conv => whnf
                obtain rfl := Option.some.inj h16
                exact end_i trivial [(0, 0)] rfl rfl rfl
            · conv => whnf
              refine Or.inl ?_
              conv => whnf
              refine brn_i (fun hb => ?_) (fun hb => ?_)
              · replace k16 := cond_t k16 hb
                conv => whnf
                obtain rfl := Option.some.inj k16
                obtain rfl := Option.some.inj k8
                exact rfl
              · replace k16 := cond_f k16 hb
                conv => whnf
                exact round_i (n_25, (IntKind.wrap IntKind.i64 (i_26 + (1 : Int)))) [(0, 0)] k16 (Nat.lt_succ_self _) rfl rfl rfl
        · replace h8 := cond_f h8 hb
          conv => whnf
          obtain rfl := Option.some.inj h8
          exact end_i rfl [(0, 0)] rfl rfl rfl
    · replace k8 := elim_e hR k8
      generalize outR o8 = v at k8 ⊢
      conv => whnf
      obtain ⟨t57_37, h9, k9⟩ := bind_e k8
      refine Or.inr (joins_i True ((0, (AV.str a)) :: ((1, (AV.str b)) :: ((2, (AV.str rest)) :: ((7, (AV.ptr 0 0 0)) :: ((57, (AV.bool t57_37)) :: []))))) ((0, (AO.rows false (((AV.int IntKind.i64 m.Year) :: ((AV.int IntKind.i64 m.Month) :: ((AV.int IntKind.i64 m.Day) :: ((AV.int IntKind.i64 m.Hour) :: ((AV.int IntKind.i64 m.Minute) :: ((AV.int IntKind.i64 m.Week) :: [])))))) :: []))) :: []) 1 ?_ (fun _ => ?_))
      · conv => whnf
        refine Or.inl ?_
        conv => whnf
        refine brn_i (fun hb => ?_) (fun hb => ?_)
        · replace h9 := cond_t h9 hb
          conv => whnf
          obtain rfl := Option.some.inj h9
          exact end_i trivial [(0, 0)] rfl rfl rfl
        · replace h9 := cond_f h9 hb
          conv => whnf
          obtain rfl := Option.some.inj h9
          exact end_i trivial [(0, 0)] rfl rfl rfl
      · conv => whnf
        refine Or.inl ?_
        conv => whnf
        refine brn_i (fun hb => ?_) (fun hb => ?_)
        · replace k9 := cond_t k9 hb
          conv => whnf
          obtain rfl := Option.some.inj k9
          exact rfl
        · replace k9 := cond_f k9 hb
          conv => whnf
          obtain ⟨hg, k9⟩ := grd_e k9
          refine And.intro hg ?_
          conv => whnf
          obtain ⟨hg, k9⟩ := grd_e k9
          refine And.intro hg ?_
          conv => whnf
          refine Or.inl ?_
          conv => whnf
          obtain ⟨y_38, hy, k9⟩ := bind_e k9
          refine ⟨_, _, (cron_Parse_FC F ((a ++ ([32] : List UInt8)) ++ rest) y_38 hy), Or.inl ⟨rfl, rfl, ?_⟩⟩
          conv => whnf
          obtain ⟨hg, k9⟩ := grd_e k9
          refine And.intro hg ?_
          conv => whnf
          obtain ⟨hg, k9⟩ := grd_e k9
          refine And.intro hg ?_
          conv => whnf
          refine Or.inl ?_
          conv => whnf
          obtain ⟨y_39, hy, k9⟩ := bind_e k9
          refine ⟨_, _, (cron_Parse_FC F ((b ++ ([32] : List UInt8)) ++ rest) y_39 hy), Or.inl ⟨rfl, rfl, ?_⟩⟩
          conv => whnf
          obtain ⟨hg, k9⟩ := grd_e k9
          refine And.intro hg ?_
          conv => whnf
          obtain ⟨hg, k9⟩ := grd_e k9
          refine And.intro hg ?_
          conv => whnf
          obtain ⟨hg, k9⟩ := grd_e k9
          refine And.intro hg ?_
          conv => whnf
          obtain ⟨hg, k9⟩ := grd_e k9
          refine And.intro hg ?_
          conv => whnf
          refine Or.inl ?_
          conv => whnf
          obtain ⟨y_40, hy, k9⟩ := bind_e k9
          refine ⟨_, _, (cron_Parse_FC F ((((a ++ ([44] : List UInt8)) ++ b) ++ ([32] : List UInt8)) ++ rest) y_40 hy), Or.inl ⟨rfl, rfl, ?_⟩⟩
          conv => whnf
          obtain ⟨t93_41, h10, k10⟩ := bind_e k9
          refine Or.inr (joins_i True ((7, (AV.ptr 0 0 0)) :: ((11, (AV.ptr 1 0 0)) :: ((14, (AV.ptr 2 0 0)) :: ((17, (AV.ptr 3 0 0)) :: ((19, (AV.int IntKind.i64 y_40.2.2)) :: ((93, (AV.bool t93_41)) :: [])))))) ((0, (AO.rows false (((AV.int IntKind.i64 m.Year) :: ((AV.int IntKind.i64 m.Month) :: ((AV.int IntKind.i64 m.Day) :: ((AV.int IntKind.i64 m.Hour) :: ((AV.int IntKind.i64 m.Minute) :: ((AV.int IntKind.i64 m.Week) :: [])))))) :: []))) :: ((1, (AO.rows false (((AV.int IntKind.u64 y_38.1.Minute) :: ((AV.int IntKind.u64 y_38.1.Hour) :: ((AV.int IntKind.u64 y_38.1.Day) :: ((AV.int IntKind.u64 y_38.1.Month) :: ((AV.int IntKind.u64 y_38.1.Week) :: ((AV.bool y_38.1.AnyDay) :: ((AV.bool y_38.1.AnyWeek) :: []))))))) :: []))) :: ((2, (AO.rows false (((AV.int IntKind.u64 y_39.1.Minute) :: ((AV.int IntKind.u64 y_39.1.Hour) :: ((AV.int IntKind.u64 y_39.1.Day) :: ((AV.int IntKind.u64 y_39.1.Month) :: ((AV.int IntKind.u64 y_39.1.Week) :: ((AV.bool y_39.1.AnyDay) :: ((AV.bool y_39.1.AnyWeek) :: []))))))) :: []))) :: ((3, (AO.rows false (((AV.int IntKind.u64 y_40.1.Minute) :: ((AV.int IntKind.u64 y_40.1.Hour) :: ((AV.int IntKind.u64 y_40.1.Day) :: ((AV.int IntKind.u64 y_40.1.Month) :: ((AV.int IntKind.u64 y_40.1.Week) :: ((AV.bool y_40.1.AnyDay) :: ((AV.bool y_40.1.AnyWeek) :: []))))))) :: []))) :: [])))) 4 ?_ (fun _ => ?_))
          · conv => whnf
            refine Or.inl ?_
            conv => whnf
            refine brn_i (fun hb => ?_) (fun hb => ?_)
            · replace h10 := cond_t h10 hb
              conv => whnf
              obtain rfl := Option.some.inj h10
              exact end_i trivial [(0, 0), (1, 73), (2, 177), (3, 305)] rfl rfl rfl
            · replace h10 := cond_f h10 hb
              conv => whnf
              obtain rfl := Option.some.inj h10
              exact end_i trivial [(0, 0), (1, 73), (2, 177), (3, 305)] rfl rfl rfl
          · conv => whnf
            refine Or.inl ?_
            conv => whnf
            refine brn_i (fun hb => ?_) (fun hb => ?_)
            · replace k10 := cond_t k10 hb
              conv => whnf
              obtain rfl := Option.some.inj k10
              exact rfl
            · replace k10 := cond_f k10 hb
              conv => whnf
              refine Or.inl ?_
              conv => whnf
              refine brn_i (fun hb => ?_) (fun hb => ?_)
              · replace k10 := cond_t k10 hb
                conv => whnf
                obtain rfl := Option.some.inj k10
                exact rfl
              · replace k10 := cond_f k10 hb
                conv => whnf
                refine Or.inl ?_
                conv => whnf
                refine Or.inl ?_
                conv => whnf
                obtain ⟨y_42, hy, k10⟩ := bind_e k10
                refine ⟨_, _, (cron_Fits_FC F y_40.1 m y_42 hy), Or.inl ⟨rfl, rfl, ?_⟩⟩
                conv => whnf
                refine Or.inl ?_
                conv => whnf
                obtain ⟨y_43, hy, k10⟩ := bind_e k10
                refine ⟨_, _, (cron_Fits_FC F y_38.1 m y_43 hy), Or.inl ⟨rfl, rfl, ?_⟩⟩
                conv => whnf
                refine brn_i (fun hb => ?_) (fun hb => ?_)
                · replace k10 := cond_t k10 hb
                  conv => whnf
                  refine brn_i (fun hb => ?_) (fun hb => ?_)
                  · replace k10 := cond_t k10 hb
                    conv => whnf
                    refine brn_i (fun hb => ?_) (fun hb => ?_)
                    · replace k10 := cond_t k10 hb
                      conv => whnf
                      refine brn_i (fun hb => ?_) (fun hb => ?_)
                      · replace k10 := cond_t k10 hb
                        conv => whnf
                        refine And.intro (by kernel_rfl) ?_
                        conv => whnf
                        obtain rfl := Option.some.inj k10
                        exact rfl
                      · replace k10 := cond_f k10 hb
                        conv => whnf
                        refine And.intro (by kernel_rfl) ?_
                        conv => whnf
                        obtain rfl := Option.some.inj k10
                        exact rfl
                    · replace k10 := cond_f k10 hb
                      conv => whnf
                      refine And.intro (by kernel_rfl) ?_
                      conv => whnf
                      obtain rfl := Option.some.inj k10
                      exact rfl
                  · replace k10 := cond_f k10 hb
                    conv => whnf
                    refine And.intro (by kernel_rfl) ?_
                    conv => whnf
                    obtain rfl := Option.some.inj k10
                    exact rfl
                · replace k10 := cond_f k10 hb
                  conv => whnf
                  refine Or.inl ?_
                  conv => whnf
                  obtain ⟨y_44, hy, k10⟩ := bind_e k10
                  refine ⟨_, _, (cron_Fits_FC F y_39.1 m y_44 hy), Or.inl ⟨rfl, rfl, ?_⟩⟩
                  conv => whnf
                  refine brn_i (fun hb => ?_) (fun hb => ?_)
                  · replace k10 := cond_t k10 hb
                    conv => whnf
                    refine brn_i (fun hb => ?_) (fun hb => ?_)
                    · replace k10 := cond_t k10 hb
                      conv => whnf
                      refine brn_i (fun hb => ?_) (fun hb => ?_)
                      · replace k10 := cond_t k10 hb
                        conv => whnf
                        refine And.intro (by kernel_rfl) ?_
                        conv => whnf
                        obtain rfl := Option.some.inj k10
                        exact rfl
                      · replace k10 := cond_f k10 hb
                        conv => whnf
                        refine And.intro (by kernel_rfl) ?_
                        conv => whnf
                        obtain rfl := Option.some.inj k10
                        exact rfl
                    · replace k10 := cond_f k10 hb
                      conv => whnf
                      refine And.intro (by kernel_rfl) ?_
                      conv => whnf
                      obtain rfl := Option.some.inj k10
                      exact rfl
                  · replace k10 := cond_f k10 hb
                    conv => whnf
                    refine And.intro (by kernel_rfl) ?_
                    conv => whnf
                    obtain rfl := Option.some.inj k10
                    exact rfl

theorem matinslaw06_CronEither_FC {ml : Int} (F : Nat) (c : api_Cron) (m : api_Civil) (r : Bool) (h : matinslaw06_CronEither F c m = some r) : FC Tryd.prog (GM ml) 5 [] [(AV.agg (api_Cron.c c)), (AV.agg (api_Civil.c m))] (.bool r) [] := by
  refine FC_of 2000 Tryd.func5 rfl (by kernel_rfl) mixed (by show 2 ≤ 72; decide) ?_
  unfold matinslaw06_CronEither at h
  conv => whnf
  refine Or.inl ?_
  conv => whnf
  obtain ⟨y_0, hy, h⟩ := bind_e h
  refine ⟨_, _, (matinslaw06_awake_FC F y_0 hy), Or.inl ⟨rfl, rfl, ?_⟩⟩
  conv => whnf
  refine Or.inl ?_
  conv => whnf
  refine brn_i (fun hb => ?_) (fun hb => ?_)
  · replace h := cond_t h hb
    conv => whnf
    obtain rfl := Option.some.inj h
    exact rfl
  · replace h := cond_f h hb
    conv => whnf
    refine Or.inl ?_
    conv => whnf
    obtain ⟨y_1, hy, h⟩ := bind_e h
    refine ⟨_, _, (cron_Parse_FC F ([42, 32, 42, 32, 42, 32, 42, 32, 42] : List UInt8) y_1 hy), Or.inl ⟨rfl, rfl, ?_⟩⟩
    conv => whnf
    obtain ⟨t25_3, h0, k0⟩ := bind_e h
    refine Or.inr (joins_i True ((2, (AV.ptr 0 0 0)) :: ((3, (AV.ptr 1 0 0)) :: ((5, (AV.ptr 2 0 0)) :: ((7, (AV.int IntKind.i64 y_1.2.2)) :: ((25, (AV.bool t25_3)) :: []))))) ((0, (AO.rows false (((AV.int IntKind.u64 c.Minute) :: ((AV.int IntKind.u64 c.Hour) :: ((AV.int IntKind.u64 c.Day) :: ((AV.int IntKind.u64 c.Month) :: ((AV.int IntKind.u64 c.Week) :: ((AV.bool c.AnyDay) :: ((AV.bool c.AnyWeek) :: []))))))) :: []))) :: ((1, (AO.rows false (((AV.int IntKind.i64 m.Year) :: ((AV.int IntKind.i64 m.Month) :: ((AV.int IntKind.i64 m.Day) :: ((AV.int IntKind.i64 m.Hour) :: ((AV.int IntKind.i64 m.Minute) :: ((AV.int IntKind.i64 m.Week) :: [])))))) :: []))) :: ((2, (AO.rows false (((AV.int IntKind.u64 y_1.1.Minute) :: ((AV.int IntKind.u64 y_1.1.Hour) :: ((AV.int IntKind.u64 y_1.1.Day) :: ((AV.int IntKind.u64 y_1.1.Month) :: ((AV.int IntKind.u64 y_1.1.Week) :: ((AV.bool y_1.1.AnyDay) :: ((AV.bool y_1.1.AnyWeek) :: []))))))) :: []))) :: []))) 3 ?_ (fun _ => ?_))
    · conv => whnf
      refine Or.inl ?_
      conv => whnf
      refine brn_i (fun hb => ?_) (fun hb => ?_)
      · replace h0 := cond_t h0 hb
        conv => whnf
        obtain rfl := Option.some.inj h0
        exact end_i trivial [(0, 8), (1, 16), (2, 88)] rfl rfl rfl
      · replace h0 := cond_f h0 hb
        conv => whnf
        refine Or.inl ?_
        conv => whnf
        obtain ⟨y_4, hy, h0⟩ := bind_e h0
        refine ⟨_, _, (cron_Check_FC F c y_4 hy), Or.inl ⟨rfl, rfl, ?_⟩⟩
        conv => whnf
        obtain rfl := Option.some.inj h0
        exact end_i trivial [(0, 8), (1, 16), (2, 88)] rfl rfl rfl
    · conv => whnf
      refine Or.inl ?_
      conv => whnf
      refine brn_i (fun hb => ?_) (fun hb => ?_)
      · replace k0 := cond_t k0 hb
        conv => whnf
        refine Or.inl ?_
        conv => whnf
        refine brn_i (fun hb => ?_) (fun hb => ?_)
        · replace k0 := cond_t k0 hb
          conv => whnf
          refine Or.inl ?_
          conv => whnf
          obtain ⟨y_5, hy, k0⟩ := bind_e k0
          refine ⟨_, _, (cron_Fits_FC F c m y_5 hy), Or.inl ⟨rfl, rfl, ?_⟩⟩
          conv => whnf
          obtain rfl := Option.some.inj k0
          exact rfl
        · replace k0 := cond_f k0 hb
          conv => whnf
          obtain rfl := Option.some.inj k0
          exact rfl
      · replace k0 := cond_f k0 hb
        conv => whnf
        refine Or.inl ?_
        conv => whnf
        obtain ⟨y_6, hy, k0⟩ := bind_e k0
        refine ⟨_, _, (cron_Fits_FC F (api_Cron.mk c.Minute c.Hour c.Day c.Month y_1.1.Week c.AnyDay true) m y_6 hy), Or.inl ⟨rfl, rfl, ?_⟩⟩
        conv => whnf
        refine Or.inl ?_
        conv => whnf
        obtain ⟨y_7, hy, k0⟩ := bind_e k0
        refine ⟨_, _, (cron_Fits_FC F (api_Cron.mk c.Minute c.Hour y_1.1.Day c.Month c.Week true c.AnyWeek) m y_7 hy), Or.inl ⟨rfl, rfl, ?_⟩⟩
        conv => whnf
        obtain ⟨t55_8, h1, k1⟩ := bind_e k0
        refine Or.inr (joins_i True ((2, (AV.ptr 0 0 0)) :: ((3, (AV.ptr 1 0 0)) :: ((10, (AV.bool y_6)) :: ((11, (AV.bool y_7)) :: ((55, (AV.bool t55_8)) :: []))))) ((0, (AO.rows false (((AV.int IntKind.u64 c.Minute) :: ((AV.int IntKind.u64 c.Hour) :: ((AV.int IntKind.u64 c.Day) :: ((AV.int IntKind.u64 c.Month) :: ((AV.int IntKind.u64 c.Week) :: ((AV.bool c.AnyDay) :: ((AV.bool c.AnyWeek) :: []))))))) :: []))) :: ((1, (AO.rows false (((AV.int IntKind.i64 m.Year) :: ((AV.int IntKind.i64 m.Month) :: ((AV.int IntKind.i64 m.Day) :: ((AV.int IntKind.i64 m.Hour) :: ((AV.int IntKind.i64 m.Minute) :: ((AV.int IntKind.i64 m.Week) :: [])))))) :: []))) :: [])) 2 ?_ (fun _ => ?_))
        · conv => whnf
          refine Or.inl ?_
          conv => whnf
          refine brn_i (fun hb => ?_) (fun hb => ?_)
          · replace h1 := cond_t h1 hb
            conv => whnf
            obtain rfl := Option.some.inj h1
            exact end_i trivial [(0, 0), (1, 1)] rfl rfl rfl
          · replace h1 := cond_f h1 hb
            conv => whnf
            obtain rfl := Option.some.inj h1
            exact end_i trivial [(0, 0), (1, 1)] rfl rfl rfl
        · conv => whnf
          refine Or.inl ?_
          conv => whnf
          refine brn_i (fun hb => ?_) (fun hb => ?_)
          · replace k1 := cond_t k1 hb
            conv => whnf
            refine Or.inl ?_
            conv => whnf
            refine Or.inl ?_
            conv => whnf
            obtain ⟨y_9, hy, k1⟩ := bind_e k1
            refine ⟨_, _, (cron_Fits_FC F c m y_9 hy), Or.inl ⟨rfl, rfl, ?_⟩⟩
            conv => whnf
            refine brn_i (fun hb => ?_) (fun hb => ?_)
            · replace k1 := cond_t k1 hb
              conv => whnf
              obtain rfl := Option.some.inj k1
              exact rfl
            · replace k1 := cond_f k1 hb
              conv => whnf
              obtain rfl := Option.some.inj k1
              exact rfl
          · replace k1 := cond_f k1 hb
            conv => whnf
            refine Or.inl ?_
            conv => whnf
            refine Or.inl ?_
            conv => whnf
            obtain ⟨y_10, hy, k1⟩ := bind_e k1
            refine ⟨_, _, (cron_Fits_FC F c m y_10 hy), Or.inl ⟨rfl, rfl, ?_⟩⟩
            conv => whnf
            refine brn_i (fun hb => ?_) (fun hb => ?_)
            · replace k1 := cond_t k1 hb
              conv => whnf
              obtain rfl := Option.some.inj k1
              exact rfl
            · replace k1 := cond_f k1 hb
              conv => whnf
              obtain rfl := Option.some.inj k1
              exact rfl

theorem matinslaw06_CronMore_FC {ml : Int} (F : Nat) (c : api_Cron) (bit : Int) (m : api_Civil) (r : Bool) (h : matinslaw06_CronMore F c bit m = some r) : FC Tryd.prog (GM ml) 6 [] [(AV.agg (api_Cron.c c)), (AV.int IntKind.i64 bit), (AV.agg (api_Civil.c m))] (.bool r) [] := by
  refine FC_of 2000 Tryd.func6 rfl (by kernel_rfl) mixed (by show 3 ≤ 81; decide) ?_
  unfold matinslaw06_CronMore at h
  conv => whnf
  refine Or.inl ?_
  conv => whnf
  obtain ⟨y_0, hy, h⟩ := bind_e h
  refine ⟨_, _, (matinslaw06_awake_FC F y_0 hy), Or.inl ⟨rfl, rfl, ?_⟩⟩
  conv => whnf
  refine Or.inl ?_
  conv => whnf
  refine brn_i (fun hb => ?_) (fun hb => ?_)
  · replace h := cond_t h hb
    conv => whnf
    obtain rfl := Option.some.inj h
    exact rfl
  · replace h := cond_f h hb
    conv => whnf
    obtain ⟨t28_3, h0, k0⟩ := bind_e h
    refine Or.inr (joins_i True ((1, (AV.int IntKind.i64 bit)) :: ((3, (AV.ptr 0 0 0)) :: ((5, (AV.ptr 1 0 0)) :: ((28, (AV.bool t28_3)) :: [])))) ((0, (AO.rows false (((AV.int IntKind.u64 c.Minute) :: ((AV.int IntKind.u64 c.Hour) :: ((AV.int IntKind.u64 c.Day) :: ((AV.int IntKind.u64 c.Month) :: ((AV.int IntKind.u64 c.Week) :: ((AV.bool c.AnyDay) :: ((AV.bool c.AnyWeek) :: []))))))) :: []))) :: ((1, (AO.rows false (((AV.int IntKind.i64 m.Year) :: ((AV.int IntKind.i64 m.Month) :: ((AV.int IntKind.i64 m.Day) :: ((AV.int IntKind.i64 m.Hour) :: ((AV.int IntKind.i64 m.Minute) :: ((AV.int IntKind.i64 m.Week) :: [])))))) :: []))) :: [])) 2 ?_ (fun _ => ?_))
    · conv => whnf
      refine Or.inl ?_
      conv => whnf
      refine brn_i (fun hb => ?_) (fun hb => ?_)
      · replace h0 := cond_t h0 hb
        conv => whnf
        obtain rfl := Option.some.inj h0
        exact end_i trivial [(0, 8), (1, 16)] rfl rfl rfl
      · replace h0 := cond_f h0 hb
        conv => whnf
        refine brn_i (fun hb => ?_) (fun hb => ?_)
        · replace h0 := cond_t h0 hb
          conv => whnf
          obtain rfl := Option.some.inj h0
          exact end_i trivial [(0, 8), (1, 16)] rfl rfl rfl
        · replace h0 := cond_f h0 hb
          conv => whnf
          refine Or.inl ?_
          conv => whnf
          obtain ⟨y_4, hy, h0⟩ := bind_e h0
          refine ⟨_, _, (cron_Check_FC F c y_4 hy), Or.inl ⟨rfl, rfl, ?_⟩⟩
          conv => whnf
          refine brn_i (fun hb => ?_) (fun hb => ?_)
          · replace h0 := cond_t h0 hb
            conv => whnf
            obtain rfl := Option.some.inj h0
            exact end_i trivial [(0, 8), (1, 16)] rfl rfl rfl
          · replace h0 := cond_f h0 hb
            conv => whnf
            refine Or.inl ?_
            conv => whnf
            obtain ⟨y_5, hy, h0⟩ := bind_e h0
            refine ⟨_, _, (cron_Fits_FC F c m y_5 hy), Or.inl ⟨rfl, rfl, ?_⟩⟩
            conv => whnf
            obtain rfl := Option.some.inj h0
            exact end_i trivial [(0, 8), (1, 16)] rfl rfl rfl
    · conv => whnf
      refine Or.inl ?_
      conv => whnf
      refine brn_i (fun hb => ?_) (fun hb => ?_)
      · replace k0 := cond_t k0 hb
        conv => whnf
        obtain rfl := Option.some.inj k0
        exact rfl
      · replace k0 := cond_f k0 hb
        conv => whnf
        obtain ⟨hg, k0⟩ := grd_e k0
        refine And.intro hg ?_
        conv => whnf
        refine And.intro (by decide) ?_
        conv => whnf
        obtain ⟨hg, k0⟩ := grd_e k0
        refine And.intro hg ?_
        conv => whnf
        refine And.intro (by decide) ?_
        conv => whnf
        obtain ⟨hg, k0⟩ := grd_e k0
        refine And.intro hg ?_
        conv => whnf
        refine Or.inl ?_
        conv => whnf
        refine Or.inl ?_
        conv => whnf
        obtain ⟨y_6, hy, k0⟩ := bind_e k0
        refine ⟨_, _, (cron_Check_FC F (api_Cron.mk (@ibits BinOp.or IntKind.u64 c.Minute (IntKind.wrap IntKind.u64 ((1 : Int) * ((2 : Int) ^ (min (Int.toNat (IntKind.wrap IntKind.u64 bit)) 64))))) c.Hour c.Day c.Month c.Week c.AnyDay c.AnyWeek) y_6 hy), Or.inl ⟨rfl, rfl, ?_⟩⟩
        conv => whnf
        refine brn_i (fun hb => ?_) (fun hb => ?_)
        · replace k0 := cond_t k0 hb
          conv => whnf
          refine Or.inl ?_
          conv => whnf
          obtain ⟨y_7, hy, k0⟩ := bind_e k0
          refine ⟨_, _, (cron_Check_FC F (api_Cron.mk c.Minute (@ibits BinOp.or IntKind.u64 c.Hour (IntKind.wrap IntKind.u64 ((1 : Int) * ((2 : Int) ^ (min (Int.toNat (IntKind.wrap IntKind.u64 (@Int.tmod bit (24 : Int)))) 64))))) c.Day c.Month c.Week c.AnyDay c.AnyWeek) y_7 hy), Or.inl ⟨rfl, rfl, ?_⟩⟩
          conv => whnf
          refine brn_i (fun hb => ?_) (fun hb => ?_)
          · replace k0 := cond_t k0 hb
            conv => whnf
            refine Or.inl ?_
            conv => whnf
            obtain ⟨y_8, hy, k0⟩ := bind_e k0
            refine ⟨_, _, (cron_Check_FC F (api_Cron.mk c.Minute c.Hour c.Day (@ibits BinOp.or IntKind.u64 c.Month (IntKind.wrap IntKind.u64 ((1 : Int) * ((2 : Int) ^ (min (Int.toNat (IntKind.wrap IntKind.u64 (IntKind.wrap IntKind.i64 ((1 : Int) + (@Int.tmod bit (12 : Int)))))) 64))))) c.Week c.AnyDay c.AnyWeek) y_8 hy), Or.inl ⟨rfl, rfl, ?_⟩⟩
            conv => whnf
            refine brn_i (fun hb => ?_) (fun hb => ?_)
            · replace k0 := cond_t k0 hb
              conv => whnf
              refine Or.inl ?_
              conv => whnf
              obtain ⟨y_9, hy, k0⟩ := bind_e k0
              refine ⟨_, _, (cron_Fits_FC F (api_Cron.mk (@ibits BinOp.or IntKind.u64 c.Minute (IntKind.wrap IntKind.u64 ((1 : Int) * ((2 : Int) ^ (min (Int.toNat (IntKind.wrap IntKind.u64 bit)) 64))))) c.Hour c.Day c.Month c.Week c.AnyDay c.AnyWeek) m y_9 hy), Or.inl ⟨rfl, rfl, ?_⟩⟩
              conv => whnf
              refine brn_i (fun hb => ?_) (fun hb => ?_)
              · replace k0 := cond_t k0 hb
                conv => whnf
                refine Or.inl ?_
                conv => whnf
                obtain ⟨y_10, hy, k0⟩ := bind_e k0
                refine ⟨_, _, (cron_Fits_FC F (api_Cron.mk c.Minute (@ibits BinOp.or IntKind.u64 c.Hour (IntKind.wrap IntKind.u64 ((1 : Int) * ((2 : Int) ^ (min (Int.toNat (IntKind.wrap IntKind.u64 (@Int.tmod bit (24 : Int)))) 64))))) c.Day c.Month c.Week c.AnyDay c.AnyWeek) m y_10 hy), Or.inl ⟨rfl, rfl, ?_⟩⟩
                conv => whnf
                refine brn_i (fun hb => ?_) (fun hb => ?_)
                · replace k0 := cond_t k0 hb
                  conv => whnf
                  refine Or.inl ?_
                  conv => whnf
                  obtain ⟨y_11, hy, k0⟩ := bind_e k0
                  refine ⟨_, _, (cron_Fits_FC F (api_Cron.mk c.Minute c.Hour c.Day (@ibits BinOp.or IntKind.u64 c.Month (IntKind.wrap IntKind.u64 ((1 : Int) * ((2 : Int) ^ (min (Int.toNat (IntKind.wrap IntKind.u64 (IntKind.wrap IntKind.i64 ((1 : Int) + (@Int.tmod bit (12 : Int)))))) 64))))) c.Week c.AnyDay c.AnyWeek) m y_11 hy), Or.inl ⟨rfl, rfl, ?_⟩⟩
                  conv => whnf
                  obtain rfl := Option.some.inj k0
                  exact rfl
                · replace k0 := cond_f k0 hb
                  conv => whnf
                  obtain rfl := Option.some.inj k0
                  exact rfl
              · replace k0 := cond_f k0 hb
                conv => whnf
                obtain rfl := Option.some.inj k0
                exact rfl
            · replace k0 := cond_f k0 hb
              conv => whnf
              obtain rfl := Option.some.inj k0
              exact rfl
          · replace k0 := cond_f k0 hb
            conv => whnf
            obtain rfl := Option.some.inj k0
            exact rfl
        · replace k0 := cond_f k0 hb
          conv => whnf
          obtain rfl := Option.some.inj k0
          exact rfl


end Go.T
