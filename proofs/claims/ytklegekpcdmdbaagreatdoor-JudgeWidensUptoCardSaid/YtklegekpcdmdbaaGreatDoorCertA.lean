/-
  CertJw: the program's functions compute them. Printed by a program.
-/
import Derived.Test.YtklegekpcdmdbaaGreatDoorSem
import Derived.Test.YtklegekpcdmdbaaGreatDoorProg
import Derived.KernelRfl
import Derived.Test.YtklegekpcdmdbaaGreatDoorPlain
import Derived.WalkKit
set_option linter.unusedVariables false
set_option maxRecDepth 200000
set_option maxHeartbeats 4000000
namespace Go.T
open Go Go.Ab Go.Proofs
theorem mixed : Tryz.prog.follows .mixedOrders = true := by kernel_rfl
theorem blank_pred : ∀ w, PredAtRunes Tryz.prog 59 #[] blankP w := by
  intro w W x hx hb
  show Calls Tryz.prog 59 #[.int .i32 x] W _
  have key : Calls Tryz.prog 59 #[.int .i32 x] W fun e w' => e = .returned (.bool ((x : Int) == 32 || (x : Int) == 9)) ∧ W = w' := by
    go_enter Tryz.func59, Tryz.ntmps59
    go_wp2
    all_goals go_ret
    all_goals (refine ⟨?_, rfl⟩; simp_all)
  refine key.mono ?_
  rintro e w' ⟨rfl, rfl⟩
  refine ⟨?_, 0, rfl⟩
  have h : ((x : Int) == 32 || (x : Int) == 9) = blankP x := by
    unfold blankP
    rw [Bool.eq_iff_iff]
    simp only [Bool.or_eq_true, beq_iff_eq]
    omega
  rw [h]
theorem strings_FieldsFunc_FC {ml : Int} (F : Nat) (s : (List UInt8)) (r : (List (List UInt8))) (h : strings_FieldsFunc F s = some r) : FC Tryz.prog (GM ml) 58 [] [.str s, .fn 59 []] (.sl (List.map cStr r)) [] := by
  unfold strings_FieldsFunc at h
  obtain ⟨hg, h⟩ := grd_e h
  obtain rfl := Option.some.inj h
  exact FC_fields (t := 9) (by kernel_rfl) blankP blank_pred (fun s w a b => Tryz.strings_FieldsFunc_runes 59 #[] (enters_of Tryz.func59 (by kernel_rfl) rfl) blankP s w a b) s hg.1 hg.2

theorem strings_Split_FC {ml : Int} (F : Nat) (s sep : (List UInt8)) (r : (List (List UInt8))) (h : strings_Split F s sep = some r) : FC Tryz.prog (GM ml) 72 [] [.str s, .str sep] (.sl (List.map cStr r)) [] := by
  unfold strings_Split at h
  obtain ⟨hg, h⟩ := grd_e h
  obtain rfl := Option.some.inj h
  exact FC_split (g := 2) (t := 9) (by kernel_rfl) rfl (fun s sep w a b c => Tryz.strings_Split s sep ml w a b c) s sep hg.1 hg.2

theorem strings_Cut_FC {ml : Int} (F : Nat) (s sep : (List UInt8)) (r : ((List UInt8) × (List UInt8) × Bool)) (h : strings_Cut F s sep = some r) : FC Tryz.prog (GM ml) 82 [] [.str s, .str sep] (.tup [.str r.1, .str r.2.1, .bool r.2.2]) [] := by
  unfold strings_Cut at h
  obtain ⟨hg, h⟩ := grd_e h
  obtain rfl := Option.some.inj h
  exact FC_cut (g := 2) (by kernel_rfl) rfl (fun s sep w a b => Tryz.strings_Cut s sep ml w a b) s sep hg

theorem strings_Trim_FC {ml : Int} (F : Nat) (s cs : (List UInt8)) (r : (List UInt8)) (h : strings_Trim F s cs = some r) : FC Tryz.prog (GM ml) 96 [] [.str s, .str cs] (.str r) [] := by
  unfold strings_Trim at h
  obtain ⟨hg, h⟩ := grd_e h
  obtain rfl := Option.some.inj h
  exact FC_trim (by kernel_rfl) (fun s cs w a b c => Tryz.strings_Trim_ascii s cs w a b c) s cs hg.1 hg.2.1 hg.2.2

theorem strconv_Atoi_FC0 {ml : Int} (F : Nat) (s : (List UInt8)) (r : Int) (h : strconv_Atoi F s = some r) : FC Tryz.prog (GM ml) 97 [] [.str s] (.tup [.int .i64 r, .con .nilIface]) [] := by
  unfold strconv_Atoi at h
  split at h
  · rename_i v hv
    obtain ⟨hg, h⟩ := grd_e h
    obtain rfl := Option.some.inj h
    exact FC_atoi (by kernel_rfl) (fun s v w a b => (Tryz.strconv_Atoi_ok s a v b w).mono fun e w' hh => ⟨hh.1, hh.2.imp id fun ⟨t, ht⟩ => ⟨t, _, ht⟩⟩) s _ hg hv
  · cases h

theorem cron_number_FC {ml : Int} (F : Nat) (s : (List UInt8)) (r : (Int × Bool)) (h : cron_number F s = some r) : FC Tryz.prog (GM ml) 83 [] [(AV.str s)] (.tup [(.int IntKind.i64 r.1), (.bool r.2)]) [] := by
  refine FC_of 2000 Tryz.func83 rfl (by kernel_rfl) mixed (by show 1 ≤ 25; decide) ?_
  unfold cron_number at h
  conv => whnf
  obtain ⟨t18_1, h0, k0⟩ := bind_e h
  refine Or.inr (joins_i True ((0, (AV.str s)) :: ((18, (AV.bool t18_1)) :: [])) [] 0 ?_ (fun _ => ?_))
  · conv => whnf
    refine Or.inl ?_
    conv => whnf
    refine brn_i (fun hb => ?_) (fun hb => ?_)
    · replace h0 := cond_t h0 hb
      conv => whnf
      obtain rfl := Option.some.inj h0
      exact end_i trivial [] rfl rfl rfl
    · replace h0 := cond_f h0 hb
      conv => whnf
      refine brn_i (fun hb => ?_) (fun hb => ?_)
      · replace h0 := cond_t h0 hb
        conv => whnf
        obtain rfl := Option.some.inj h0
        exact end_i trivial [] rfl rfl rfl
      · replace h0 := cond_f h0 hb
        conv => whnf
        refine Or.inl ?_
        conv => whnf
        obtain ⟨y_2, hy, h0⟩ := bind_e h0
        refine ⟨_, _, (strings_Trim_FC F s ([48, 49, 50, 51, 52, 53, 54, 55, 56, 57] : List UInt8) y_2 hy), Or.inl ⟨rfl, rfl, ?_⟩⟩
        conv => whnf
        obtain rfl := Option.some.inj h0
        exact end_i trivial [] rfl rfl rfl
  · conv => whnf
    refine Or.inl ?_
    conv => whnf
    refine brn_i (fun hb => ?_) (fun hb => ?_)
    · replace k0 := cond_t k0 hb
      conv => whnf
      obtain rfl := Option.some.inj k0
      exact rfl
    · replace k0 := cond_f k0 hb
      conv => whnf
      refine Or.inl ?_
      conv => whnf
      obtain ⟨y_3, hy, k0⟩ := bind_e k0
      refine ⟨_, _, (FC_close (strconv_Atoi_FC0 F s y_3 hy) rfl), Or.inr ⟨[], rfl, ?_⟩⟩
      conv => whnf
      obtain rfl := Option.some.inj k0
      exact rfl

theorem cron_read_FC {ml : Int} (F : Nat) (s : (List UInt8)) (f : cron_span) (r : (cron_item × Bool)) (h : cron_read F s f = some r) : FC Tryz.prog (GM ml) 73 [] [(AV.str s), (AV.agg (cron_span.c f))] (.tup [(.agg (cron_item.c r.1)), (.bool r.2)]) [] := by
  refine FC_of 2000 Tryz.func73 rfl (by kernel_rfl) mixed (by show 2 ≤ 74; decide) ?_
  unfold cron_read at h
  conv => whnf
  refine Or.inl ?_
  conv => whnf
  obtain ⟨y_0, hy, h⟩ := bind_e h
  refine ⟨_, _, (strings_Cut_FC F s ([47] : List UInt8) y_0 hy), Or.inl ⟨rfl, rfl, ?_⟩⟩
  conv => whnf
  obtain ⟨o0, h0, k0⟩ := bind_e h
  refine Or.inr (joins_i True ((0, (AV.str y_0.1)) :: ((3, (AV.ptr 0 0 0)) :: ((4, (AV.ptr 1 0 0)) :: ((7, (AV.bool y_0.2.2)) :: ((8, (AV.int IntKind.i64 o0.1)) :: ((9, (AV.bool o0.2)) :: [])))))) ((0, (AO.rows false (((AV.int IntKind.i64 f.least) :: ((AV.int IntKind.i64 f.most) :: [])) :: []))) :: ((1, (AO.rows false (((AV.int IntKind.i64 (0 : Int)) :: ((AV.int IntKind.i64 (0 : Int)) :: ((AV.int IntKind.i64 (0 : Int)) :: []))) :: []))) :: [])) 2 ?_ (fun _ => ?_))
  · conv => whnf
    refine Or.inl ?_
    conv => whnf
    refine brn_i (fun hb => ?_) (fun hb => ?_)
    · replace h0 := cond_t h0 hb
      conv => whnf
      refine Or.inl ?_
      conv => whnf
      obtain ⟨y_4, hy, h0⟩ := bind_e h0
      refine ⟨_, _, (cron_number_FC F y_0.2.1 y_4 hy), Or.inl ⟨rfl, rfl, ?_⟩⟩
      conv => whnf
      obtain rfl := Option.some.inj h0
      exact end_i trivial [(0, 8), (1, 16)] rfl rfl rfl
    · replace h0 := cond_f h0 hb
      conv => whnf
      obtain rfl := Option.some.inj h0
      exact end_i trivial [(0, 8), (1, 16)] rfl rfl rfl
  · obtain ⟨step_2, ok_3⟩ := o0
    conv => whnf
    refine Or.inl ?_
    conv => whnf
    refine brn_i (fun hb => ?_) (fun hb => ?_)
    · replace k0 := cond_t k0 hb
      conv => whnf
      obtain rfl := Option.some.inj k0
      exact rfl
    · replace k0 := cond_f k0 hb
      conv => whnf
      refine Or.inl ?_
      conv => whnf
      obtain ⟨y_5, hy, k0⟩ := bind_e k0
      refine ⟨_, _, (strings_Cut_FC F y_0.1 ([45] : List UInt8) y_5 hy), Or.inl ⟨rfl, rfl, ?_⟩⟩
      conv => whnf
      refine Or.inl ?_
      conv => whnf
      obtain ⟨y_6, hy, k0⟩ := bind_e k0
      refine ⟨_, _, (cron_number_FC F y_5.1 y_6 hy), Or.inl ⟨rfl, rfl, ?_⟩⟩
      conv => whnf
      obtain ⟨o1, h1, k1⟩ := bind_e k0
      refine Or.inr (joins_i True ((4, (AV.ptr 0 0 0)) :: ((7, (AV.bool y_0.2.2)) :: ((8, (AV.int IntKind.i64 step_2)) :: ((9, (AV.bool ok_3)) :: ((12, (AV.bool y_5.2.2)) :: ((13, (AV.int IntKind.i64 y_6.1)) :: ((14, (AV.bool y_6.2)) :: ((15, (AV.int IntKind.i64 o1.1)) :: ((16, (AV.bool o1.2)) :: []))))))))) ((0, (AO.rows false (((AV.int IntKind.i64 (0 : Int)) :: ((AV.int IntKind.i64 (0 : Int)) :: ((AV.int IntKind.i64 (0 : Int)) :: []))) :: []))) :: []) 1 ?_ (fun _ => ?_))
      · conv => whnf
        refine Or.inl ?_
        conv => whnf
        refine brn_i (fun hb => ?_) (fun hb => ?_)
        · replace h1 := cond_t h1 hb
          conv => whnf
          refine Or.inl ?_
          conv => whnf
          obtain ⟨y_10, hy, h1⟩ := bind_e h1
          refine ⟨_, _, (cron_number_FC F y_5.2.1 y_10 hy), Or.inl ⟨rfl, rfl, ?_⟩⟩
          conv => whnf
          obtain rfl := Option.some.inj h1
          exact end_i trivial [(0, 1)] rfl rfl rfl
        · replace h1 := cond_f h1 hb
          conv => whnf
          obtain rfl := Option.some.inj h1
          exact end_i trivial [(0, 1)] rfl rfl rfl
      · obtain ⟨to__8, so_9⟩ := o1
        conv => whnf
        refine Or.inl ?_
        conv => whnf
        refine brn_i (fun hb => ?_) (fun hb => ?_)
        · replace k1 := cond_t k1 hb
          conv => whnf
          refine brn_i (fun hb => ?_) (fun hb => ?_)
          · replace k1 := cond_t k1 hb
            conv => whnf
            refine brn_i (fun hb => ?_) (fun hb => ?_)
            · replace k1 := cond_t k1 hb
              conv => whnf
              refine brn_i (fun hb => ?_) (fun hb => ?_)
              · replace k1 := cond_t k1 hb
                conv => whnf
                obtain rfl := Option.some.inj k1
                exact rfl
              · replace k1 := cond_f k1 hb
                conv => whnf
                obtain rfl := Option.some.inj k1
                exact rfl
            · replace k1 := cond_f k1 hb
              conv => whnf
              obtain rfl := Option.some.inj k1
              exact rfl
          · replace k1 := cond_f k1 hb
            conv => whnf
            obtain rfl := Option.some.inj k1
            exact rfl
        · replace k1 := cond_f k1 hb
          conv => whnf
          obtain rfl := Option.some.inj k1
          exact rfl

theorem cron_all_FC {ml : Int} (F : Nat) (least : Int) (most : Int) (r : Int) (h : cron_all F least most = some r) : FC Tryz.prog (GM ml) 62 [] [(AV.int IntKind.i64 least), (AV.int IntKind.i64 most)] (.int IntKind.u64 r) [] := by
  refine FC_of 2000 Tryz.func62 rfl (by kernel_rfl) mixed (by show 2 ≤ 11; decide) ?_
  unfold cron_all at h
  conv => whnf
  obtain ⟨hg, h⟩ := grd_e h
  refine And.intro hg ?_
  conv => whnf
  obtain ⟨hg, h⟩ := grd_e h
  refine And.intro hg ?_
  conv => whnf
  refine And.intro (by kernel_rfl) ?_
  conv => whnf
  obtain rfl := Option.some.inj h
  exact rfl

theorem cron_field_FC {ml : Int} (F : Nat) (s : (List UInt8)) (n : Int) (r : (Int × Int)) (h : cron_field F s n = some r) : FC Tryz.prog (GM ml) 60 [] [(AV.str s), (AV.int IntKind.i64 n)] (.tup [(.int IntKind.u64 r.1), (.int IntKind.i64 r.2)]) [] := by
  refine FC_of 2000 Tryz.func60 rfl (by kernel_rfl) mixed (by show 2 ≤ 91; decide) ?_
  unfold cron_field at h
  conv => whnf
  obtain ⟨o0, h0, k0⟩ := bind_e h
  refine Or.inr (joins_i True ((0, (AV.str s)) :: ((1, (AV.int IntKind.i64 n)) :: ((6, (AV.int IntKind.u64 (0 : Int))) :: ((7, (AV.int IntKind.i64 (0 : Int))) :: ((8, (AV.ptr 0 0 0)) :: []))))) ((0, (AO.rows false (((AV.int IntKind.i64 o0.1) :: ((AV.int IntKind.i64 o0.2) :: [])) :: []))) :: []) 1 ?_ (fun _ => ?_))
  · conv => whnf
    refine Or.inl ?_
    conv => whnf
    obtain ⟨hg, h0⟩ := grd_e h0
    refine And.intro hg ?_
    conv => whnf
    obtain ⟨hg, h0⟩ := grd_e h0
    refine And.intro hg ?_
    conv => whnf
    refine Or.inr ?_
    conv => whnf
    refine brn_i (fun hb => ?_) (fun hb => ?_)
    · replace h0 := cond_t h0 hb
      conv => whnf
      obtain rfl := Option.some.inj h0
      exact end_i trivial [(0, 64)] rfl rfl rfl
    · replace h0 := cond_f h0 hb
      conv => whnf
      refine brn_i (fun hb => ?_) (fun hb => ?_)
      · replace h0 := cond_t h0 hb
        conv => whnf
        obtain rfl := Option.some.inj h0
        exact end_i trivial [(0, 64)] rfl rfl rfl
      · replace h0 := cond_f h0 hb
        conv => whnf
        refine brn_i (fun hb => ?_) (fun hb => ?_)
        · replace h0 := cond_t h0 hb
          conv => whnf
          obtain rfl := Option.some.inj h0
          exact end_i trivial [(0, 64)] rfl rfl rfl
        · replace h0 := cond_f h0 hb
          conv => whnf
          refine brn_i (fun hb => ?_) (fun hb => ?_)
          · replace h0 := cond_t h0 hb
            conv => whnf
            obtain rfl := Option.some.inj h0
            exact end_i trivial [(0, 64)] rfl rfl rfl
          · replace h0 := cond_f h0 hb
            conv => whnf
            refine brn_i (fun hb => ?_) (fun hb => ?_)
            · replace h0 := cond_t h0 hb
              conv => whnf
              obtain rfl := Option.some.inj h0
              exact end_i trivial [(0, 64)] rfl rfl rfl
            · replace h0 := cond_f h0 hb
              conv => whnf
              exact trivial
  · obtain ⟨c_0, c_1⟩ := o0
    conv => whnf
    refine Or.inl ?_
    conv => whnf
    obtain ⟨y_2, hy, k0⟩ := bind_e k0
    refine ⟨_, _, (strings_Split_FC F s ([44] : List UInt8) y_2 hy), Or.inr ⟨[], rfl, ?_⟩⟩
    conv => whnf
    obtain ⟨o11, h11, k11⟩ := bind_e k0
    refine Or.inr (joins_i (o11 = Sum.inr (outR o11)) ((1, (AV.int IntKind.i64 n)) :: ((6, (AV.int IntKind.u64 (outR o11).1)) :: ((7, (AV.int IntKind.i64 (outR o11).2)) :: []))) [] 0 ?_ (fun hR => ?_))
    · conv => whnf
      refine Or.inl ?_
      conv => whnf
      refine loops_i (α := (Nat × Int × Int × Int)) (fun xq => ((1, (AV.int IntKind.i64 n)) :: ((6, (AV.int IntKind.u64 xq.2.1)) :: ((7, (AV.int IntKind.i64 xq.2.2.1)) :: ((8, (AV.ptr 0 0 0)) :: ((18, (AV.sl (List.map cStr y_2))) :: ((19, (AV.int IntKind.i64 (@Nat.cast Int instNatCastInt (List.length (List.map cStr y_2))))) :: ((20, (AV.int IntKind.i64 xq.2.2.2)) :: [])))))))) (fun xq => ((0, (AO.rows false (((AV.int IntKind.i64 c_0) :: ((AV.int IntKind.i64 c_1) :: [])) :: []))) :: [])) 1 (fun xq => cron_field_l0 F n c_0 c_1 y_2 xq.1 xq.2.1 xq.2.2.1 xq.2.2.2 = some o11) (fun xq => xq.1) (F, (0 : Int), (0 : Int), (0 : Int)) [(0, 0)] h11 rfl rfl rfl ?_
      rintro ⟨n_29, bits_30, e_31, t20_32⟩ h11
      replace h11 : cron_field_l0 F n c_0 c_1 y_2 n_29 bits_30 e_31 t20_32 = some o11 := h11
      cases n_29 with
      | zero => rw [cron_field_l0.eq_1] at h11; cases h11
      | succ n_29 =>
        rw [cron_field_l0.eq_2] at h11
        conv => whnf
        refine Or.inl ?_
        conv => whnf
        refine brn_i (fun hb => ?_) (fun hb => ?_)
        · replace h11 := cond_t h11 (by first | exact hb | (simp; done) | simpa using hb | simpa [chunk] using hb)
          conv => whnf
          obtain ⟨o21, h21, k21⟩ := bind_e h11
          refine Or.inr (joins_i (o21 = Sum.inr (outR o21)) ((1, (AV.int IntKind.i64 n)) :: ((6, (AV.int IntKind.u64 (outR o21).1)) :: ((7, (AV.int IntKind.i64 (outR o21).2)) :: ((8, (AV.ptr 0 0 0)) :: ((18, (AV.sl (List.map cStr y_2))) :: ((19, (AV.int IntKind.i64 (@Nat.cast Int instNatCastInt (List.length (List.map cStr y_2))))) :: ((20, (AV.int IntKind.i64 t20_32)) :: []))))))) ((0, (AO.rows false (((AV.int IntKind.i64 c_0) :: ((AV.int IntKind.i64 c_1) :: [])) :: []))) :: []) 1 ?_ (fun hR => ?_))
          · conv => whnf
            refine Or.inl ?_
            conv => whnf
            obtain ⟨hg, h21⟩ := grd_e h21
            refine And.intro hg ?_
            conv => whnf
            obtain ⟨y_41, hy, h21⟩ := bind_e h21
            refine opt_i (cStr y_41) (getE rfl hy) ?_
            conv => whnf
            refine Or.inl ?_
            conv => whnf
            obtain ⟨y_42, hy, h21⟩ := bind_e h21
            refine ⟨_, _, (cron_read_FC F y_41 (cron_span.mk c_0 c_1) y_42 hy), Or.inl ⟨rfl, rfl, ?_⟩⟩
            conv => whnf
            refine Or.inl ?_
            conv => whnf
            refine brn_i (fun hb => ?_) (fun hb => ?_)
            · replace h21 := cond_t h21 hb
              conv => whnf
              obtain rfl := Option.some.inj h21
              obtain rfl := Option.some.inj k21
              obtain rfl := Option.some.inj k11
              exact rfl
            · replace h21 := cond_f h21 hb
              conv => whnf
              obtain ⟨t55_43, h22, k22⟩ := bind_e h21
              refine Or.inr (joins_i True ((1, (AV.int IntKind.i64 n)) :: ((6, (AV.int IntKind.u64 bits_30)) :: ((7, (AV.int IntKind.i64 e_31)) :: ((8, (AV.ptr 0 0 0)) :: ((10, (AV.str y_41)) :: ((11, (AV.ptr 1 0 0)) :: ((18, (AV.sl (List.map cStr y_2))) :: ((19, (AV.int IntKind.i64 (@Nat.cast Int instNatCastInt (List.length (List.map cStr y_2))))) :: ((20, (AV.int IntKind.i64 t20_32)) :: ((55, (AV.bool t55_43)) :: [])))))))))) ((0, (AO.rows false (((AV.int IntKind.i64 c_0) :: ((AV.int IntKind.i64 c_1) :: [])) :: []))) :: ((1, (AO.rows false (((AV.int IntKind.i64 y_42.1.from_) :: ((AV.int IntKind.i64 y_42.1.to_) :: ((AV.int IntKind.i64 y_42.1.step) :: []))) :: []))) :: [])) 2 ?_ (fun _ => ?_))
              · conv => whnf
                refine Or.inl ?_
                conv => whnf
                refine brn_i (fun hb => ?_) (fun hb => ?_)
                · replace h22 := cond_t h22 hb
                  conv => whnf
                  obtain rfl := Option.some.inj h22
                  exact end_i trivial [(0, 0), (1, 81)] rfl rfl rfl
                · replace h22 := cond_f h22 hb
                  conv => whnf
                  refine brn_i (fun hb => ?_) (fun hb => ?_)
                  · replace h22 := cond_t h22 hb
                    conv => whnf
                    obtain rfl := Option.some.inj h22
                    exact end_i trivial [(0, 0), (1, 81)] rfl rfl rfl
                  · replace h22 := cond_f h22 hb
                    conv => whnf
                    refine brn_i (fun hb => ?_) (fun hb => ?_)
                    · replace h22 := cond_t h22 hb
                      conv => whnf
                      obtain rfl := Option.some.inj h22
                      exact end_i trivial [(0, 0), (1, 81)] rfl rfl rfl
                    · replace h22 := cond_f h22 hb
                      conv => whnf
                      obtain rfl := Option.some.inj h22
                      exact end_i trivial [(0, 0), (1, 81)] rfl rfl rfl
              · conv => whnf
                refine Or.inl ?_
                conv => whnf
                refine brn_i (fun hb => ?_) (fun hb => ?_)
                · replace k22 := cond_t k22 hb
                  conv => whnf
                  obtain rfl := Option.some.inj k22
                  exact end_i rfl [(0, 0)] rfl rfl rfl
                · replace k22 := cond_f k22 hb
                  conv => whnf
                  obtain ⟨t61_44, h23, k23⟩ := bind_e k22
                  refine Or.inr (joins_i True ((1, (AV.int IntKind.i64 n)) :: ((6, (AV.int IntKind.u64 bits_30)) :: ((7, (AV.int IntKind.i64 e_31)) :: ((8, (AV.ptr 0 0 0)) :: ((11, (AV.ptr 1 0 0)) :: ((18, (AV.sl (List.map cStr y_2))) :: ((19, (AV.int IntKind.i64 (@Nat.cast Int instNatCastInt (List.length (List.map cStr y_2))))) :: ((20, (AV.int IntKind.i64 t20_32)) :: ((61, (AV.bool t61_44)) :: []))))))))) ((0, (AO.rows false (((AV.int IntKind.i64 c_0) :: ((AV.int IntKind.i64 c_1) :: [])) :: []))) :: ((1, (AO.rows false (((AV.int IntKind.i64 y_42.1.from_) :: ((AV.int IntKind.i64 y_42.1.to_) :: ((AV.int IntKind.i64 y_42.1.step) :: []))) :: []))) :: [])) 2 ?_ (fun _ => ?_))
                  · conv => whnf
                    refine Or.inl ?_
                    conv => whnf
                    refine brn_i (fun hb => ?_) (fun hb => ?_)
                    · replace h23 := cond_t h23 hb
                      conv => whnf
                      obtain rfl := Option.some.inj h23
                      exact end_i trivial [(0, 0), (1, 1)] rfl rfl rfl
                    · replace h23 := cond_f h23 hb
                      conv => whnf
                      obtain rfl := Option.some.inj h23
                      exact end_i trivial [(0, 0), (1, 1)] rfl rfl rfl
                  · conv => whnf
                    obtain ⟨c_45, h24, k24⟩ := bind_e k23
                    refine Or.inr (joins_i True ((1, (AV.int IntKind.i64 n)) :: ((6, (AV.int IntKind.u64 bits_30)) :: ((7, (AV.int IntKind.i64 e_31)) :: ((8, (AV.ptr 0 0 0)) :: ((11, (AV.ptr 1 0 0)) :: ((18, (AV.sl (List.map cStr y_2))) :: ((19, (AV.int IntKind.i64 (@Nat.cast Int instNatCastInt (List.length (List.map cStr y_2))))) :: ((20, (AV.int IntKind.i64 t20_32)) :: [])))))))) ((0, (AO.rows false (((AV.int IntKind.i64 c_0) :: ((AV.int IntKind.i64 c_1) :: [])) :: []))) :: ((1, (AO.rows false (((AV.int IntKind.i64 y_42.1.from_) :: ((AV.int IntKind.i64 c_45) :: ((AV.int IntKind.i64 y_42.1.step) :: []))) :: []))) :: [])) 2 ?_ (fun _ => ?_))
                    · conv => whnf
                      refine Or.inl ?_
                      conv => whnf
                      refine brn_i (fun hb => ?_) (fun hb => ?_)
                      · replace h24 := cond_t h24 hb
                        conv => whnf
                        obtain rfl := Option.some.inj h24
                        exact end_i trivial [(0, 0), (1, 1)] rfl rfl rfl
                      · replace h24 := cond_f h24 hb
                        conv => whnf
                        obtain rfl := Option.some.inj h24
                        exact end_i trivial [(0, 0), (1, 1)] rfl rfl rfl
                    · conv => whnf
                      obtain ⟨bits_46, h25, k25⟩ := bind_e k24
                      refine Or.inr (joins_i True ((1, (AV.int IntKind.i64 n)) :: ((6, (AV.int IntKind.u64 bits_46)) :: ((7, (AV.int IntKind.i64 e_31)) :: ((8, (AV.ptr 0 0 0)) :: ((18, (AV.sl (List.map cStr y_2))) :: ((19, (AV.int IntKind.i64 (@Nat.cast Int instNatCastInt (List.length (List.map cStr y_2))))) :: ((20, (AV.int IntKind.i64 t20_32)) :: []))))))) ((0, (AO.rows false (((AV.int IntKind.i64 c_0) :: ((AV.int IntKind.i64 c_1) :: [])) :: []))) :: []) 1 ?_ (fun _ => ?_))
                      · conv => whnf
                        refine Or.inl ?_
                        conv => whnf
                        refine loops_i (α := (Nat × Int × Int)) (fun xq => ((1, (AV.int IntKind.i64 n)) :: ((6, (AV.int IntKind.u64 xq.2.1)) :: ((7, (AV.int IntKind.i64 e_31)) :: ((8, (AV.ptr 0 0 0)) :: ((11, (AV.ptr 1 0 0)) :: ((13, (AV.int IntKind.i64 xq.2.2)) :: ((18, (AV.sl (List.map cStr y_2))) :: ((19, (AV.int IntKind.i64 (@Nat.cast Int instNatCastInt (List.length (List.map cStr y_2))))) :: ((20, (AV.int IntKind.i64 t20_32)) :: [])))))))))) (fun xq => ((0, (AO.rows false (((AV.int IntKind.i64 c_0) :: ((AV.int IntKind.i64 c_1) :: [])) :: []))) :: ((1, (AO.rows false (((AV.int IntKind.i64 y_42.1.from_) :: ((AV.int IntKind.i64 c_45) :: ((AV.int IntKind.i64 y_42.1.step) :: []))) :: []))) :: []))) 2 (fun xq => cron_field_l1 F y_42 c_45 xq.1 xq.2.1 xq.2.2 = some bits_46) (fun xq => xq.1) (F, bits_30, y_42.1.from_) [(0, 0), (1, 1)] h25 rfl rfl rfl ?_
                        rintro ⟨n_47, bits_48, k_49⟩ h25
                        replace h25 : cron_field_l1 F y_42 c_45 n_47 bits_48 k_49 = some bits_46 := h25
                        cases n_47 with
                        | zero => rw [cron_field_l1.eq_1] at h25; cases h25
                        | succ n_47 =>
                          rw [cron_field_l1.eq_2] at h25
                          conv => whnf
                          refine Or.inl ?_
                          conv => whnf
                          refine brn_i (fun hb => ?_) (fun hb => ?_)
                          · replace h25 := cond_t h25 hb
                            conv => whnf
                            refine Or.inl ?_
                            conv => whnf
                            obtain ⟨hg, h25⟩ := grd_e h25
                            refine And.intro hg ?_
                            conv => whnf
                            exact round_i (n_47, (@ibits BinOp.or IntKind.u64 bits_48 (IntKind.wrap IntKind.u64 ((1 : Int) * ((2 : Int) ^ (min (Int.toNat k_49) 64))))), (IntKind.wrap IntKind.i64 (k_49 + y_42.1.step))) [(0, 0), (1, 1)] h25 (Nat.lt_succ_self _) rfl rfl rfl
                          · replace h25 := cond_f h25 hb
                            conv => whnf
                            obtain rfl := Option.some.inj h25
                            exact end_i trivial [(0, 0)] rfl rfl rfl
                      · conv => whnf
                        obtain rfl := Option.some.inj k25
                        exact end_i rfl [(0, 0)] rfl rfl rfl
          · replace k21 := elim_e hR k21
            generalize outR o21 = v at k21 ⊢
            obtain ⟨bits_39, e_40⟩ := v
            conv => whnf
            exact round_i (n_29, bits_39, e_40, (IntKind.wrap IntKind.i64 (t20_32 + (1 : Int)))) [(0, 0)] k21 (Nat.lt_succ_self _) rfl rfl rfl
        · replace h11 := cond_f h11 (by first | exact hb | (simp; done) | simpa using hb | simpa [chunk] using hb)
          conv => whnf
          obtain rfl := Option.some.inj h11
          exact end_i rfl [] rfl rfl rfl
    · replace k11 := elim_e hR k11
      generalize outR o11 = v at k11 ⊢
      obtain ⟨bits_19, e_20⟩ := v
      conv => whnf
      obtain ⟨t84_50, h12, k12⟩ := bind_e k11
      refine Or.inr (joins_i True ((6, (AV.int IntKind.u64 bits_19)) :: ((7, (AV.int IntKind.i64 e_20)) :: ((84, (AV.bool t84_50)) :: []))) [] 0 ?_ (fun _ => ?_))
      · conv => whnf
        refine Or.inl ?_
        conv => whnf
        refine brn_i (fun hb => ?_) (fun hb => ?_)
        · replace h12 := cond_t h12 hb
          conv => whnf
          refine And.intro (by decide) ?_
          conv => whnf
          obtain rfl := Option.some.inj h12
          exact end_i trivial [] rfl rfl rfl
        · replace h12 := cond_f h12 hb
          conv => whnf
          obtain rfl := Option.some.inj h12
          exact end_i trivial [] rfl rfl rfl
      · conv => whnf
        obtain ⟨bits_52, h13, k13⟩ := bind_e k12
        refine Or.inr (joins_i True ((6, (AV.int IntKind.u64 bits_52)) :: ((7, (AV.int IntKind.i64 e_20)) :: [])) [] 0 ?_ (fun _ => ?_))
        · conv => whnf
          refine Or.inl ?_
          conv => whnf
          refine brn_i (fun hb => ?_) (fun hb => ?_)
          · replace h13 := cond_t h13 hb
            conv => whnf
            refine Or.inl ?_
            conv => whnf
            obtain ⟨y_53, hy, h13⟩ := bind_e h13
            refine ⟨_, _, (cron_all_FC F (0 : Int) (6 : Int) y_53 hy), Or.inl ⟨rfl, rfl, ?_⟩⟩
            conv => whnf
            obtain rfl := Option.some.inj h13
            exact end_i trivial [] rfl rfl rfl
          · replace h13 := cond_f h13 hb
            conv => whnf
            obtain rfl := Option.some.inj h13
            exact end_i trivial [] rfl rfl rfl
        · conv => whnf
          obtain rfl := Option.some.inj k13
          exact rfl

theorem cron_Parse_FC {ml : Int} (F : Nat) (text : (List UInt8)) (r : (api_Cron × Int × Int)) (h : cron_Parse F text = some r) : FC Tryz.prog (GM ml) 44 [] [(AV.str text)] (.tup [(.agg (api_Cron.c r.1)), (.int IntKind.i64 r.2.1), (.int IntKind.i64 r.2.2)]) [] := by
  refine FC_of 2000 Tryz.func44 rfl (by kernel_rfl) mixed (by show 1 ≤ 62; decide) ?_
  unfold cron_Parse at h
  conv => whnf
  refine Or.inl ?_
  conv => whnf
  refine brn_i (fun hb => ?_) (fun hb => ?_)
  · replace h := cond_t h hb
    conv => whnf
    obtain rfl := Option.some.inj h
    exact rfl
  · replace h := cond_f h hb
    conv => whnf
    refine Or.inl ?_
    conv => whnf
    obtain ⟨y_0, hy, h⟩ := bind_e h
    refine ⟨_, _, (strings_FieldsFunc_FC F text y_0 hy), Or.inr ⟨[], rfl, ?_⟩⟩
    conv => whnf
    refine Or.inl ?_
    conv => whnf
    refine brn_i (fun hb => ?_) (fun hb => ?_)
    · replace h := cond_t h (by first | exact hb | (simp; done) | simpa using hb | simpa [chunk] using hb)
      conv => whnf
      obtain rfl := Option.some.inj h
      exact rfl
    · replace h := cond_f h (by first | exact hb | (simp; done) | simpa using hb | simpa [chunk] using hb)
      conv => whnf
      obtain ⟨o4, h4, k4⟩ := bind_e h
      refine Or.inr (joins_i (o4 = Sum.inr (outR o4)) ((2, (AV.ptr 0 0 0)) :: ((5, (AV.sl (List.map cStr y_0))) :: ((6, (AV.ptr 1 0 0)) :: []))) ((0, (AO.rows false (((AV.int IntKind.u64 (0 : Int)) :: ((AV.int IntKind.u64 (0 : Int)) :: ((AV.int IntKind.u64 (0 : Int)) :: ((AV.int IntKind.u64 (0 : Int)) :: ((AV.int IntKind.u64 (0 : Int)) :: ((AV.bool false) :: ((AV.bool false) :: []))))))) :: []))) :: ((1, (AO.rows false (((AV.int IntKind.u64 (outR o4).1) :: ((AV.int IntKind.u64 (outR o4).2.1) :: ((AV.int IntKind.u64 (outR o4).2.2.1) :: ((AV.int IntKind.u64 (outR o4).2.2.2.1) :: ((AV.int IntKind.u64 (outR o4).2.2.2.2) :: []))))) :: []))) :: [])) 2 ?_ (fun hR => ?_))
      · conv => whnf
        refine Or.inl ?_
        conv => whnf
        refine loops_i (α := (Nat × Int × Int × Int × Int × Int × Int)) (fun xq => ((2, (AV.ptr 0 0 0)) :: ((5, (AV.sl (List.map cStr y_0))) :: ((6, (AV.ptr 1 0 0)) :: ((21, (AV.sl (List.map cStr y_0))) :: ((22, (AV.int IntKind.i64 (@Nat.cast Int instNatCastInt (List.length (List.map cStr y_0))))) :: ((23, (AV.int IntKind.i64 xq.2.1)) :: []))))))) (fun xq => ((0, (AO.rows false (((AV.int IntKind.u64 (0 : Int)) :: ((AV.int IntKind.u64 (0 : Int)) :: ((AV.int IntKind.u64 (0 : Int)) :: ((AV.int IntKind.u64 (0 : Int)) :: ((AV.int IntKind.u64 (0 : Int)) :: ((AV.bool false) :: ((AV.bool false) :: []))))))) :: []))) :: ((1, (AO.rows false (((AV.int IntKind.u64 xq.2.2.1) :: ((AV.int IntKind.u64 xq.2.2.2.1) :: ((AV.int IntKind.u64 xq.2.2.2.2.1) :: ((AV.int IntKind.u64 xq.2.2.2.2.2.1) :: ((AV.int IntKind.u64 xq.2.2.2.2.2.2) :: []))))) :: []))) :: []))) 2 (fun xq => cron_Parse_l0 F y_0 xq.1 xq.2.1 xq.2.2.1 xq.2.2.2.1 xq.2.2.2.2.1 xq.2.2.2.2.2.1 xq.2.2.2.2.2.2 = some o4) (fun xq => xq.1) (F, (0 : Int), (0 : Int), (0 : Int), (0 : Int), (0 : Int), (0 : Int)) [(0, 8), (1, 104)] h4 rfl rfl rfl ?_
        rintro ⟨n_52, t23_53, c_54, c_55, c_56, c_57, c_58⟩ h4
        replace h4 : cron_Parse_l0 F y_0 n_52 t23_53 c_54 c_55 c_56 c_57 c_58 = some o4 := h4
        cases n_52 with
        | zero => rw [cron_Parse_l0.eq_1] at h4; cases h4
        | succ n_52 =>
          rw [cron_Parse_l0.eq_2] at h4
          conv => whnf
          refine Or.inl ?_
          conv => whnf
          refine brn_i (fun hb => ?_) (fun hb => ?_)
          · replace h4 := cond_t h4 (by first | exact hb | (simp; done) | simpa using hb | simpa [chunk] using hb)
            conv => whnf
            refine Or.inl ?_
            conv => whnf
            obtain ⟨hg, h4⟩ := grd_e h4
            refine And.intro hg ?_
            conv => whnf
            obtain ⟨y_66, hy, h4⟩ := bind_e h4
            refine opt_i (cStr y_66) (getE rfl hy) ?_
            conv => whnf
            refine Or.inl ?_
            conv => whnf
            obtain ⟨y_67, hy, h4⟩ := bind_e h4
            refine ⟨_, _, (cron_field_FC F y_66 t23_53 y_67 hy), Or.inl ⟨rfl, rfl, ?_⟩⟩
            conv => whnf
            refine Or.inl ?_
            conv => whnf
            refine brn_i (fun hb => ?_) (fun hb => ?_)
            · replace h4 := cond_t h4 hb
              conv => whnf
              obtain rfl := Option.some.inj h4
              obtain rfl := Option.some.inj k4
              exact rfl
            · replace h4 := cond_f h4 hb
              conv => whnf
              obtain ⟨o8, h8, k8⟩ := bind_e h4
              refine Or.inr (joins_i True ((2, (AV.ptr 0 0 0)) :: ((5, (AV.sl (List.map cStr y_0))) :: ((6, (AV.ptr 1 0 0)) :: ((21, (AV.sl (List.map cStr y_0))) :: ((22, (AV.int IntKind.i64 (@Nat.cast Int instNatCastInt (List.length (List.map cStr y_0))))) :: ((23, (AV.int IntKind.i64 t23_53)) :: [])))))) ((0, (AO.rows false (((AV.int IntKind.u64 (0 : Int)) :: ((AV.int IntKind.u64 (0 : Int)) :: ((AV.int IntKind.u64 (0 : Int)) :: ((AV.int IntKind.u64 (0 : Int)) :: ((AV.int IntKind.u64 (0 : Int)) :: ((AV.bool false) :: ((AV.bool false) :: []))))))) :: []))) :: ((1, (AO.rows false (((AV.int IntKind.u64 o8.1) :: ((AV.int IntKind.u64 o8.2.1) :: ((AV.int IntKind.u64 o8.2.2.1) :: ((AV.int IntKind.u64 o8.2.2.2.1) :: ((AV.int IntKind.u64 o8.2.2.2.2) :: []))))) :: []))) :: [])) 2 ?_ (fun _ => ?_))
              · conv => whnf
                refine Or.inl ?_
                conv => whnf
                obtain ⟨hg, h8⟩ := grd_e h8
                refine And.intro hg ?_
                conv => whnf
                obtain ⟨hg, h8⟩ := grd_e h8
                refine And.intro hg ?_
                conv => whnf
                refine Or.inr ?_
                conv => whnf
                refine brn_i (fun hb => ?_) (fun hb => ?_)
                · replace h8 := cond_t h8 hb
                  conv => whnf
                  obtain rfl := Option.some.inj h8
                  exact end_i trivial [(0, 0), (1, 1)] rfl rfl rfl
                · replace h8 := cond_f h8 hb
                  conv => whnf
                  refine brn_i (fun hb => ?_) (fun hb => ?_)
                  · replace h8 := cond_t h8 hb
                    conv => whnf
                    obtain rfl := Option.some.inj h8
                    exact end_i trivial [(0, 0), (1, 1)] rfl rfl rfl
                  · replace h8 := cond_f h8 hb
                    conv => whnf
                    refine brn_i (fun hb => ?_) (fun hb => ?_)
                    · replace h8 := cond_t h8 hb
                      conv => whnf
                      obtain rfl := Option.some.inj h8
                      exact end_i trivial [(0, 0), (1, 1)] rfl rfl rfl
                    · replace h8 := cond_f h8 hb
                      conv => whnf
                      refine brn_i (fun hb => ?_) (fun hb => ?_)
                      · replace h8 := cond_t h8 hb
                        conv => whnf
                        obtain rfl := Option.some.inj h8
                        exact end_i trivial [(0, 0), (1, 1)] rfl rfl rfl
                      · replace h8 := cond_f h8 hb
                        conv => whnf
                        refine brn_i (fun hb => ?_) (fun hb => ?_)
                        · replace h8 := cond_t h8 hb
                          conv => whnf
                          obtain rfl := Option.some.inj h8
                          exact end_i trivial [(0, 0), (1, 1)] rfl rfl rfl
                        · replace h8 := cond_f h8 hb
                          conv => whnf
                          exact trivial
              · obtain ⟨c_68, c_69, c_70, c_71, c_72⟩ := o8
                conv => whnf
                exact round_i (n_52, (IntKind.wrap IntKind.i64 (t23_53 + (1 : Int))), c_68, c_69, c_70, c_71, c_72) [(0, 0), (1, 1)] k8 (Nat.lt_succ_self _) rfl rfl rfl
          · replace h4 := cond_f h4 (by first | exact hb | (simp; done) | simpa using hb | simpa [chunk] using hb)
            conv => whnf
            obtain rfl := Option.some.inj h4
            exact end_i rfl [(0, 0), (1, 1)] rfl rfl rfl
      · replace k4 := elim_e hR k4
        generalize outR o4 = v at k4 ⊢
        obtain ⟨c_33, c_34, c_35, c_36, c_37⟩ := v
        conv => whnf
        refine And.intro (by decide) ?_
        conv => whnf
        refine And.intro (by decide) ?_
        conv => whnf
        refine Or.inl ?_
        conv => whnf
        refine And.intro (by decide) ?_
        conv => whnf
        refine And.intro (by decide) ?_
        conv => whnf
        refine Or.inl ?_
        conv => whnf
        refine And.intro (by decide) ?_
        conv => whnf
        refine And.intro (by decide) ?_
        conv => whnf
        refine Or.inl ?_
        conv => whnf
        refine And.intro (by decide) ?_
        conv => whnf
        refine And.intro (by decide) ?_
        conv => whnf
        refine Or.inl ?_
        conv => whnf
        refine And.intro (by decide) ?_
        conv => whnf
        refine And.intro (by decide) ?_
        conv => whnf
        refine Or.inl ?_
        conv => whnf
        refine And.intro (by decide) ?_
        conv => whnf
        obtain ⟨y_73, hy, k4⟩ := bind_e k4
        refine opt_i (cStr y_73) (getE rfl hy) ?_
        conv => whnf
        refine And.intro (by decide) ?_
        conv => whnf
        obtain ⟨y_74, hy, k4⟩ := bind_e k4
        refine opt_i (cStr y_74) (getE rfl hy) ?_
        conv => whnf
        refine And.intro (by kernel_rfl) ?_
        conv => whnf
        obtain rfl := Option.some.inj k4
        exact rfl

theorem zone_rule_FC {ml : Int} (F : Nat) (r_ : api_Rule) (r : Bool) (h : zone_rule F r_ = some r) : FC Tryz.prog (GM ml) 74 [] [(AV.agg (api_Rule.c r_))] (.bool r) [] := by
  refine FC_of 2000 Tryz.func74 rfl (by kernel_rfl) mixed (by show 1 ≤ 41; decide) ?_
  unfold zone_rule at h
  conv => whnf
  refine Or.inl ?_
  conv => whnf
  refine brn_i (fun hb => ?_) (fun hb => ?_)
  · replace h := cond_t h hb
    conv => whnf
    refine brn_i (fun hb => ?_) (fun hb => ?_)
    · replace h := cond_t h hb
      conv => whnf
      refine brn_i (fun hb => ?_) (fun hb => ?_)
      · replace h := cond_t h hb
        conv => whnf
        refine brn_i (fun hb => ?_) (fun hb => ?_)
        · replace h := cond_t h hb
          conv => whnf
          refine brn_i (fun hb => ?_) (fun hb => ?_)
          · replace h := cond_t h hb
            conv => whnf
            refine brn_i (fun hb => ?_) (fun hb => ?_)
            · replace h := cond_t h hb
              conv => whnf
              refine brn_i (fun hb => ?_) (fun hb => ?_)
              · replace h := cond_t h hb
                conv => whnf
                obtain rfl := Option.some.inj h
                exact rfl
              · replace h := cond_f h hb
                conv => whnf
                obtain rfl := Option.some.inj h
                exact rfl
            · replace h := cond_f h hb
              conv => whnf
              obtain rfl := Option.some.inj h
              exact rfl
          · replace h := cond_f h hb
            conv => whnf
            obtain rfl := Option.some.inj h
            exact rfl
        · replace h := cond_f h hb
          conv => whnf
          obtain rfl := Option.some.inj h
          exact rfl
      · replace h := cond_f h hb
        conv => whnf
        obtain rfl := Option.some.inj h
        exact rfl
    · replace h := cond_f h hb
      conv => whnf
      obtain rfl := Option.some.inj h
      exact rfl
  · replace h := cond_f h hb
    conv => whnf
    obtain rfl := Option.some.inj h
    exact rfl

theorem zone_Make_FC0 {ml : Int} (F : Nat) (z : api_Zone) (r : Int) (h : zone_Make F z = some (Sum.inl r)) : FC Tryz.prog (GM ml) 61 [] [(AV.agg (api_Zone.c z))] (AV.tup ((AV.con (Value.pointer none)) :: ((AV.int IntKind.i64 r) :: []))) [] := by
  refine FC_ofG 2000 Tryz.func61 rfl (by kernel_rfl) mixed (by show 1 ≤ 68; decide) (by show 0 ≤ W; decide) rfl ?_
  unfold zone_Make at h
  conv => whnf
  obtain ⟨t23_0, h0, k0⟩ := bind_e h
  refine Or.inr (joins_i True ((1, (AV.ptr 0 0 0)) :: ((4, (AV.ptr 1 0 0)) :: ((23, (AV.bool t23_0)) :: []))) ((0, (AO.rows false (((AV.int IntKind.i64 z.Base) :: ((AV.int IntKind.i64 z.Save) :: ((AV.int IntKind.i64 z.On.Month) :: ((AV.int IntKind.i64 z.On.Week) :: ((AV.int IntKind.i64 z.On.Day) :: ((AV.int IntKind.i64 z.On.At) :: ((AV.int IntKind.i64 z.Off.Month) :: ((AV.int IntKind.i64 z.Off.Week) :: ((AV.int IntKind.i64 z.Off.Day) :: ((AV.int IntKind.i64 z.Off.At) :: [])))))))))) :: []))) :: ((1, (AO.rows false (((AV.int IntKind.i64 (0 : Int)) :: ((AV.int IntKind.i64 (0 : Int)) :: ((AV.int IntKind.i64 (0 : Int)) :: ((AV.int IntKind.i64 (0 : Int)) :: [])))) :: []))) :: [])) 2 ?_ (fun _ => ?_))
  · conv => whnf
    refine Or.inl ?_
    conv => whnf
    refine brn_i (fun hb => ?_) (fun hb => ?_)
    · replace h0 := cond_t h0 hb
      conv => whnf
      obtain rfl := Option.some.inj h0
      exact end_i trivial [(0, 8), (1, 40)] rfl rfl rfl
    · replace h0 := cond_f h0 hb
      conv => whnf
      refine brn_i (fun hb => ?_) (fun hb => ?_)
      · replace h0 := cond_t h0 hb
        conv => whnf
        obtain rfl := Option.some.inj h0
        exact end_i trivial [(0, 8), (1, 40)] rfl rfl rfl
      · replace h0 := cond_f h0 hb
        conv => whnf
        refine brn_i (fun hb => ?_) (fun hb => ?_)
        · replace h0 := cond_t h0 hb
          conv => whnf
          obtain rfl := Option.some.inj h0
          exact end_i trivial [(0, 8), (1, 40)] rfl rfl rfl
        · replace h0 := cond_f h0 hb
          conv => whnf
          obtain rfl := Option.some.inj h0
          exact end_i trivial [(0, 8), (1, 40)] rfl rfl rfl
  · conv => whnf
    refine Or.inl ?_
    conv => whnf
    refine brn_i (fun hb => ?_) (fun hb => ?_)
    · replace k0 := cond_t k0 hb
      conv => whnf
      obtain rfl := Sum.inl.inj (Option.some.inj k0)
      exact endG_i [] rfl rfl rfl
    · replace k0 := cond_f k0 hb
      conv => whnf
      obtain ⟨t64_5, h1, k1⟩ := bind_e k0
      refine Or.inr (joins_i True ((1, (AV.ptr 0 0 0)) :: ((64, (AV.bool t64_5)) :: [])) ((0, (AO.rows false (((AV.int IntKind.i64 z.Base) :: ((AV.int IntKind.i64 z.Save) :: ((AV.int IntKind.i64 z.On.Month) :: ((AV.int IntKind.i64 z.On.Week) :: ((AV.int IntKind.i64 z.On.Day) :: ((AV.int IntKind.i64 z.On.At) :: ((AV.int IntKind.i64 z.Off.Month) :: ((AV.int IntKind.i64 z.Off.Week) :: ((AV.int IntKind.i64 z.Off.Day) :: ((AV.int IntKind.i64 z.Off.At) :: [])))))))))) :: []))) :: []) 1 ?_ (fun _ => ?_))
      · conv => whnf
        refine Or.inl ?_
        conv => whnf
        refine brn_i (fun hb => ?_) (fun hb => ?_)
        · replace h1 := cond_t h1 hb
          conv => whnf
          refine And.intro ⟨by kernel_rfl, _, rfl⟩ ?_
          conv => whnf
          refine brn_i (fun hb => ?_) (fun hb => ?_)
          · replace h1 := cond_t h1 hb
            conv => whnf
            obtain rfl := Option.some.inj h1
            exact end_i trivial [(0, 0)] rfl rfl rfl
          · replace h1 := cond_f h1 hb
            conv => whnf
            refine And.intro ⟨by kernel_rfl, _, rfl⟩ ?_
            conv => whnf
            refine brn_i (fun hb => ?_) (fun hb => ?_)
            · replace h1 := cond_t h1 hb
              conv => whnf
              obtain rfl := Option.some.inj h1
              exact end_i trivial [(0, 0)] rfl rfl rfl
            · replace h1 := cond_f h1 hb
              conv => whnf
              refine brn_i (fun hb => ?_) (fun hb => ?_)
              · replace h1 := cond_t h1 hb
                conv => whnf
                refine Or.inl ?_
                conv => whnf
                obtain ⟨y_6, hy, h1⟩ := bind_e h1
                refine ⟨_, _, (zone_rule_FC F z.On y_6 hy), Or.inl ⟨rfl, rfl, ?_⟩⟩
                conv => whnf
                refine brn_i (fun hb => ?_) (fun hb => ?_)
                · replace h1 := cond_t h1 hb
                  conv => whnf
                  obtain rfl := Option.some.inj h1
                  exact end_i trivial [(0, 0)] rfl rfl rfl
                · replace h1 := cond_f h1 hb
                  conv => whnf
                  refine Or.inl ?_
                  conv => whnf
                  obtain ⟨y_7, hy, h1⟩ := bind_e h1
                  refine ⟨_, _, (zone_rule_FC F z.Off y_7 hy), Or.inl ⟨rfl, rfl, ?_⟩⟩
                  conv => whnf
                  refine brn_i (fun hb => ?_) (fun hb => ?_)
                  · replace h1 := cond_t h1 hb
                    conv => whnf
                    obtain rfl := Option.some.inj h1
                    exact end_i trivial [(0, 0)] rfl rfl rfl
                  · replace h1 := cond_f h1 hb
                    conv => whnf
                    obtain rfl := Option.some.inj h1
                    exact end_i trivial [(0, 0)] rfl rfl rfl
              · replace h1 := cond_f h1 hb
                conv => whnf
                obtain rfl := Option.some.inj h1
                exact end_i trivial [(0, 0)] rfl rfl rfl
        · replace h1 := cond_f h1 hb
          conv => whnf
          refine brn_i (fun hb => ?_) (fun hb => ?_)
          · replace h1 := cond_t h1 hb
            conv => whnf
            refine Or.inl ?_
            conv => whnf
            obtain ⟨y_8, hy, h1⟩ := bind_e h1
            refine ⟨_, _, (zone_rule_FC F z.On y_8 hy), Or.inl ⟨rfl, rfl, ?_⟩⟩
            conv => whnf
            refine brn_i (fun hb => ?_) (fun hb => ?_)
            · replace h1 := cond_t h1 hb
              conv => whnf
              obtain rfl := Option.some.inj h1
              exact end_i trivial [(0, 0)] rfl rfl rfl
            · replace h1 := cond_f h1 hb
              conv => whnf
              refine Or.inl ?_
              conv => whnf
              obtain ⟨y_9, hy, h1⟩ := bind_e h1
              refine ⟨_, _, (zone_rule_FC F z.Off y_9 hy), Or.inl ⟨rfl, rfl, ?_⟩⟩
              conv => whnf
              refine brn_i (fun hb => ?_) (fun hb => ?_)
              · replace h1 := cond_t h1 hb
                conv => whnf
                obtain rfl := Option.some.inj h1
                exact end_i trivial [(0, 0)] rfl rfl rfl
              · replace h1 := cond_f h1 hb
                conv => whnf
                obtain rfl := Option.some.inj h1
                exact end_i trivial [(0, 0)] rfl rfl rfl
          · replace h1 := cond_f h1 hb
            conv => whnf
            obtain rfl := Option.some.inj h1
            exact end_i trivial [(0, 0)] rfl rfl rfl
      · conv => whnf
        refine Or.inl ?_
        conv => whnf
        refine brn_i (fun hb => ?_) (fun hb => ?_)
        · replace k1 := cond_t k1 hb
          conv => whnf
          obtain rfl := Sum.inl.inj (Option.some.inj k1)
          exact endG_i [] rfl rfl rfl
        · replace k1 := cond_f k1 hb
          conv => whnf
          cases (Option.some.inj k1)
theorem zone_Make_FC1 {ml : Int} (F : Nat) (z : api_Zone) (r : (Int × zone_Zone)) (h : zone_Make F z = some (Sum.inr r)) : FC Tryz.prog (GM ml) 61 [] [(AV.agg (api_Zone.c z))] (AV.tup ((AV.ptr 0 0 0) :: ((AV.int IntKind.i64 r.1) :: []))) ((0, (AO.rows false ((zone_Zone.c r.2) :: []))) :: []) := by
  refine FC_ofG 2000 Tryz.func61 rfl (by kernel_rfl) mixed (by show 1 ≤ 68; decide) (by show 0 ≤ W; decide) rfl ?_
  unfold zone_Make at h
  conv => whnf
  obtain ⟨t23_0, h0, k0⟩ := bind_e h
  refine Or.inr (joins_i True ((1, (AV.ptr 0 0 0)) :: ((4, (AV.ptr 1 0 0)) :: ((23, (AV.bool t23_0)) :: []))) ((0, (AO.rows false (((AV.int IntKind.i64 z.Base) :: ((AV.int IntKind.i64 z.Save) :: ((AV.int IntKind.i64 z.On.Month) :: ((AV.int IntKind.i64 z.On.Week) :: ((AV.int IntKind.i64 z.On.Day) :: ((AV.int IntKind.i64 z.On.At) :: ((AV.int IntKind.i64 z.Off.Month) :: ((AV.int IntKind.i64 z.Off.Week) :: ((AV.int IntKind.i64 z.Off.Day) :: ((AV.int IntKind.i64 z.Off.At) :: [])))))))))) :: []))) :: ((1, (AO.rows false (((AV.int IntKind.i64 (0 : Int)) :: ((AV.int IntKind.i64 (0 : Int)) :: ((AV.int IntKind.i64 (0 : Int)) :: ((AV.int IntKind.i64 (0 : Int)) :: [])))) :: []))) :: [])) 2 ?_ (fun _ => ?_))
  · conv => whnf
    refine Or.inl ?_
    conv => whnf
    refine brn_i (fun hb => ?_) (fun hb => ?_)
    · replace h0 := cond_t h0 hb
      conv => whnf
      obtain rfl := Option.some.inj h0
      exact end_i trivial [(0, 8), (1, 40)] rfl rfl rfl
    · replace h0 := cond_f h0 hb
      conv => whnf
      refine brn_i (fun hb => ?_) (fun hb => ?_)
      · replace h0 := cond_t h0 hb
        conv => whnf
        obtain rfl := Option.some.inj h0
        exact end_i trivial [(0, 8), (1, 40)] rfl rfl rfl
      · replace h0 := cond_f h0 hb
        conv => whnf
        refine brn_i (fun hb => ?_) (fun hb => ?_)
        · replace h0 := cond_t h0 hb
          conv => whnf
          obtain rfl := Option.some.inj h0
          exact end_i trivial [(0, 8), (1, 40)] rfl rfl rfl
        · replace h0 := cond_f h0 hb
          conv => whnf
          obtain rfl := Option.some.inj h0
          exact end_i trivial [(0, 8), (1, 40)] rfl rfl rfl
  · conv => whnf
    refine Or.inl ?_
    conv => whnf
    refine brn_i (fun hb => ?_) (fun hb => ?_)
    · replace k0 := cond_t k0 hb
      conv => whnf
      cases (Option.some.inj k0)
    · replace k0 := cond_f k0 hb
      conv => whnf
      obtain ⟨t64_5, h1, k1⟩ := bind_e k0
      refine Or.inr (joins_i True ((1, (AV.ptr 0 0 0)) :: ((64, (AV.bool t64_5)) :: [])) ((0, (AO.rows false (((AV.int IntKind.i64 z.Base) :: ((AV.int IntKind.i64 z.Save) :: ((AV.int IntKind.i64 z.On.Month) :: ((AV.int IntKind.i64 z.On.Week) :: ((AV.int IntKind.i64 z.On.Day) :: ((AV.int IntKind.i64 z.On.At) :: ((AV.int IntKind.i64 z.Off.Month) :: ((AV.int IntKind.i64 z.Off.Week) :: ((AV.int IntKind.i64 z.Off.Day) :: ((AV.int IntKind.i64 z.Off.At) :: [])))))))))) :: []))) :: []) 1 ?_ (fun _ => ?_))
      · conv => whnf
        refine Or.inl ?_
        conv => whnf
        refine brn_i (fun hb => ?_) (fun hb => ?_)
        · replace h1 := cond_t h1 hb
          conv => whnf
          refine And.intro ⟨by kernel_rfl, _, rfl⟩ ?_
          conv => whnf
          refine brn_i (fun hb => ?_) (fun hb => ?_)
          · replace h1 := cond_t h1 hb
            conv => whnf
            obtain rfl := Option.some.inj h1
            exact end_i trivial [(0, 0)] rfl rfl rfl
          · replace h1 := cond_f h1 hb
            conv => whnf
            refine And.intro ⟨by kernel_rfl, _, rfl⟩ ?_
            conv => whnf
            refine brn_i (fun hb => ?_) (fun hb => ?_)
            · replace h1 := cond_t h1 hb
              conv => whnf
              obtain rfl := Option.some.inj h1
              exact end_i trivial [(0, 0)] rfl rfl rfl
            · replace h1 := cond_f h1 hb
              conv => whnf
              refine brn_i (fun hb => ?_) (fun hb => ?_)
              · replace h1 := cond_t h1 hb
                conv => whnf
                refine Or.inl ?_
                conv => whnf
                obtain ⟨y_6, hy, h1⟩ := bind_e h1
                refine ⟨_, _, (zone_rule_FC F z.On y_6 hy), Or.inl ⟨rfl, rfl, ?_⟩⟩
                conv => whnf
                refine brn_i (fun hb => ?_) (fun hb => ?_)
                · replace h1 := cond_t h1 hb
                  conv => whnf
                  obtain rfl := Option.some.inj h1
                  exact end_i trivial [(0, 0)] rfl rfl rfl
                · replace h1 := cond_f h1 hb
                  conv => whnf
                  refine Or.inl ?_
                  conv => whnf
                  obtain ⟨y_7, hy, h1⟩ := bind_e h1
                  refine ⟨_, _, (zone_rule_FC F z.Off y_7 hy), Or.inl ⟨rfl, rfl, ?_⟩⟩
                  conv => whnf
                  refine brn_i (fun hb => ?_) (fun hb => ?_)
                  · replace h1 := cond_t h1 hb
                    conv => whnf
                    obtain rfl := Option.some.inj h1
                    exact end_i trivial [(0, 0)] rfl rfl rfl
                  · replace h1 := cond_f h1 hb
                    conv => whnf
                    obtain rfl := Option.some.inj h1
                    exact end_i trivial [(0, 0)] rfl rfl rfl
              · replace h1 := cond_f h1 hb
                conv => whnf
                obtain rfl := Option.some.inj h1
                exact end_i trivial [(0, 0)] rfl rfl rfl
        · replace h1 := cond_f h1 hb
          conv => whnf
          refine brn_i (fun hb => ?_) (fun hb => ?_)
          · replace h1 := cond_t h1 hb
            conv => whnf
            refine Or.inl ?_
            conv => whnf
            obtain ⟨y_8, hy, h1⟩ := bind_e h1
            refine ⟨_, _, (zone_rule_FC F z.On y_8 hy), Or.inl ⟨rfl, rfl, ?_⟩⟩
            conv => whnf
            refine brn_i (fun hb => ?_) (fun hb => ?_)
            · replace h1 := cond_t h1 hb
              conv => whnf
              obtain rfl := Option.some.inj h1
              exact end_i trivial [(0, 0)] rfl rfl rfl
            · replace h1 := cond_f h1 hb
              conv => whnf
              refine Or.inl ?_
              conv => whnf
              obtain ⟨y_9, hy, h1⟩ := bind_e h1
              refine ⟨_, _, (zone_rule_FC F z.Off y_9 hy), Or.inl ⟨rfl, rfl, ?_⟩⟩
              conv => whnf
              refine brn_i (fun hb => ?_) (fun hb => ?_)
              · replace h1 := cond_t h1 hb
                conv => whnf
                obtain rfl := Option.some.inj h1
                exact end_i trivial [(0, 0)] rfl rfl rfl
              · replace h1 := cond_f h1 hb
                conv => whnf
                obtain rfl := Option.some.inj h1
                exact end_i trivial [(0, 0)] rfl rfl rfl
          · replace h1 := cond_f h1 hb
            conv => whnf
            obtain rfl := Option.some.inj h1
            exact end_i trivial [(0, 0)] rfl rfl rfl
      · conv => whnf
        refine Or.inl ?_
        conv => whnf
        refine brn_i (fun hb => ?_) (fun hb => ?_)
        · replace k1 := cond_t k1 hb
          conv => whnf
          cases (Option.some.inj k1)
        · replace k1 := cond_f k1 hb
          conv => whnf
          obtain rfl := Sum.inr.inj (Option.some.inj k1)
          exact endG_w [(0, 17)] (Wk.eq rfl) (WkOs.cons (WkO.r (WkR.cons (WkL.cons (Wk.eq (by first | rfl | (simp; done) | (rw [List.map_append]; rfl))) (WkL.cons (Wk.eq (by first | rfl | (simp; done) | (rw [List.map_append]; rfl))) (WkL.cons (Wk.eq (by first | rfl | (simp; done) | (rw [List.map_append]; rfl))) (WkL.cons (Wk.eq (by first | rfl | (simp; done) | (rw [List.map_append]; rfl))) (WkL.cons (Wk.eq (by first | rfl | (simp; done) | (rw [List.map_append]; rfl))) (WkL.cons (Wk.eq (by first | rfl | (simp; done) | (rw [List.map_append]; rfl))) (WkL.cons (Wk.eq (by first | rfl | (simp; done) | (rw [List.map_append]; rfl))) (WkL.cons (Wk.eq (by first | rfl | (simp; done) | (rw [List.map_append]; rfl))) (WkL.cons (Wk.eq (by first | rfl | (simp; done) | (rw [List.map_append]; rfl))) (WkL.cons (Wk.eq (by first | rfl | (simp; done) | (rw [List.map_append]; rfl))) (WkL.cons (Wk.eq (by first | rfl | (simp; done) | (rw [List.map_append]; rfl))) (WkL.cons (Wk.eq (by first | rfl | (simp; done) | (rw [List.map_append]; rfl))) (WkL.cons (Wk.eq (by first | rfl | (simp; done) | (rw [List.map_append]; rfl))) (WkL.cons Wk.esl WkL.nil)))))))))))))) WkR.nil)) WkOs.nil) rfl

theorem zone_Named_FC0 {ml : Int} (F : Nat) (name : (List UInt8)) (r : Int) (h : zone_Named F name = some (Sum.inl r)) : FC Tryz.prog (GM ml) 45 [] [(AV.str name)] (AV.tup ((AV.con (Value.pointer none)) :: ((AV.int IntKind.i64 r) :: []))) [] := by
  refine FC_ofG 2000 Tryz.func45 rfl (by kernel_rfl) mixed (by show 1 ≤ 39; decide) (by show 0 ≤ W; decide) rfl ?_
  unfold zone_Named at h
  conv => whnf
  obtain ⟨o0, h0, k0⟩ := bind_e h
  refine Or.inr (joins_i (o0 = Sum.inr (outR o0)) ((4, (AV.ptr 0 0 0)) :: []) ((0, (AO.rows false (((AV.int IntKind.i64 (outR o0).1) :: ((AV.int IntKind.i64 (outR o0).2.1) :: ((AV.int IntKind.i64 (outR o0).2.2.1) :: ((AV.int IntKind.i64 (outR o0).2.2.2.1) :: ((AV.int IntKind.i64 (0 : Int)) :: ((AV.int IntKind.i64 (outR o0).2.2.2.2.1) :: ((AV.int IntKind.i64 (outR o0).2.2.2.2.2.1) :: ((AV.int IntKind.i64 (outR o0).2.2.2.2.2.2.1) :: ((AV.int IntKind.i64 (0 : Int)) :: ((AV.int IntKind.i64 (outR o0).2.2.2.2.2.2.2) :: [])))))))))) :: []))) :: []) 1 ?_ (fun hR => ?_))
  · conv => whnf
    refine Or.inl ?_
    conv => whnf
    refine Or.inl ?_
    conv => whnf
    refine brn_i (fun hb => ?_) (fun hb => ?_)
    · replace h0 := cond_t h0 hb
      conv => whnf
      obtain rfl := Option.some.inj h0
      exact end_i rfl [(0, 32)] rfl rfl rfl
    · replace h0 := cond_f h0 hb
      conv => whnf
      refine Or.inl ?_
      conv => whnf
      refine brn_i (fun hb => ?_) (fun hb => ?_)
      · replace h0 := cond_t h0 hb
        conv => whnf
        obtain rfl := Option.some.inj h0
        exact end_i rfl [(0, 32)] rfl rfl rfl
      · replace h0 := cond_f h0 hb
        conv => whnf
        refine Or.inl ?_
        conv => whnf
        refine brn_i (fun hb => ?_) (fun hb => ?_)
        · replace h0 := cond_t h0 hb
          conv => whnf
          obtain rfl := Option.some.inj h0
          exact end_i rfl [(0, 32)] rfl rfl rfl
        · replace h0 := cond_f h0 hb
          conv => whnf
          refine Or.inl ?_
          conv => whnf
          refine brn_i (fun hb => ?_) (fun hb => ?_)
          · replace h0 := cond_t h0 hb
            conv => whnf
            obtain rfl := Option.some.inj h0
            exact end_i rfl [(0, 32)] rfl rfl rfl
          · replace h0 := cond_f h0 hb
            conv => whnf
            refine Or.inl ?_
            conv => whnf
            refine brn_i (fun hb => ?_) (fun hb => ?_)
            · replace h0 := cond_t h0 hb
              conv => whnf
              obtain rfl := Option.some.inj h0
              exact end_i rfl [(0, 32)] rfl rfl rfl
            · replace h0 := cond_f h0 hb
              conv => whnf
              refine Or.inl ?_
              conv => whnf
              refine brn_i (fun hb => ?_) (fun hb => ?_)
              · replace h0 := cond_t h0 hb
                conv => whnf
                obtain rfl := Option.some.inj h0
                exact end_i rfl [(0, 32)] rfl rfl rfl
              · replace h0 := cond_f h0 hb
                conv => whnf
                refine Or.inl ?_
                conv => whnf
                refine brn_i (fun hb => ?_) (fun hb => ?_)
                · replace h0 := cond_t h0 hb
                  conv => whnf
                  obtain rfl := Option.some.inj h0
                  exact end_i rfl [(0, 32)] rfl rfl rfl
                · replace h0 := cond_f h0 hb
                  conv => whnf
                  obtain rfl := Option.some.inj h0
                  obtain rfl := Sum.inl.inj (Option.some.inj k0)
                  exact endG_i [] rfl rfl rfl
  · replace k0 := elim_e hR k0
    generalize outR o0 = v at k0 ⊢
    obtain ⟨c_0, c_1, c_2, c_3, c_4, c_5, c_6, c_7⟩ := v
    conv => whnf
    refine Or.inl ?_
    conv => whnf
    obtain ⟨y_8, hy, k0⟩ := bind_e k0
    rcases y_8 with y_8 | y_8
    · replace k0 := elim_l k0
      refine ⟨_, _, (FC_close (zone_Make_FC0 F (api_Zone.mk c_0 c_1 (api_Rule.mk c_2 c_3 (0 : Int) c_4) (api_Rule.mk c_5 c_6 (0 : Int) c_7)) y_8 hy) rfl), Or.inr ⟨[], rfl, ?_⟩⟩
      conv => whnf
      obtain rfl := Sum.inl.inj (Option.some.inj k0)
      exact endG_i [] rfl rfl rfl
    · replace k0 := elim_r k0
      refine ⟨_, _, (FC_close (zone_Make_FC1 F (api_Zone.mk c_0 c_1 (api_Rule.mk c_2 c_3 (0 : Int) c_4) (api_Rule.mk c_5 c_6 (0 : Int) c_7)) y_8 hy) rfl), Or.inr ⟨[], rfl, ?_⟩⟩
      conv => whnf
      cases (Option.some.inj k0)
theorem zone_Named_FC1 {ml : Int} (F : Nat) (name : (List UInt8)) (r : (zone_Zone × Int)) (h : zone_Named F name = some (Sum.inr r)) : FC Tryz.prog (GM ml) 45 [] [(AV.str name)] (AV.tup ((AV.rp (zone_Zone.c r.1) 0) :: ((AV.int IntKind.i64 r.2) :: []))) [] := by
  refine FC_ofG 2000 Tryz.func45 rfl (by kernel_rfl) mixed (by show 1 ≤ 39; decide) (by show 0 ≤ W; decide) rfl ?_
  unfold zone_Named at h
  conv => whnf
  obtain ⟨o0, h0, k0⟩ := bind_e h
  refine Or.inr (joins_i (o0 = Sum.inr (outR o0)) ((4, (AV.ptr 0 0 0)) :: []) ((0, (AO.rows false (((AV.int IntKind.i64 (outR o0).1) :: ((AV.int IntKind.i64 (outR o0).2.1) :: ((AV.int IntKind.i64 (outR o0).2.2.1) :: ((AV.int IntKind.i64 (outR o0).2.2.2.1) :: ((AV.int IntKind.i64 (0 : Int)) :: ((AV.int IntKind.i64 (outR o0).2.2.2.2.1) :: ((AV.int IntKind.i64 (outR o0).2.2.2.2.2.1) :: ((AV.int IntKind.i64 (outR o0).2.2.2.2.2.2.1) :: ((AV.int IntKind.i64 (0 : Int)) :: ((AV.int IntKind.i64 (outR o0).2.2.2.2.2.2.2) :: [])))))))))) :: []))) :: []) 1 ?_ (fun hR => ?_))
  · conv => whnf
    refine Or.inl ?_
    conv => whnf
    refine Or.inl ?_
    conv => whnf
    refine brn_i (fun hb => ?_) (fun hb => ?_)
    · replace h0 := cond_t h0 hb
      conv => whnf
      obtain rfl := Option.some.inj h0
      exact end_i rfl [(0, 32)] rfl rfl rfl
    · replace h0 := cond_f h0 hb
      conv => whnf
      refine Or.inl ?_
      conv => whnf
      refine brn_i (fun hb => ?_) (fun hb => ?_)
      · replace h0 := cond_t h0 hb
        conv => whnf
        obtain rfl := Option.some.inj h0
        exact end_i rfl [(0, 32)] rfl rfl rfl
      · replace h0 := cond_f h0 hb
        conv => whnf
        refine Or.inl ?_
        conv => whnf
        refine brn_i (fun hb => ?_) (fun hb => ?_)
        · replace h0 := cond_t h0 hb
          conv => whnf
          obtain rfl := Option.some.inj h0
          exact end_i rfl [(0, 32)] rfl rfl rfl
        · replace h0 := cond_f h0 hb
          conv => whnf
          refine Or.inl ?_
          conv => whnf
          refine brn_i (fun hb => ?_) (fun hb => ?_)
          · replace h0 := cond_t h0 hb
            conv => whnf
            obtain rfl := Option.some.inj h0
            exact end_i rfl [(0, 32)] rfl rfl rfl
          · replace h0 := cond_f h0 hb
            conv => whnf
            refine Or.inl ?_
            conv => whnf
            refine brn_i (fun hb => ?_) (fun hb => ?_)
            · replace h0 := cond_t h0 hb
              conv => whnf
              obtain rfl := Option.some.inj h0
              exact end_i rfl [(0, 32)] rfl rfl rfl
            · replace h0 := cond_f h0 hb
              conv => whnf
              refine Or.inl ?_
              conv => whnf
              refine brn_i (fun hb => ?_) (fun hb => ?_)
              · replace h0 := cond_t h0 hb
                conv => whnf
                obtain rfl := Option.some.inj h0
                exact end_i rfl [(0, 32)] rfl rfl rfl
              · replace h0 := cond_f h0 hb
                conv => whnf
                refine Or.inl ?_
                conv => whnf
                refine brn_i (fun hb => ?_) (fun hb => ?_)
                · replace h0 := cond_t h0 hb
                  conv => whnf
                  obtain rfl := Option.some.inj h0
                  exact end_i rfl [(0, 32)] rfl rfl rfl
                · replace h0 := cond_f h0 hb
                  conv => whnf
                  obtain rfl := Option.some.inj h0
                  cases (Option.some.inj k0)
  · replace k0 := elim_e hR k0
    generalize outR o0 = v at k0 ⊢
    obtain ⟨c_0, c_1, c_2, c_3, c_4, c_5, c_6, c_7⟩ := v
    conv => whnf
    refine Or.inl ?_
    conv => whnf
    obtain ⟨y_8, hy, k0⟩ := bind_e k0
    rcases y_8 with y_8 | y_8
    · replace k0 := elim_l k0
      refine ⟨_, _, (FC_close (zone_Make_FC0 F (api_Zone.mk c_0 c_1 (api_Rule.mk c_2 c_3 (0 : Int) c_4) (api_Rule.mk c_5 c_6 (0 : Int) c_7)) y_8 hy) rfl), Or.inr ⟨[], rfl, ?_⟩⟩
      conv => whnf
      cases (Option.some.inj k0)
    · replace k0 := elim_r k0
      refine ⟨_, _, (FC_close (zone_Make_FC1 F (api_Zone.mk c_0 c_1 (api_Rule.mk c_2 c_3 (0 : Int) c_4) (api_Rule.mk c_5 c_6 (0 : Int) c_7)) y_8 hy) rfl), Or.inr ⟨[], rfl, ?_⟩⟩
      conv => whnf
      obtain rfl := Sum.inr.inj (Option.some.inj k0)
      exact endG_i [] rfl rfl rfl

theorem __zone_Zone__Rules_FC {ml : Int} (F : Nat) (r : api_Zone) (h : __zone_Zone__Rules F = some r) : FC Tryz.prog (GM ml) 46 [] [(AV.con (Value.pointer none))] (.agg (api_Zone.c r)) [] := by
  refine FC_of 2000 Tryz.func46 rfl (by kernel_rfl) mixed (by show 1 ≤ 10; decide) ?_
  unfold __zone_Zone__Rules at h
  conv => whnf
  refine Or.inl ?_
  conv => whnf
  obtain rfl := Option.some.inj h
  exact rfl

theorem __zone_Zone__Rules_i1_FC {ml : Int} (F : Nat) (z : zone_Zone) (r : api_Zone) (h : __zone_Zone__Rules_i1 F z = some r) : FC Tryz.prog (GM ml) 46 [] [(AV.rp (zone_Zone.c z) 0)] (.agg (api_Zone.c r)) [] := by
  refine FC_of 2000 Tryz.func46 rfl (by kernel_rfl) mixed (by show 1 ≤ 10; decide) ?_
  unfold __zone_Zone__Rules_i1 at h
  conv => whnf
  refine Or.inl ?_
  conv => whnf
  obtain rfl := Option.some.inj h
  exact rfl

theorem jobs_read_FC {ml : Int} (F : Nat) (expr : (List UInt8)) (name : (List UInt8)) (r : (api_Cron × api_Zone × Int)) (h : jobs_read F expr name = some r) : FC Tryz.prog (GM ml) 33 [] [(AV.str expr), (AV.str name)] (.tup [(.agg (api_Cron.c r.1)), (.agg (api_Zone.c r.2.1)), (.int IntKind.i64 r.2.2)]) [] := by
  refine FC_of 2000 Tryz.func33 rfl (by kernel_rfl) mixed (by show 2 ≤ 31; decide) ?_
  unfold jobs_read at h
  conv => whnf
  refine Or.inl ?_
  conv => whnf
  obtain ⟨y_0, hy, h⟩ := bind_e h
  refine ⟨_, _, (cron_Parse_FC F expr y_0 hy), Or.inl ⟨rfl, rfl, ?_⟩⟩
  conv => whnf
  refine Or.inl ?_
  conv => whnf
  refine brn_i (fun hb => ?_) (fun hb => ?_)
  · replace h := cond_t h hb
    conv => whnf
    obtain rfl := Option.some.inj h
    exact rfl
  · replace h := cond_f h hb
    conv => whnf
    refine Or.inl ?_
    conv => whnf
    obtain ⟨y_1, hy, h⟩ := bind_e h
    rcases y_1 with y_1 | y_1
    · replace h := elim_l h
      refine ⟨_, _, (FC_close (zone_Named_FC0 F name y_1 hy) rfl), Or.inr ⟨[], rfl, ?_⟩⟩
      conv => whnf
      refine Or.inl ?_
      conv => whnf
      obtain ⟨y_2, hy, h⟩ := bind_e h
      refine ⟨_, _, (__zone_Zone__Rules_FC F y_2 hy), Or.inl ⟨rfl, rfl, ?_⟩⟩
      conv => whnf
      refine And.intro (by kernel_rfl) ?_
      conv => whnf
      obtain rfl := Option.some.inj h
      exact rfl
    · replace h := elim_r h
      refine ⟨_, _, (FC_close (zone_Named_FC1 F name y_1 hy) rfl), Or.inr ⟨[], rfl, ?_⟩⟩
      conv => whnf
      refine Or.inl ?_
      conv => whnf
      obtain ⟨y_3, hy, h⟩ := bind_e h
      refine ⟨_, _, (__zone_Zone__Rules_i1_FC F y_1.1 y_3 hy), Or.inl ⟨rfl, rfl, ?_⟩⟩
      conv => whnf
      refine And.intro (by kernel_rfl) ?_
      conv => whnf
      obtain rfl := Option.some.inj h
      exact rfl

theorem jobs_Named_FC {ml : Int} (F : Nat) (s : (List UInt8)) (r : Bool) (h : jobs_Named F s = some r) : FC Tryz.prog (GM ml) 34 [] [(AV.str s)] (.bool r) [] := by
  refine FC_of 2000 Tryz.func34 rfl (by kernel_rfl) mixed (by show 1 ≤ 43; decide) ?_
  unfold jobs_Named at h
  conv => whnf
  obtain ⟨hg, h⟩ := grd_e h
  refine And.intro hg ?_
  conv => whnf
  obtain ⟨o4, h4, k4⟩ := bind_e h
  refine Or.inr (joins_i (o4 = Sum.inr (outR o4)) ((0, (AV.str s)) :: []) [] 0 ?_ (fun hR => ?_))
  · conv => whnf
    refine Or.inl ?_
    conv => whnf
    refine loops_i (α := (Nat × Int)) (fun xq => ((0, (AV.str s)) :: ((6, (AV.osw 0 1)) :: ((7, (AV.int IntKind.i64 (@Nat.cast Int instNatCastInt (List.length (@enc8 s))))) :: ((8, (AV.int IntKind.i64 xq.2)) :: []))))) (fun xq => ((0, (AO.rows true (List.map (cInt IntKind.u8) (List.map (fun (b_13 : UInt8) => (((UInt8.toNat b_13) : Nat) : Int)) s)))) :: [])) 1 (fun xq => jobs_Named_l0 F s xq.1 xq.2 = some o4) (fun xq => xq.1) (F, (0 : Int)) [(0, 24)] h4 rfl (cons2 (congrArg (fun X => some (AO.rows true X)) (by first | (simp; done) | rfl | (rw [List.map_append]; rfl))) rfl) rfl ?_
    rintro ⟨n_18, t8_19⟩ h4
    replace h4 : jobs_Named_l0 F s n_18 t8_19 = some o4 := h4
    cases n_18 with
    | zero => rw [jobs_Named_l0.eq_1] at h4; cases h4
    | succ n_18 =>
      rw [jobs_Named_l0.eq_2] at h4
      conv => whnf
      refine Or.inl ?_
      conv => whnf
      refine brn_i (fun hb => ?_) (fun hb => ?_)
      · replace h4 := cond_t h4 (by first | exact hb | (simp; done) | simpa using hb | simpa [chunk] using hb)
        conv => whnf
        refine Or.inl ?_
        conv => whnf
        obtain ⟨hg, h4⟩ := grd_e h4
        refine And.intro hg ?_
        conv => whnf
        obtain ⟨y_23, hy, h4⟩ := bind_e h4
        refine opt_i ((cInt IntKind.u8) y_23) (getE rfl hy) ?_
        conv => whnf
        obtain ⟨y_24, hy, h4⟩ := bind_e h4
        refine opt_i ((cInt IntKind.u8) y_24) (getE rfl hy) ?_
        conv => whnf
        obtain ⟨t33_25, h8, k8⟩ := bind_e h4
        refine Or.inr (joins_i True ((0, (AV.str s)) :: ((6, (AV.osw 0 1)) :: ((7, (AV.int IntKind.i64 (@Nat.cast Int instNatCastInt (List.length (@enc8 s))))) :: ((8, (AV.int IntKind.i64 t8_19)) :: ((33, (AV.bool t33_25)) :: []))))) ((0, (AO.rows true (List.map (cInt IntKind.u8) (List.map (fun (b_13 : UInt8) => (((UInt8.toNat b_13) : Nat) : Int)) s)))) :: []) 1 ?_ (fun _ => ?_))
        · conv => whnf
          refine Or.inl ?_
          conv => whnf
          refine brn_i (fun hb => ?_) (fun hb => ?_)
          · replace h8 := cond_t h8 hb
            conv => whnf
            refine brn_i (fun hb => ?_) (fun hb => ?_)
            · replace h8 := cond_t h8 hb
              conv => whnf
              refine brn_i (fun hb => ?_) (fun hb => ?_)
              · replace h8 := cond_t h8 hb
                conv => whnf
                obtain rfl := Option.some.inj h8
                exact end_i trivial [(0, 0)] rfl rfl rfl
              · replace h8 := cond_f h8 hb
                conv => whnf
                obtain rfl := Option.some.inj h8
                exact end_i trivial [(0, 0)] rfl rfl rfl
            · replace h8 := cond_f h8 hb
              conv => whnf
              refine brn_i (fun hb => ?_) (fun hb => ?_)
              · replace h8 := cond_t h8 hb
                conv => whnf
                refine brn_i (fun hb => ?_) (fun hb => ?_)
                · replace h8 := cond_t h8 hb
                  conv => whnf
                  obtain rfl := Option.some.inj h8
                  exact end_i trivial [(0, 0)] rfl rfl rfl
                · replace h8 := cond_f h8 hb
                  conv => whnf
                  obtain rfl := Option.some.inj h8
                  exact end_i trivial [(0, 0)] rfl rfl rfl
              · replace h8 := cond_f h8 hb
                conv => whnf
                obtain rfl := Option.some.inj h8
                exact end_i trivial [(0, 0)] rfl rfl rfl
          · replace h8 := cond_f h8 hb
            conv => whnf
            refine brn_i (fun hb => ?_) (fun hb => ?_)
            · replace h8 := cond_t h8 hb
              conv => whnf
              refine brn_i (fun hb => ?_) (fun hb => ?_)
              · replace h8 := cond_t h8 hb
                conv => whnf
                refine brn_i (fun hb => ?_) (fun hb => ?_)
                · replace h8 := cond_t h8 hb
                  conv => whnf
                  obtain rfl := Option.some.inj h8
                  exact end_i trivial [(0, 0)] rfl rfl rfl
                · replace h8 := cond_f h8 hb
                  conv => whnf
                  obtain rfl := Option.some.inj h8
                  exact end_i trivial [(0, 0)] rfl rfl rfl
              · replace h8 := cond_f h8 hb
                conv => whnf
                refine brn_i (fun hb => ?_) (fun hb => ?_)
                · replace h8 := cond_t h8 hb
                  conv => whnf
                  refine brn_i (fun hb => ?_) (fun hb => ?_)
                  · replace h8 := cond_t h8 hb
                    conv => whnf
                    obtain rfl := Option.some.inj h8
                    exact end_i trivial [(0, 0)] rfl rfl rfl
                  · replace h8 := cond_f h8 hb
                    conv => whnf
                    obtain rfl := Option.some.inj h8
                    exact end_i trivial [(0, 0)] rfl rfl rfl
                · replace h8 := cond_f h8 hb
                  conv => whnf
                  obtain rfl := Option.some.inj h8
                  exact end_i trivial [(0, 0)] rfl rfl rfl
            · replace h8 := cond_f h8 hb
              conv => whnf
              obtain rfl := Option.some.inj h8
              exact end_i trivial [(0, 0)] rfl rfl rfl
        · conv => whnf
          refine Or.inl ?_
          conv => whnf
          refine brn_i (fun hb => ?_) (fun hb => ?_)
          · replace k8 := cond_t k8 hb
            conv => whnf
            obtain rfl := Option.some.inj k8
            obtain rfl := Option.some.inj k4
            exact rfl
          · replace k8 := cond_f k8 hb
            conv => whnf
            exact round_i (n_18, (IntKind.wrap IntKind.i64 (t8_19 + (1 : Int)))) [(0, 0)] k8 (Nat.lt_succ_self _) rfl rfl rfl
      · replace h4 := cond_f h4 (by first | exact hb | (simp; done) | simpa using hb | simpa [chunk] using hb)
        conv => whnf
        obtain rfl := Option.some.inj h4
        exact end_i rfl [] rfl rfl rfl
  · replace k4 := elim_e hR k4
    generalize outR o4 = v at k4 ⊢
    conv => whnf
    refine Or.inl ?_
    conv => whnf
    refine brn_i (fun hb => ?_) (fun hb => ?_)
    · replace k4 := cond_t k4 hb
      conv => whnf
      obtain rfl := Option.some.inj k4
      exact rfl
    · replace k4 := cond_f k4 hb
      conv => whnf
      obtain rfl := Option.some.inj k4
      exact rfl

theorem jobs_marked_FC {ml : Int} (F : Nat) (t : Int) (r : Bool) (h : jobs_marked F t = some r) : FC Tryz.prog (GM ml) 35 [] [(AV.int IntKind.i64 t)] (.bool r) [] := by
  refine FC_of 2000 Tryz.func35 rfl (by kernel_rfl) mixed (by show 1 ≤ 9; decide) ?_
  unfold jobs_marked at h
  conv => whnf
  refine Or.inl ?_
  conv => whnf
  refine brn_i (fun hb => ?_) (fun hb => ?_)
  · replace h := cond_t h hb
    conv => whnf
    obtain rfl := Option.some.inj h
    exact rfl
  · replace h := cond_f h hb
    conv => whnf
    obtain rfl := Option.some.inj h
    exact rfl

theorem cron_fields_FC {ml : Int} (F : Nat) (c : api_Cron) (r : A_5_uint64) (h : cron_fields F c = some r) : FC Tryz.prog (GM ml) 48 [] [(AV.agg (api_Cron.c c))] (.agg (A_5_uint64.c r)) [] := by
  refine FC_of 2000 Tryz.func48 rfl (by kernel_rfl) mixed (by show 1 ≤ 14; decide) ?_
  unfold cron_fields at h
  conv => whnf
  obtain rfl := Option.some.inj h
  exact rfl

theorem cron_full_FC {ml : Int} (F : Nat) (field : Int) (r : Int) (h : cron_full F field = some r) : FC Tryz.prog (GM ml) 49 [] [(AV.int IntKind.i64 field)] (.int IntKind.u64 r) [] := by
  refine FC_of 2000 Tryz.func49 rfl (by kernel_rfl) mixed (by show 1 ≤ 15; decide) ?_
  unfold cron_full at h
  conv => whnf
  refine Or.inl ?_
  conv => whnf
  refine brn_i (fun hb => ?_) (fun hb => ?_)
  · replace h := cond_t h hb
    conv => whnf
    refine Or.inl ?_
    conv => whnf
    obtain ⟨y_0, hy, h⟩ := bind_e h
    refine ⟨_, _, (cron_all_FC F (0 : Int) (6 : Int) y_0 hy), Or.inl ⟨rfl, rfl, ?_⟩⟩
    conv => whnf
    obtain rfl := Option.some.inj h
    exact rfl
  · replace h := cond_f h hb
    conv => whnf
    refine Or.inl ?_
    conv => whnf
    obtain ⟨hg, h⟩ := grd_e h
    refine And.intro hg ?_
    conv => whnf
    obtain ⟨hg, h⟩ := grd_e h
    refine And.intro hg ?_
    conv => whnf
    refine Or.inr ?_
    conv => whnf
    refine brn_i (fun hb => ?_) (fun hb => ?_)
    · replace h := cond_t h hb
      conv => whnf
      obtain ⟨hg, h⟩ := grd_e h
      refine And.intro hg ?_
      conv => whnf
      obtain ⟨hg, h⟩ := grd_e h
      refine And.intro hg ?_
      conv => whnf
      refine Or.inr ?_
      conv => whnf
      refine brn_i (fun hb => ?_) (fun hb => ?_)
      · replace h := cond_t h hb
        conv => whnf
        refine Or.inl ?_
        conv => whnf
        obtain ⟨y_1, hy, h⟩ := bind_e h
        refine ⟨_, _, (cron_all_FC F (0 : Int) (59 : Int) y_1 hy), Or.inl ⟨rfl, rfl, ?_⟩⟩
        conv => whnf
        refine And.intro (by kernel_rfl) ?_
        conv => whnf
        obtain rfl := Option.some.inj h
        exact rfl
      · cases (cond_f h hb)
    · replace h := cond_f h hb
      conv => whnf
      refine brn_i (fun hb => ?_) (fun hb => ?_)
      · replace h := cond_t h hb
        conv => whnf
        obtain ⟨hg, h⟩ := grd_e h
        refine And.intro hg ?_
        conv => whnf
        obtain ⟨hg, h⟩ := grd_e h
        refine And.intro hg ?_
        conv => whnf
        refine Or.inr ?_
        conv => whnf
        refine brn_i (fun hb => ?_) (fun hb => ?_)
        · cases (cond_t h hb)
        · replace h := cond_f h hb
          conv => whnf
          refine brn_i (fun hb => ?_) (fun hb => ?_)
          · replace h := cond_t h hb
            conv => whnf
            refine Or.inl ?_
            conv => whnf
            obtain ⟨y_2, hy, h⟩ := bind_e h
            refine ⟨_, _, (cron_all_FC F (0 : Int) (23 : Int) y_2 hy), Or.inl ⟨rfl, rfl, ?_⟩⟩
            conv => whnf
            refine And.intro (by kernel_rfl) ?_
            conv => whnf
            obtain rfl := Option.some.inj h
            exact rfl
          · cases (cond_f h hb)
      · replace h := cond_f h hb
        conv => whnf
        refine brn_i (fun hb => ?_) (fun hb => ?_)
        · replace h := cond_t h hb
          conv => whnf
          obtain ⟨hg, h⟩ := grd_e h
          refine And.intro hg ?_
          conv => whnf
          obtain ⟨hg, h⟩ := grd_e h
          refine And.intro hg ?_
          conv => whnf
          refine Or.inr ?_
          conv => whnf
          refine brn_i (fun hb => ?_) (fun hb => ?_)
          · cases (cond_t h hb)
          · replace h := cond_f h hb
            conv => whnf
            refine brn_i (fun hb => ?_) (fun hb => ?_)
            · cases (cond_t h hb)
            · replace h := cond_f h hb
              conv => whnf
              refine brn_i (fun hb => ?_) (fun hb => ?_)
              · replace h := cond_t h hb
                conv => whnf
                refine Or.inl ?_
                conv => whnf
                obtain ⟨y_3, hy, h⟩ := bind_e h
                refine ⟨_, _, (cron_all_FC F (1 : Int) (31 : Int) y_3 hy), Or.inl ⟨rfl, rfl, ?_⟩⟩
                conv => whnf
                refine And.intro (by kernel_rfl) ?_
                conv => whnf
                obtain rfl := Option.some.inj h
                exact rfl
              · cases (cond_f h hb)
        · replace h := cond_f h hb
          conv => whnf
          refine brn_i (fun hb => ?_) (fun hb => ?_)
          · replace h := cond_t h hb
            conv => whnf
            obtain ⟨hg, h⟩ := grd_e h
            refine And.intro hg ?_
            conv => whnf
            obtain ⟨hg, h⟩ := grd_e h
            refine And.intro hg ?_
            conv => whnf
            refine Or.inr ?_
            conv => whnf
            refine brn_i (fun hb => ?_) (fun hb => ?_)
            · cases (cond_t h hb)
            · replace h := cond_f h hb
              conv => whnf
              refine brn_i (fun hb => ?_) (fun hb => ?_)
              · cases (cond_t h hb)
              · replace h := cond_f h hb
                conv => whnf
                refine brn_i (fun hb => ?_) (fun hb => ?_)
                · cases (cond_t h hb)
                · replace h := cond_f h hb
                  conv => whnf
                  refine brn_i (fun hb => ?_) (fun hb => ?_)
                  · replace h := cond_t h hb
                    conv => whnf
                    refine Or.inl ?_
                    conv => whnf
                    obtain ⟨y_4, hy, h⟩ := bind_e h
                    refine ⟨_, _, (cron_all_FC F (1 : Int) (12 : Int) y_4 hy), Or.inl ⟨rfl, rfl, ?_⟩⟩
                    conv => whnf
                    refine And.intro (by kernel_rfl) ?_
                    conv => whnf
                    obtain rfl := Option.some.inj h
                    exact rfl
                  · cases (cond_f h hb)
          · replace h := cond_f h hb
            conv => whnf
            refine brn_i (fun hb => ?_) (fun hb => ?_)
            · cases (cond_t h hb)
            · replace h := cond_f h hb
              conv => whnf
              exact trivial

theorem cron_Check_FC {ml : Int} (F : Nat) (c : api_Cron) (r : Bool) (h : cron_Check F c = some r) : FC Tryz.prog (GM ml) 47 [] [(AV.agg (api_Cron.c c))] (.bool r) [] := by
  refine FC_of 2000 Tryz.func47 rfl (by kernel_rfl) mixed (by show 1 ≤ 41; decide) ?_
  unfold cron_Check at h
  conv => whnf
  refine Or.inl ?_
  conv => whnf
  obtain ⟨y_0, hy, h⟩ := bind_e h
  refine ⟨_, _, (cron_fields_FC F c y_0 hy), Or.inl ⟨rfl, rfl, ?_⟩⟩
  conv => whnf
  obtain ⟨o6, h6, k6⟩ := bind_e h
  refine Or.inr (joins_i (o6 = Sum.inr (outR o6)) ((1, (AV.ptr 0 0 0)) :: []) ((0, (AO.rows false (((AV.int IntKind.u64 c.Minute) :: ((AV.int IntKind.u64 c.Hour) :: ((AV.int IntKind.u64 c.Day) :: ((AV.int IntKind.u64 c.Month) :: ((AV.int IntKind.u64 c.Week) :: ((AV.bool c.AnyDay) :: ((AV.bool c.AnyWeek) :: []))))))) :: []))) :: []) 1 ?_ (fun hR => ?_))
  · conv => whnf
    refine Or.inl ?_
    conv => whnf
    refine loops_i (α := (Nat × Int)) (fun xq => ((1, (AV.ptr 0 0 0)) :: ((6, (AV.agg ((AV.int IntKind.u64 y_0.e0) :: ((AV.int IntKind.u64 y_0.e1) :: ((AV.int IntKind.u64 y_0.e2) :: ((AV.int IntKind.u64 y_0.e3) :: ((AV.int IntKind.u64 y_0.e4) :: []))))))) :: ((7, (AV.int IntKind.i64 xq.2)) :: [])))) (fun xq => ((0, (AO.rows false (((AV.int IntKind.u64 c.Minute) :: ((AV.int IntKind.u64 c.Hour) :: ((AV.int IntKind.u64 c.Day) :: ((AV.int IntKind.u64 c.Month) :: ((AV.int IntKind.u64 c.Week) :: ((AV.bool c.AnyDay) :: ((AV.bool c.AnyWeek) :: []))))))) :: []))) :: [])) 1 (fun xq => cron_Check_l0 F y_0 xq.1 xq.2 = some o6) (fun xq => xq.1) (F, (0 : Int)) [(0, 8)] h6 rfl rfl rfl ?_
    rintro ⟨n_17, t7_18⟩ h6
    replace h6 : cron_Check_l0 F y_0 n_17 t7_18 = some o6 := h6
    cases n_17 with
    | zero => rw [cron_Check_l0.eq_1] at h6; cases h6
    | succ n_17 =>
      rw [cron_Check_l0.eq_2] at h6
      conv => whnf
      refine Or.inl ?_
      conv => whnf
      refine brn_i (fun hb => ?_) (fun hb => ?_)
      · replace h6 := cond_t h6 hb
        conv => whnf
        refine Or.inl ?_
        conv => whnf
        obtain ⟨b_22, h13, k13⟩ := bind_e h6
        refine Or.inr (joins_i True ((1, (AV.ptr 0 0 0)) :: ((3, (AV.int IntKind.i64 t7_18)) :: ((4, (AV.int IntKind.u64 b_22)) :: ((6, (AV.agg ((AV.int IntKind.u64 y_0.e0) :: ((AV.int IntKind.u64 y_0.e1) :: ((AV.int IntKind.u64 y_0.e2) :: ((AV.int IntKind.u64 y_0.e3) :: ((AV.int IntKind.u64 y_0.e4) :: []))))))) :: ((7, (AV.int IntKind.i64 t7_18)) :: []))))) ((0, (AO.rows false (((AV.int IntKind.u64 c.Minute) :: ((AV.int IntKind.u64 c.Hour) :: ((AV.int IntKind.u64 c.Day) :: ((AV.int IntKind.u64 c.Month) :: ((AV.int IntKind.u64 c.Week) :: ((AV.bool c.AnyDay) :: ((AV.bool c.AnyWeek) :: []))))))) :: []))) :: []) 1 ?_ (fun _ => ?_))
        · conv => whnf
          refine Or.inl ?_
          conv => whnf
          obtain ⟨hg, h13⟩ := grd_e h13
          refine And.intro hg ?_
          conv => whnf
          obtain ⟨hg, h13⟩ := grd_e h13
          refine And.intro hg ?_
          conv => whnf
          refine Or.inr ?_
          conv => whnf
          refine brn_i (fun hb => ?_) (fun hb => ?_)
          · replace h13 := cond_t h13 hb
            conv => whnf
            obtain rfl := Option.some.inj h13
            exact end_i trivial [(0, 0)] rfl rfl rfl
          · replace h13 := cond_f h13 hb
            conv => whnf
            refine brn_i (fun hb => ?_) (fun hb => ?_)
            · replace h13 := cond_t h13 hb
              conv => whnf
              obtain rfl := Option.some.inj h13
              exact end_i trivial [(0, 0)] rfl rfl rfl
            · replace h13 := cond_f h13 hb
              conv => whnf
              refine brn_i (fun hb => ?_) (fun hb => ?_)
              · replace h13 := cond_t h13 hb
                conv => whnf
                obtain rfl := Option.some.inj h13
                exact end_i trivial [(0, 0)] rfl rfl rfl
              · replace h13 := cond_f h13 hb
                conv => whnf
                refine brn_i (fun hb => ?_) (fun hb => ?_)
                · replace h13 := cond_t h13 hb
                  conv => whnf
                  obtain rfl := Option.some.inj h13
                  exact end_i trivial [(0, 0)] rfl rfl rfl
                · replace h13 := cond_f h13 hb
                  conv => whnf
                  refine brn_i (fun hb => ?_) (fun hb => ?_)
                  · replace h13 := cond_t h13 hb
                    conv => whnf
                    obtain rfl := Option.some.inj h13
                    exact end_i trivial [(0, 0)] rfl rfl rfl
                  · replace h13 := cond_f h13 hb
                    conv => whnf
                    exact trivial
        · conv => whnf
          obtain ⟨t19_24, h14, k14⟩ := bind_e k13
          refine Or.inr (joins_i True ((1, (AV.ptr 0 0 0)) :: ((6, (AV.agg ((AV.int IntKind.u64 y_0.e0) :: ((AV.int IntKind.u64 y_0.e1) :: ((AV.int IntKind.u64 y_0.e2) :: ((AV.int IntKind.u64 y_0.e3) :: ((AV.int IntKind.u64 y_0.e4) :: []))))))) :: ((7, (AV.int IntKind.i64 t7_18)) :: ((19, (AV.bool t19_24)) :: [])))) ((0, (AO.rows false (((AV.int IntKind.u64 c.Minute) :: ((AV.int IntKind.u64 c.Hour) :: ((AV.int IntKind.u64 c.Day) :: ((AV.int IntKind.u64 c.Month) :: ((AV.int IntKind.u64 c.Week) :: ((AV.bool c.AnyDay) :: ((AV.bool c.AnyWeek) :: []))))))) :: []))) :: []) 1 ?_ (fun _ => ?_))
          · conv => whnf
            refine Or.inl ?_
            conv => whnf
            refine brn_i (fun hb => ?_) (fun hb => ?_)
            · replace h14 := cond_t h14 hb
              conv => whnf
              obtain rfl := Option.some.inj h14
              exact end_i trivial [(0, 0)] rfl rfl rfl
            · replace h14 := cond_f h14 hb
              conv => whnf
              refine Or.inl ?_
              conv => whnf
              obtain ⟨y_25, hy, h14⟩ := bind_e h14
              refine ⟨_, _, (cron_full_FC F t7_18 y_25 hy), Or.inl ⟨rfl, rfl, ?_⟩⟩
              conv => whnf
              obtain rfl := Option.some.inj h14
              exact end_i trivial [(0, 0)] rfl rfl rfl
          · conv => whnf
            refine Or.inl ?_
            conv => whnf
            refine brn_i (fun hb => ?_) (fun hb => ?_)
            · replace k14 := cond_t k14 hb
              conv => whnf
              obtain rfl := Option.some.inj k14
              obtain rfl := Option.some.inj k6
              exact rfl
            · replace k14 := cond_f k14 hb
              conv => whnf
              exact round_i (n_17, (IntKind.wrap IntKind.i64 (t7_18 + (1 : Int)))) [(0, 0)] k14 (Nat.lt_succ_self _) rfl rfl rfl
      · replace h6 := cond_f h6 hb
        conv => whnf
        obtain rfl := Option.some.inj h6
        exact end_i rfl [(0, 0)] rfl rfl rfl
  · replace k6 := elim_e hR k6
    generalize outR o6 = v at k6 ⊢
    conv => whnf
    refine Or.inl ?_
    conv => whnf
    refine brn_i (fun hb => ?_) (fun hb => ?_)
    · replace k6 := cond_t k6 hb
      conv => whnf
      refine brn_i (fun hb => ?_) (fun hb => ?_)
      · replace k6 := cond_t k6 hb
        conv => whnf
        refine And.intro (by kernel_rfl) ?_
        conv => whnf
        obtain rfl := Option.some.inj k6
        exact rfl
      · replace k6 := cond_f k6 hb
        conv => whnf
        refine Or.inl ?_
        conv => whnf
        obtain ⟨y_26, hy, k6⟩ := bind_e k6
        refine ⟨_, _, (cron_full_FC F (4 : Int) y_26 hy), Or.inl ⟨rfl, rfl, ?_⟩⟩
        conv => whnf
        refine And.intro (by kernel_rfl) ?_
        conv => whnf
        obtain rfl := Option.some.inj k6
        exact rfl
    · replace k6 := cond_f k6 hb
      conv => whnf
      refine Or.inl ?_
      conv => whnf
      obtain ⟨y_27, hy, k6⟩ := bind_e k6
      refine ⟨_, _, (cron_full_FC F (2 : Int) y_27 hy), Or.inl ⟨rfl, rfl, ?_⟩⟩
      conv => whnf
      refine brn_i (fun hb => ?_) (fun hb => ?_)
      · replace k6 := cond_t k6 hb
        conv => whnf
        refine brn_i (fun hb => ?_) (fun hb => ?_)
        · replace k6 := cond_t k6 hb
          conv => whnf
          refine And.intro (by kernel_rfl) ?_
          conv => whnf
          obtain rfl := Option.some.inj k6
          exact rfl
        · replace k6 := cond_f k6 hb
          conv => whnf
          refine Or.inl ?_
          conv => whnf
          obtain ⟨y_28, hy, k6⟩ := bind_e k6
          refine ⟨_, _, (cron_full_FC F (4 : Int) y_28 hy), Or.inl ⟨rfl, rfl, ?_⟩⟩
          conv => whnf
          refine And.intro (by kernel_rfl) ?_
          conv => whnf
          obtain rfl := Option.some.inj k6
          exact rfl
      · replace k6 := cond_f k6 hb
        conv => whnf
        refine And.intro (by kernel_rfl) ?_
        conv => whnf
        obtain rfl := Option.some.inj k6
        exact rfl

theorem math_bits_TrailingZeros64_FC {ml : Int} (F : Nat) (n : Int) (r : Int) (h : math_bits_TrailingZeros64 F n = some r) : FC Tryz.prog (GM ml) 63 [] [.int .u64 n] (.int .i64 r) [] := by
  unfold math_bits_TrailingZeros64 at h
  obtain ⟨hg, h⟩ := grd_e h
  obtain rfl := Option.some.inj h
  exact FC_ctz (g := 1) (by kernel_rfl) rfl (fun x w a b => Tryz.bits_TrailingZeros64 x a w b) n hg.1 hg.2

theorem strconv_Itoa_FC {ml : Int} (F : Nat) (n : Int) (r : (List UInt8)) (h : strconv_Itoa F n = some r) : FC Tryz.prog (GM ml) 64 [] [.int .i64 n] (.str r) [] := by
  unfold strconv_Itoa at h
  obtain ⟨hg, h⟩ := grd_e h
  obtain rfl := Option.some.inj h
  exact FC_itoa_small (by kernel_rfl) (fun n w a => Tryz.strconv_Itoa_small n a w) n hg.1 hg.2

theorem strings_Join_FC {ml : Int} (F : Nat) (xs : List (List UInt8)) (sep : (List UInt8)) (r : (List UInt8)) (h : strings_Join F xs sep = some r) : FC Tryz.prog (GM ml) 51 [] [.sl (List.map cStr xs), .str sep] (.str r) [] := by
  unfold strings_Join at h
  obtain ⟨hg, h⟩ := grd_e h
  obtain rfl := Option.some.inj h
  exact FC_join (by kernel_rfl) (fun a c sep w => Tryz.strings_Join_none a c sep w) (fun bk o c xs sep w a b d e g => Tryz.strings_Join bk o c xs sep w a b d e g) xs sep hg

theorem cron_runs_FC {ml : Int} (F : Nat) (b : Int) (r : (List UInt8)) (h : cron_runs F b = some r) : FC Tryz.prog (GM ml) 50 [] [(AV.int IntKind.u64 b)] (.str r) [] := by
  refine FC_of 2000 Tryz.func50 rfl (by kernel_rfl) mixed (by show 1 ≤ 42; decide) ?_
  unfold cron_runs at h
  conv => whnf
  obtain ⟨l_12, h2, k2⟩ := bind_e h
  refine Or.inr (joins_i True ((3, (AV.osw 0 (@GetElem.getElem (@Array TypeInfo) Nat TypeInfo (fun (xs_13 : (@Array TypeInfo)) => (fun (i_13 : Nat) => (i_13 < (@Array.size TypeInfo xs_13)))) (@Array.instGetElemNatLtSize TypeInfo) Proofs.Tryz.prog.toTables.types 9 (@Nat.le_of_ble_eq_true (Nat.succ 9) (@Array.size TypeInfo Proofs.Tryz.prog.toTables.types) (@rfl Bool true))).size)) :: []) ((0, (AO.rows true (List.map cStr l_12))) :: []) 1 ?_ (fun _ => ?_))
  · conv => whnf
    refine Or.inl ?_
    conv => whnf
    refine loops_i (α := (Nat × Int × (List (List UInt8)))) (fun xq => ((0, (AV.int IntKind.u64 xq.2.1)) :: ((3, (AV.osw 0 (@GetElem.getElem (@Array TypeInfo) Nat TypeInfo (fun (xs_13 : (@Array TypeInfo)) => (fun (i_13 : Nat) => (i_13 < (@Array.size TypeInfo xs_13)))) (@Array.instGetElemNatLtSize TypeInfo) Proofs.Tryz.prog.toTables.types 9 (@Nat.le_of_ble_eq_true (Nat.succ 9) (@Array.size TypeInfo Proofs.Tryz.prog.toTables.types) (@rfl Bool true))).size)) :: []))) (fun xq => ((0, (AO.rows true (List.map cStr xq.2.2))) :: [])) 1 (fun xq => cron_runs_l0 F xq.1 xq.2.1 xq.2.2 = some l_12) (fun xq => xq.1) (F, b, []) [(0, 16)] h2 rfl (cons2 (congrArg (fun X => some (AO.rows true X)) (by first | (simp; done) | rfl | (rw [List.map_append]; rfl))) rfl) rfl ?_
    rintro ⟨n_19, b_20, l_21⟩ h2
    replace h2 : cron_runs_l0 F n_19 b_20 l_21 = some l_12 := h2
    cases n_19 with
    | zero => rw [cron_runs_l0.eq_1] at h2; cases h2
    | succ n_19 =>
      rw [cron_runs_l0.eq_2] at h2
      conv => whnf
      refine Or.inl ?_
      conv => whnf
      refine brn_i (fun hb => ?_) (fun hb => ?_)
      · replace h2 := cond_t h2 hb
        conv => whnf
        refine Or.inl ?_
        conv => whnf
        refine Or.inl ?_
        conv => whnf
        obtain ⟨y_22, hy, h2⟩ := bind_e h2
        refine ⟨_, _, (math_bits_TrailingZeros64_FC F b_20 y_22 hy), Or.inl ⟨rfl, rfl, ?_⟩⟩
        conv => whnf
        obtain ⟨hg, h2⟩ := grd_e h2
        refine And.intro hg ?_
        conv => whnf
        refine Or.inl ?_
        conv => whnf
        obtain ⟨y_23, hy, h2⟩ := bind_e h2
        refine ⟨_, _, (math_bits_TrailingZeros64_FC F (@ibits BinOp.xor IntKind.u64 (if ((@IntKind.signed IntKind.u64) = true) then (@Neg.neg Int Int.instNegInt (1 : Int)) else (@IntKind.max IntKind.u64)) (@Int.fdiv b_20 ((2 : Int) ^ (min (Int.toNat y_22) 64)))) y_23 hy), Or.inl ⟨rfl, rfl, ?_⟩⟩
        conv => whnf
        refine Or.inl ?_
        conv => whnf
        obtain ⟨y_24, hy, h2⟩ := bind_e h2
        refine ⟨_, _, (strconv_Itoa_FC F y_22 y_24 hy), Or.inl ⟨rfl, rfl, ?_⟩⟩
        conv => whnf
        obtain ⟨s_26, h4, k4⟩ := bind_e h2
        refine Or.inr (joins_i True ((0, (AV.int IntKind.u64 b_20)) :: ((3, (AV.osw 0 (@GetElem.getElem (@Array TypeInfo) Nat TypeInfo (fun (xs_13 : (@Array TypeInfo)) => (fun (i_13 : Nat) => (i_13 < (@Array.size TypeInfo xs_13)))) (@Array.instGetElemNatLtSize TypeInfo) Proofs.Tryz.prog.toTables.types 9 (@Nat.le_of_ble_eq_true (Nat.succ 9) (@Array.size TypeInfo Proofs.Tryz.prog.toTables.types) (@rfl Bool true))).size)) :: ((4, (AV.int IntKind.i64 y_22)) :: ((5, (AV.int IntKind.i64 y_23)) :: ((6, (AV.str s_26)) :: []))))) ((0, (AO.rows true (List.map cStr l_21))) :: []) 1 ?_ (fun _ => ?_))
        · conv => whnf
          refine Or.inl ?_
          conv => whnf
          refine brn_i (fun hb => ?_) (fun hb => ?_)
          · replace h4 := cond_t h4 hb
            conv => whnf
            refine Or.inl ?_
            conv => whnf
            obtain ⟨y_27, hy, h4⟩ := bind_e h4
            refine ⟨_, _, (strconv_Itoa_FC F (IntKind.wrap IntKind.i64 ((IntKind.wrap IntKind.i64 (y_22 + y_23)) - (1 : Int))) y_27 hy), Or.inl ⟨rfl, rfl, ?_⟩⟩
            conv => whnf
            obtain ⟨hg, h4⟩ := grd_e h4
            refine And.intro hg ?_
            conv => whnf
            obtain ⟨hg, h4⟩ := grd_e h4
            refine And.intro hg ?_
            conv => whnf
            obtain rfl := Option.some.inj h4
            exact end_i trivial [(0, 0)] rfl rfl rfl
          · replace h4 := cond_f h4 hb
            conv => whnf
            obtain rfl := Option.some.inj h4
            exact end_i trivial [(0, 0)] rfl rfl rfl
        · conv => whnf
          refine And.intro (LenAll.cons rfl LenAll.nil) ?_
          conv => whnf
          refine And.intro (LenAll.map (fun _ => rfl)) ?_
          conv => whnf
          obtain ⟨hg, k4⟩ := grd_e k4
          refine And.intro (by first | exact hg | (simp; done) | simpa using hg | simpa [chunk] using hg | (simp [chunk] at hg ⊢; omega)) ?_
          conv => whnf
          refine Or.inl ?_
          conv => whnf
          obtain ⟨y_28, hy, k4⟩ := bind_e k4
          refine ⟨_, _, (cron_all_FC F y_22 (IntKind.wrap IntKind.i64 ((IntKind.wrap IntKind.i64 (y_22 + y_23)) - (1 : Int))) y_28 hy), Or.inl ⟨rfl, rfl, ?_⟩⟩
          conv => whnf
          exact round_i (n_19, (@ibits BinOp.andNot IntKind.u64 b_20 y_28), (l_21 ++ (s_26 :: []))) [(0, 25)] k4 (Nat.lt_succ_self _) rfl (cons2 (congrArg (fun X => some (AO.rows true X)) (by first | (simp; done) | rfl | (rw [List.map_append]; rfl))) rfl) rfl
      · replace h2 := cond_f h2 hb
        conv => whnf
        obtain rfl := Option.some.inj h2
        exact end_i trivial [(0, 0)] rfl rfl rfl
  · conv => whnf
    refine Or.inl ?_
    conv => whnf
    obtain ⟨y_29, hy, k2⟩ := bind_e k2
    refine ⟨_, _, (strings_Join_FC F l_12 ([44] : List UInt8) y_29 hy), Or.inl ⟨rfl, rfl, ?_⟩⟩
    conv => whnf
    obtain rfl := Option.some.inj k2
    exact rfl

theorem cron_Print_FC {ml : Int} (F : Nat) (c : api_Cron) (r : ((List UInt8) × Int)) (h : cron_Print F c = some r) : FC Tryz.prog (GM ml) 36 [] [(AV.agg (api_Cron.c c))] (.tup [(.str r.1), (.int IntKind.i64 r.2)]) [] := by
  refine FC_of 2000 Tryz.func36 rfl (by kernel_rfl) mixed (by show 1 ≤ 42; decide) ?_
  unfold cron_Print at h
  conv => whnf
  refine Or.inl ?_
  conv => whnf
  obtain ⟨y_0, hy, h⟩ := bind_e h
  refine ⟨_, _, (cron_Check_FC F c y_0 hy), Or.inl ⟨rfl, rfl, ?_⟩⟩
  conv => whnf
  refine Or.inl ?_
  conv => whnf
  refine brn_i (fun hb => ?_) (fun hb => ?_)
  · replace h := cond_t h hb
    conv => whnf
    obtain rfl := Option.some.inj h
    exact rfl
  · replace h := cond_f h hb
    conv => whnf
    refine Or.inl ?_
    conv => whnf
    obtain ⟨y_1, hy, h⟩ := bind_e h
    refine ⟨_, _, (cron_fields_FC F c y_1 hy), Or.inl ⟨rfl, rfl, ?_⟩⟩
    conv => whnf
    obtain ⟨l_10, h4, k4⟩ := bind_e h
    refine Or.inr (joins_i True ((4, (AV.osw 0 (@GetElem.getElem (@Array TypeInfo) Nat TypeInfo (fun (xs_13 : (@Array TypeInfo)) => (fun (i_13 : Nat) => (i_13 < (@Array.size TypeInfo xs_13)))) (@Array.instGetElemNatLtSize TypeInfo) Proofs.Tryz.prog.toTables.types 9 (@Nat.le_of_ble_eq_true (Nat.succ 9) (@Array.size TypeInfo Proofs.Tryz.prog.toTables.types) (@rfl Bool true))).size)) :: []) ((0, (AO.rows true (List.map cStr l_10))) :: []) 1 ?_ (fun _ => ?_))
    · conv => whnf
      refine Or.inl ?_
      conv => whnf
      refine loops_i (α := (Nat × Int × (List (List UInt8)))) (fun xq => ((1, (AV.ptr 0 0 0)) :: ((4, (AV.osw 1 (@GetElem.getElem (@Array TypeInfo) Nat TypeInfo (fun (xs_13 : (@Array TypeInfo)) => (fun (i_13 : Nat) => (i_13 < (@Array.size TypeInfo xs_13)))) (@Array.instGetElemNatLtSize TypeInfo) Proofs.Tryz.prog.toTables.types 9 (@Nat.le_of_ble_eq_true (Nat.succ 9) (@Array.size TypeInfo Proofs.Tryz.prog.toTables.types) (@rfl Bool true))).size)) :: ((12, (AV.agg ((AV.int IntKind.u64 y_1.e0) :: ((AV.int IntKind.u64 y_1.e1) :: ((AV.int IntKind.u64 y_1.e2) :: ((AV.int IntKind.u64 y_1.e3) :: ((AV.int IntKind.u64 y_1.e4) :: []))))))) :: ((13, (AV.int IntKind.i64 xq.2.1)) :: []))))) (fun xq => ((0, (AO.rows false (((AV.int IntKind.u64 c.Minute) :: ((AV.int IntKind.u64 c.Hour) :: ((AV.int IntKind.u64 c.Day) :: ((AV.int IntKind.u64 c.Month) :: ((AV.int IntKind.u64 c.Week) :: ((AV.bool c.AnyDay) :: ((AV.bool c.AnyWeek) :: []))))))) :: []))) :: ((1, (AO.rows true (List.map cStr xq.2.2))) :: []))) 2 (fun xq => cron_Print_l0 F c y_1 xq.1 xq.2.1 xq.2.2 = some l_10) (fun xq => xq.1) (F, (0 : Int), []) [(0, 8), (1, 56)] h4 rfl (cons2 rfl (cons2 (congrArg (fun X => some (AO.rows true X)) (by first | (simp; done) | rfl | (rw [List.map_append]; rfl))) rfl)) rfl ?_
      rintro ⟨n_16, t13_17, l_18⟩ h4
      replace h4 : cron_Print_l0 F c y_1 n_16 t13_17 l_18 = some l_10 := h4
      cases n_16 with
      | zero => rw [cron_Print_l0.eq_1] at h4; cases h4
      | succ n_16 =>
        rw [cron_Print_l0.eq_2] at h4
        conv => whnf
        refine Or.inl ?_
        conv => whnf
        refine brn_i (fun hb => ?_) (fun hb => ?_)
        · replace h4 := cond_t h4 hb
          conv => whnf
          obtain ⟨l_23, h10, k10⟩ := bind_e h4
          refine Or.inr (joins_i True ((1, (AV.ptr 0 0 0)) :: ((4, (AV.osw 1 (@GetElem.getElem (@Array TypeInfo) Nat TypeInfo (fun (xs_13 : (@Array TypeInfo)) => (fun (i_13 : Nat) => (i_13 < (@Array.size TypeInfo xs_13)))) (@Array.instGetElemNatLtSize TypeInfo) Proofs.Tryz.prog.toTables.types 9 (@Nat.le_of_ble_eq_true (Nat.succ 9) (@Array.size TypeInfo Proofs.Tryz.prog.toTables.types) (@rfl Bool true))).size)) :: ((12, (AV.agg ((AV.int IntKind.u64 y_1.e0) :: ((AV.int IntKind.u64 y_1.e1) :: ((AV.int IntKind.u64 y_1.e2) :: ((AV.int IntKind.u64 y_1.e3) :: ((AV.int IntKind.u64 y_1.e4) :: []))))))) :: ((13, (AV.int IntKind.i64 t13_17)) :: [])))) ((0, (AO.rows false (((AV.int IntKind.u64 c.Minute) :: ((AV.int IntKind.u64 c.Hour) :: ((AV.int IntKind.u64 c.Day) :: ((AV.int IntKind.u64 c.Month) :: ((AV.int IntKind.u64 c.Week) :: ((AV.bool c.AnyDay) :: ((AV.bool c.AnyWeek) :: []))))))) :: []))) :: ((1, (AO.rows true (List.map cStr l_23))) :: [])) 2 ?_ (fun _ => ?_))
          · conv => whnf
            refine Or.inl ?_
            conv => whnf
            obtain ⟨b_24, h11, k11⟩ := bind_e h10
            refine Or.inr (joins_i True ((1, (AV.ptr 0 0 0)) :: ((4, (AV.osw 1 (@GetElem.getElem (@Array TypeInfo) Nat TypeInfo (fun (xs_13 : (@Array TypeInfo)) => (fun (i_13 : Nat) => (i_13 < (@Array.size TypeInfo xs_13)))) (@Array.instGetElemNatLtSize TypeInfo) Proofs.Tryz.prog.toTables.types 9 (@Nat.le_of_ble_eq_true (Nat.succ 9) (@Array.size TypeInfo Proofs.Tryz.prog.toTables.types) (@rfl Bool true))).size)) :: ((5, (AV.int IntKind.i64 t13_17)) :: ((6, (AV.int IntKind.u64 b_24)) :: ((12, (AV.agg ((AV.int IntKind.u64 y_1.e0) :: ((AV.int IntKind.u64 y_1.e1) :: ((AV.int IntKind.u64 y_1.e2) :: ((AV.int IntKind.u64 y_1.e3) :: ((AV.int IntKind.u64 y_1.e4) :: []))))))) :: ((13, (AV.int IntKind.i64 t13_17)) :: [])))))) ((0, (AO.rows false (((AV.int IntKind.u64 c.Minute) :: ((AV.int IntKind.u64 c.Hour) :: ((AV.int IntKind.u64 c.Day) :: ((AV.int IntKind.u64 c.Month) :: ((AV.int IntKind.u64 c.Week) :: ((AV.bool c.AnyDay) :: ((AV.bool c.AnyWeek) :: []))))))) :: []))) :: ((1, (AO.rows true (List.map cStr l_18))) :: [])) 2 ?_ (fun _ => ?_))
            · conv => whnf
              refine Or.inl ?_
              conv => whnf
              obtain ⟨hg, h11⟩ := grd_e h11
              refine And.intro hg ?_
              conv => whnf
              obtain ⟨hg, h11⟩ := grd_e h11
              refine And.intro hg ?_
              conv => whnf
              refine Or.inr ?_
              conv => whnf
              refine brn_i (fun hb => ?_) (fun hb => ?_)
              · replace h11 := cond_t h11 hb
                conv => whnf
                obtain rfl := Option.some.inj h11
                exact end_i trivial [(0, 0), (1, 1)] rfl rfl rfl
              · replace h11 := cond_f h11 hb
                conv => whnf
                refine brn_i (fun hb => ?_) (fun hb => ?_)
                · replace h11 := cond_t h11 hb
                  conv => whnf
                  obtain rfl := Option.some.inj h11
                  exact end_i trivial [(0, 0), (1, 1)] rfl rfl rfl
                · replace h11 := cond_f h11 hb
                  conv => whnf
                  refine brn_i (fun hb => ?_) (fun hb => ?_)
                  · replace h11 := cond_t h11 hb
                    conv => whnf
                    obtain rfl := Option.some.inj h11
                    exact end_i trivial [(0, 0), (1, 1)] rfl rfl rfl
                  · replace h11 := cond_f h11 hb
                    conv => whnf
                    refine brn_i (fun hb => ?_) (fun hb => ?_)
                    · replace h11 := cond_t h11 hb
                      conv => whnf
                      obtain rfl := Option.some.inj h11
                      exact end_i trivial [(0, 0), (1, 1)] rfl rfl rfl
                    · replace h11 := cond_f h11 hb
                      conv => whnf
                      refine brn_i (fun hb => ?_) (fun hb => ?_)
                      · replace h11 := cond_t h11 hb
                        conv => whnf
                        obtain rfl := Option.some.inj h11
                        exact end_i trivial [(0, 0), (1, 1)] rfl rfl rfl
                      · replace h11 := cond_f h11 hb
                        conv => whnf
                        exact trivial
            · conv => whnf
              refine Or.inl ?_
              conv => whnf
              obtain ⟨y_25, hy, k11⟩ := bind_e k11
              refine ⟨_, _, (cron_full_FC F t13_17 y_25 hy), Or.inl ⟨rfl, rfl, ?_⟩⟩
              conv => whnf
              obtain ⟨star_26, h12, k12⟩ := bind_e k11
              refine Or.inr (joins_i True ((1, (AV.ptr 0 0 0)) :: ((4, (AV.osw 1 (@GetElem.getElem (@Array TypeInfo) Nat TypeInfo (fun (xs_13 : (@Array TypeInfo)) => (fun (i_13 : Nat) => (i_13 < (@Array.size TypeInfo xs_13)))) (@Array.instGetElemNatLtSize TypeInfo) Proofs.Tryz.prog.toTables.types 9 (@Nat.le_of_ble_eq_true (Nat.succ 9) (@Array.size TypeInfo Proofs.Tryz.prog.toTables.types) (@rfl Bool true))).size)) :: ((6, (AV.int IntKind.u64 b_24)) :: ((7, (AV.bool star_26)) :: ((12, (AV.agg ((AV.int IntKind.u64 y_1.e0) :: ((AV.int IntKind.u64 y_1.e1) :: ((AV.int IntKind.u64 y_1.e2) :: ((AV.int IntKind.u64 y_1.e3) :: ((AV.int IntKind.u64 y_1.e4) :: []))))))) :: ((13, (AV.int IntKind.i64 t13_17)) :: [])))))) ((0, (AO.rows false (((AV.int IntKind.u64 c.Minute) :: ((AV.int IntKind.u64 c.Hour) :: ((AV.int IntKind.u64 c.Day) :: ((AV.int IntKind.u64 c.Month) :: ((AV.int IntKind.u64 c.Week) :: ((AV.bool c.AnyDay) :: ((AV.bool c.AnyWeek) :: []))))))) :: []))) :: ((1, (AO.rows true (List.map cStr l_18))) :: [])) 2 ?_ (fun _ => ?_))
              · conv => whnf
                refine Or.inl ?_
                conv => whnf
                refine Or.inl ?_
                conv => whnf
                refine brn_i (fun hb => ?_) (fun hb => ?_)
                · replace h12 := cond_t h12 hb
                  conv => whnf
                  obtain rfl := Option.some.inj h12
                  exact end_i trivial [(0, 0), (1, 1)] rfl rfl rfl
                · replace h12 := cond_f h12 hb
                  conv => whnf
                  refine Or.inl ?_
                  conv => whnf
                  refine brn_i (fun hb => ?_) (fun hb => ?_)
                  · replace h12 := cond_t h12 hb
                    conv => whnf
                    obtain rfl := Option.some.inj h12
                    exact end_i trivial [(0, 0), (1, 1)] rfl rfl rfl
                  · replace h12 := cond_f h12 hb
                    conv => whnf
                    obtain rfl := Option.some.inj h12
                    exact end_i trivial [(0, 0), (1, 1)] rfl rfl rfl
              · conv => whnf
                refine Or.inl ?_
                conv => whnf
                refine brn_i (fun hb => ?_) (fun hb => ?_)
                · replace k12 := cond_t k12 hb
                  conv => whnf
                  refine And.intro (LenAll.cons rfl LenAll.nil) ?_
                  conv => whnf
                  refine And.intro (LenAll.map (fun _ => rfl)) ?_
                  conv => whnf
                  obtain ⟨hg, k12⟩ := grd_e k12
                  refine And.intro (by first | exact hg | (simp; done) | simpa using hg | simpa [chunk] using hg | (simp [chunk] at hg ⊢; omega)) ?_
                  conv => whnf
                  obtain rfl := Option.some.inj k12
                  exact end_i trivial [(0, 0), (1, 26)] rfl (cons2 rfl (cons2 (congrArg (fun X => some (AO.rows true X)) (by first | (simp; done) | rfl | (rw [List.map_append]; rfl))) rfl)) rfl
                · replace k12 := cond_f k12 hb
                  conv => whnf
                  refine Or.inl ?_
                  conv => whnf
                  obtain ⟨y_27, hy, k12⟩ := bind_e k12
                  refine ⟨_, _, (cron_runs_FC F b_24 y_27 hy), Or.inl ⟨rfl, rfl, ?_⟩⟩
                  conv => whnf
                  refine And.intro (LenAll.cons rfl LenAll.nil) ?_
                  conv => whnf
                  refine And.intro (LenAll.map (fun _ => rfl)) ?_
                  conv => whnf
                  obtain ⟨hg, k12⟩ := grd_e k12
                  refine And.intro (by first | exact hg | (simp; done) | simpa using hg | simpa [chunk] using hg | (simp [chunk] at hg ⊢; omega)) ?_
                  conv => whnf
                  obtain rfl := Option.some.inj k12
                  exact end_i trivial [(0, 0), (1, 42)] rfl (cons2 rfl (cons2 (congrArg (fun X => some (AO.rows true X)) (by first | (simp; done) | rfl | (rw [List.map_append]; rfl))) rfl)) rfl
          · conv => whnf
            exact round_i (n_16, (IntKind.wrap IntKind.i64 (t13_17 + (1 : Int))), l_23) [(0, 0), (1, 1)] k10 (Nat.lt_succ_self _) rfl rfl rfl
        · replace h4 := cond_f h4 hb
          conv => whnf
          obtain rfl := Option.some.inj h4
          exact end_i trivial [(0, 1)] rfl rfl rfl
    · conv => whnf
      refine Or.inl ?_
      conv => whnf
      obtain ⟨y_28, hy, k4⟩ := bind_e k4
      refine ⟨_, _, (strings_Join_FC F l_10 ([32] : List UInt8) y_28 hy), Or.inl ⟨rfl, rfl, ?_⟩⟩
      conv => whnf
      obtain rfl := Option.some.inj k4
      exact rfl

theorem jobs_right_FC {ml : Int} (F : Nat) (j : api_Job) (r : Bool) (h : jobs_right F j = some r) : FC Tryz.prog (GM ml) 21 [] [(AV.agg (api_Job.c j))] (.bool r) [] := by
  refine FC_of 2000 Tryz.func21 rfl (by kernel_rfl) mixed (by show 1 ≤ 61; decide) ?_
  unfold jobs_right at h
  conv => whnf
  refine Or.inl ?_
  conv => whnf
  obtain ⟨y_0, hy, h⟩ := bind_e h
  refine ⟨_, _, (jobs_read_FC F j.Expr j.Zone y_0 hy), Or.inl ⟨rfl, rfl, ?_⟩⟩
  conv => whnf
  obtain ⟨t51_3, h0, k0⟩ := bind_e h
  refine Or.inr (joins_i True ((1, (AV.ptr 0 0 0)) :: ((3, (AV.ptr 1 0 0)) :: ((51, (AV.bool t51_3)) :: []))) ((0, (AO.rows false (((AV.str j.Name) :: ((AV.str j.Expr) :: ((AV.str j.Zone) :: ((AV.str j.Token) :: ((AV.int IntKind.i64 j.Client) :: ((AV.int IntKind.i64 j.Seq) :: ((AV.bool j.Paused) :: ((AV.int IntKind.i64 j.Mark) :: [])))))))) :: []))) :: ((1, (AO.rows false (((AV.int IntKind.u64 y_0.1.Minute) :: ((AV.int IntKind.u64 y_0.1.Hour) :: ((AV.int IntKind.u64 y_0.1.Day) :: ((AV.int IntKind.u64 y_0.1.Month) :: ((AV.int IntKind.u64 y_0.1.Week) :: ((AV.bool y_0.1.AnyDay) :: ((AV.bool y_0.1.AnyWeek) :: []))))))) :: []))) :: [])) 2 ?_ (fun _ => ?_))
  · conv => whnf
    refine Or.inl ?_
    conv => whnf
    refine brn_i (fun hb => ?_) (fun hb => ?_)
    · replace h0 := cond_t h0 hb
      conv => whnf
      obtain rfl := Option.some.inj h0
      exact end_i trivial [(0, 8), (1, 96)] rfl rfl rfl
    · replace h0 := cond_f h0 hb
      conv => whnf
      refine Or.inl ?_
      conv => whnf
      obtain ⟨y_4, hy, h0⟩ := bind_e h0
      refine ⟨_, _, (jobs_Named_FC F j.Name y_4 hy), Or.inl ⟨rfl, rfl, ?_⟩⟩
      conv => whnf
      refine brn_i (fun hb => ?_) (fun hb => ?_)
      · replace h0 := cond_t h0 hb
        conv => whnf
        obtain rfl := Option.some.inj h0
        exact end_i trivial [(0, 8), (1, 96)] rfl rfl rfl
      · replace h0 := cond_f h0 hb
        conv => whnf
        refine brn_i (fun hb => ?_) (fun hb => ?_)
        · replace h0 := cond_t h0 hb
          conv => whnf
          obtain rfl := Option.some.inj h0
          exact end_i trivial [(0, 8), (1, 96)] rfl rfl rfl
        · replace h0 := cond_f h0 hb
          conv => whnf
          refine brn_i (fun hb => ?_) (fun hb => ?_)
          · replace h0 := cond_t h0 hb
            conv => whnf
            obtain rfl := Option.some.inj h0
            exact end_i trivial [(0, 8), (1, 96)] rfl rfl rfl
          · replace h0 := cond_f h0 hb
            conv => whnf
            refine brn_i (fun hb => ?_) (fun hb => ?_)
            · replace h0 := cond_t h0 hb
              conv => whnf
              obtain rfl := Option.some.inj h0
              exact end_i trivial [(0, 8), (1, 96)] rfl rfl rfl
            · replace h0 := cond_f h0 hb
              conv => whnf
              refine brn_i (fun hb => ?_) (fun hb => ?_)
              · replace h0 := cond_t h0 hb
                conv => whnf
                obtain rfl := Option.some.inj h0
                exact end_i trivial [(0, 8), (1, 96)] rfl rfl rfl
              · replace h0 := cond_f h0 hb
                conv => whnf
                refine Or.inl ?_
                conv => whnf
                obtain ⟨y_5, hy, h0⟩ := bind_e h0
                refine ⟨_, _, (jobs_marked_FC F j.Mark y_5 hy), Or.inl ⟨rfl, rfl, ?_⟩⟩
                conv => whnf
                obtain rfl := Option.some.inj h0
                exact end_i trivial [(0, 8), (1, 96)] rfl rfl rfl
  · conv => whnf
    refine Or.inl ?_
    conv => whnf
    refine brn_i (fun hb => ?_) (fun hb => ?_)
    · replace k0 := cond_t k0 hb
      conv => whnf
      obtain rfl := Option.some.inj k0
      exact rfl
    · replace k0 := cond_f k0 hb
      conv => whnf
      refine Or.inl ?_
      conv => whnf
      obtain ⟨y_6, hy, k0⟩ := bind_e k0
      refine ⟨_, _, (cron_Print_FC F y_0.1 y_6 hy), Or.inl ⟨rfl, rfl, ?_⟩⟩
      conv => whnf
      obtain rfl := Option.some.inj k0
      exact rfl

theorem jobs_Check_FC {ml : Int} (F : Nat) (list : (List api_Job)) (r : Bool) (h : jobs_Check F list = some r) : FC Tryz.prog (GM ml) 17 [] [(AV.sl (List.map api_Job.c list))] (.bool r) [] := by
  refine FC_of 2000 Tryz.func17 rfl (by kernel_rfl) mixed (by show 1 ≤ 34; decide) ?_
  unfold jobs_Check at h
  conv => whnf
  obtain ⟨o4, h4, k4⟩ := bind_e h
  refine Or.inr (joins_i (o4 = Sum.inr (outR o4)) ((0, (AV.sl (List.map api_Job.c list))) :: []) [] 0 ?_ (fun hR => ?_))
  · conv => whnf
    refine Or.inl ?_
    conv => whnf
    refine loops_i (α := (Nat × Int)) (fun xq => ((0, (AV.sl (List.map api_Job.c list))) :: ((5, (AV.sl (List.map api_Job.c list))) :: ((6, (AV.int IntKind.i64 (@Nat.cast Int instNatCastInt (List.length (List.map api_Job.c list))))) :: ((7, (AV.int IntKind.i64 xq.2)) :: []))))) (fun xq => []) 0 (fun xq => jobs_Check_l0 F list xq.1 xq.2 = some o4) (fun xq => xq.1) (F, (0 : Int)) [] h4 rfl rfl rfl ?_
    rintro ⟨n_22, t7_23⟩ h4
    replace h4 : jobs_Check_l0 F list n_22 t7_23 = some o4 := h4
    cases n_22 with
    | zero => rw [jobs_Check_l0.eq_1] at h4; cases h4
    | succ n_22 =>
      rw [jobs_Check_l0.eq_2] at h4
      conv => whnf
      refine Or.inl ?_
      conv => whnf
      refine brn_i (fun hb => ?_) (fun hb => ?_)
      · replace h4 := cond_t h4 (by first | exact hb | (simp; done) | simpa using hb | simpa [chunk] using hb)
        conv => whnf
        refine Or.inl ?_
        conv => whnf
        obtain ⟨hg, h4⟩ := grd_e h4
        refine And.intro hg ?_
        conv => whnf
        obtain ⟨y_28, hy, h4⟩ := bind_e h4
        refine opt_i (api_Job.c y_28) (getE rfl hy) ?_
        conv => whnf
        obtain ⟨t29_31, h8, k8⟩ := bind_e h4
        refine Or.inr (joins_i True ((0, (AV.sl (List.map api_Job.c list))) :: ((5, (AV.sl (List.map api_Job.c list))) :: ((6, (AV.int IntKind.i64 (@Nat.cast Int instNatCastInt (List.length (List.map api_Job.c list))))) :: ((7, (AV.int IntKind.i64 t7_23)) :: ((29, (AV.bool t29_31)) :: []))))) [] 0 ?_ (fun _ => ?_))
        · conv => whnf
          refine Or.inl ?_
          conv => whnf
          refine Or.inl ?_
          conv => whnf
          obtain ⟨y_32, hy, h8⟩ := bind_e h8
          refine ⟨_, _, (jobs_right_FC F y_28 y_32 hy), Or.inl ⟨rfl, rfl, ?_⟩⟩
          conv => whnf
          refine brn_i (fun hb => ?_) (fun hb => ?_)
          · replace h8 := cond_t h8 hb
            conv => whnf
            refine And.intro (by kernel_rfl) ?_
            conv => whnf
            obtain rfl := Option.some.inj h8
            exact end_i trivial [] rfl rfl rfl
          · replace h8 := cond_f h8 hb
            conv => whnf
            refine brn_i (fun hb => ?_) (fun hb => ?_)
            · replace h8 := cond_t h8 hb
              conv => whnf
              obtain ⟨hg, h8⟩ := grd_e h8
              refine And.intro hg ?_
              conv => whnf
              obtain ⟨y_33, hy, h8⟩ := bind_e h8
              refine opt_i (api_Job.c y_33) (getE rfl hy) ?_
              conv => whnf
              refine And.intro (by kernel_rfl) ?_
              conv => whnf
              obtain rfl := Option.some.inj h8
              exact end_i trivial [] rfl rfl rfl
            · replace h8 := cond_f h8 hb
              conv => whnf
              refine And.intro (by kernel_rfl) ?_
              conv => whnf
              obtain rfl := Option.some.inj h8
              exact end_i trivial [] rfl rfl rfl
        · conv => whnf
          refine Or.inl ?_
          conv => whnf
          refine brn_i (fun hb => ?_) (fun hb => ?_)
          · replace k8 := cond_t k8 hb
            conv => whnf
            obtain rfl := Option.some.inj k8
            obtain rfl := Option.some.inj k4
            exact rfl
          · replace k8 := cond_f k8 hb
            conv => whnf
            exact round_i (n_22, (IntKind.wrap IntKind.i64 (t7_23 + (1 : Int)))) [] k8 (Nat.lt_succ_self _) rfl rfl rfl
      · replace h4 := cond_f h4 (by first | exact hb | (simp; done) | simpa using hb | simpa [chunk] using hb)
        conv => whnf
        obtain rfl := Option.some.inj h4
        exact end_i rfl [] rfl rfl rfl
  · replace k4 := elim_e hR k4
    generalize outR o4 = v at k4 ⊢
    conv => whnf
    obtain rfl := Option.some.inj k4
    exact rfl

theorem jobs_no_FC {ml : Int} (F : Nat) (e : Int) (r : api_Result) (h : jobs_no F e = some r) : FC Tryz.prog (GM ml) 18 [] [(AV.int IntKind.i64 e)] (.agg (api_Result.c r)) [] := by
  refine FC_of 2000 Tryz.func18 rfl (by kernel_rfl) mixed (by show 1 ≤ 5; decide) ?_
  unfold jobs_no at h
  conv => whnf
  obtain rfl := Option.some.inj h
  exact rfl

theorem slices_Clone___api_Job_api_Job__FC0 {ml : Int} (F : Nat) (s r : List api_Job) (h : slices_Clone___api_Job_api_Job_ F s = some r) : FC Tryz.prog (GM ml) 14 [] [(.sl (List.map api_Job.c s))] (.osw 0 8) [(0, .rows true (List.map api_Job.c r))] := by
  unfold slices_Clone___api_Job_api_Job_ at h
  obtain ⟨hg, h⟩ := grd_e h
  obtain rfl := Option.some.inj h
  refine FC_ofG 2000 Tryz.func14 rfl (by kernel_rfl) mixed (by show 1 ≤ 8; decide) (by decide) rfl ?_
  conv => whnf
  refine Or.inl ?_
  conv => whnf
  refine And.intro (fun hp => ?_) ?_
  · conv => whnf
    exact endG_i [(0, 32)] rfl (by rw [hp]; rfl) rfl
  · conv => whnf
    refine And.intro (LenAll.map (fun _ => rfl)) ?_
    conv => whnf
    refine And.intro LenAll.nil ?_
    conv => whnf
    refine And.intro (show 0 + (List.map api_Job.c s).length ≤ LIM by simpa using hg) ?_
    conv => whnf
    exact endG_i [(0, 48)] rfl rfl rfl

theorem jobs_commands_FC0 {ml : Int} (F : Nat) (r : (Int × Int × Int × Int × Int × Int × Int × Int)) (h : jobs_commands F = some r) : FC Tryz.prog (GM ml) 19 [] [] (AV.mapo 0) ((0, (AO.mapo true (((AV.int IntKind.i64 r.1), (AV.fn 22 [])) :: (((AV.int IntKind.i64 r.2.1), (AV.fn 23 [])) :: (((AV.int IntKind.i64 r.2.2.1), (AV.fn 24 [])) :: (((AV.int IntKind.i64 r.2.2.2.1), (AV.fn 25 [])) :: (((AV.int IntKind.i64 r.2.2.2.2.1), (AV.fn 26 [])) :: (((AV.int IntKind.i64 r.2.2.2.2.2.1), (AV.fn 27 [])) :: (((AV.int IntKind.i64 r.2.2.2.2.2.2.1), (AV.fn 28 [])) :: (((AV.int IntKind.i64 r.2.2.2.2.2.2.2), (AV.fn 29 [])) :: [])))))))))) :: []) := by
  refine FC_ofG 2000 Tryz.func19 rfl (by kernel_rfl) mixed (by show 0 ≤ 3; decide) (by show 0 ≤ W; decide) rfl ?_
  unfold jobs_commands at h
  conv => whnf
  refine And.intro (by kernel_rfl) ?_
  conv => whnf
  refine Or.inl ?_
  conv => whnf
  refine And.intro (by decide) ?_
  conv => whnf
  refine And.intro (by kernel_rfl) ?_
  conv => whnf
  refine Or.inl ?_
  conv => whnf
  refine And.intro (by decide) ?_
  conv => whnf
  refine And.intro (by kernel_rfl) ?_
  conv => whnf
  refine Or.inl ?_
  conv => whnf
  refine And.intro (by decide) ?_
  conv => whnf
  refine And.intro (by kernel_rfl) ?_
  conv => whnf
  refine Or.inl ?_
  conv => whnf
  refine And.intro (by decide) ?_
  conv => whnf
  refine And.intro (by kernel_rfl) ?_
  conv => whnf
  refine Or.inl ?_
  conv => whnf
  refine And.intro (by decide) ?_
  conv => whnf
  refine And.intro (by kernel_rfl) ?_
  conv => whnf
  refine Or.inl ?_
  conv => whnf
  refine And.intro (by decide) ?_
  conv => whnf
  refine And.intro (by kernel_rfl) ?_
  conv => whnf
  refine Or.inl ?_
  conv => whnf
  refine And.intro (by decide) ?_
  conv => whnf
  refine And.intro (by kernel_rfl) ?_
  conv => whnf
  refine Or.inl ?_
  conv => whnf
  refine And.intro (by decide) ?_
  conv => whnf
  obtain rfl := Option.some.inj h
  exact endG_i [(0, 16)] rfl rfl rfl

theorem cmp_isNaN_string__FC {ml : Int} (F : Nat) (x : (List UInt8)) (r : Bool) (h : cmp_isNaN_string_ F x = some r) : FC Tryz.prog (GM ml) 68 [] [(AV.str x)] (.bool r) [] := by
  refine FC_of 2000 Tryz.func68 rfl (by kernel_rfl) mixed (by show 1 ≤ 6; decide) ?_
  unfold cmp_isNaN_string_ at h
  conv => whnf
  obtain rfl := Option.some.inj h
  exact rfl

theorem cmp_Compare_string__FC {ml : Int} (F : Nat) (x : (List UInt8)) (y : (List UInt8)) (r : Int) (h : cmp_Compare_string_ F x y = some r) : FC Tryz.prog (GM ml) 54 [] [(AV.str x), (AV.str y)] (.int IntKind.i64 r) [] := by
  refine FC_of 2000 Tryz.func54 rfl (by kernel_rfl) mixed (by show 2 ≤ 20; decide) ?_
  unfold cmp_Compare_string_ at h
  conv => whnf
  refine Or.inl ?_
  conv => whnf
  obtain ⟨y_0, hy, h⟩ := bind_e h
  refine ⟨_, _, (cmp_isNaN_string__FC F x y_0 hy), Or.inl ⟨rfl, rfl, ?_⟩⟩
  conv => whnf
  refine Or.inl ?_
  conv => whnf
  obtain ⟨y_1, hy, h⟩ := bind_e h
  refine ⟨_, _, (cmp_isNaN_string__FC F y y_1 hy), Or.inl ⟨rfl, rfl, ?_⟩⟩
  conv => whnf
  refine Or.inl ?_
  conv => whnf
  refine brn_i (fun hb => ?_) (fun hb => ?_)
  · replace h := cond_t h hb
    conv => whnf
    refine Or.inl ?_
    conv => whnf
    refine brn_i (fun hb => ?_) (fun hb => ?_)
    · replace h := cond_t h hb
      conv => whnf
      obtain rfl := Option.some.inj h
      exact rfl
    · replace h := cond_f h hb
      conv => whnf
      obtain rfl := Option.some.inj h
      exact rfl
  · replace h := cond_f h hb
    conv => whnf
    refine Or.inl ?_
    conv => whnf
    refine brn_i (fun hb => ?_) (fun hb => ?_)
    · replace h := cond_t h hb
      conv => whnf
      obtain rfl := Option.some.inj h
      exact rfl
    · replace h := cond_f h hb
      conv => whnf
      refine Or.inl ?_
      conv => whnf
      refine brn_i (fun hb => ?_) (fun hb => ?_)
      · replace h := cond_t h hb
        conv => whnf
        obtain rfl := Option.some.inj h
        exact rfl
      · replace h := cond_f h hb
        conv => whnf
        refine Or.inl ?_
        conv => whnf
        refine brn_i (fun hb => ?_) (fun hb => ?_)
        · replace h := cond_t h hb
          conv => whnf
          obtain rfl := Option.some.inj h
          exact rfl
        · replace h := cond_f h hb
          conv => whnf
          obtain rfl := Option.some.inj h
          exact rfl

theorem __jobs_table__find_1_FC {ml : Int} (F : Nat) (j : api_Job) (name : (List UInt8)) (r : Int) (h : __jobs_table__find_1 F j name = some r) : FC Tryz.prog (GM ml) 53 [] [(AV.agg (api_Job.c j)), (AV.str name)] (.int IntKind.i64 r) [] := by
  refine FC_of 2000 Tryz.func53 rfl (by kernel_rfl) mixed (by show 2 ≤ 9; decide) ?_
  unfold __jobs_table__find_1 at h
  conv => whnf
  refine Or.inl ?_
  conv => whnf
  obtain ⟨y_0, hy, h⟩ := bind_e h
  refine ⟨_, _, (cmp_Compare_string__FC F j.Name name y_0 hy), Or.inl ⟨rfl, rfl, ?_⟩⟩
  conv => whnf
  obtain rfl := Option.some.inj h
  exact rfl

theorem slices_BinarySearchFunc___api_Job_api_Job_string__FC {ml : Int} (F : Nat) (x : (List api_Job)) (target : (List UInt8)) (r : (Int × Bool)) (h : slices_BinarySearchFunc___api_Job_api_Job_string_ F x target = some r) : FC Tryz.prog (GM ml) 52 [] [(AV.sl (List.map api_Job.c x)), (AV.str target), (AV.fn 53 [])] (.tup [(.int IntKind.i64 r.1), (.bool r.2)]) [] := by
  refine FC_of 2000 Tryz.func52 rfl (by kernel_rfl) mixed (by show 3 ≤ 49; decide) ?_
  unfold slices_BinarySearchFunc___api_Job_api_Job_string_ at h
  conv => whnf
  obtain ⟨i_4, h0, k0⟩ := bind_e h
  refine Or.inr (joins_i True ((0, (AV.sl (List.map api_Job.c x))) :: ((1, (AV.str target)) :: ((2, (AV.fn 53 [])) :: ((8, (AV.int IntKind.i64 (@Nat.cast Int instNatCastInt (List.length (List.map api_Job.c x))))) :: ((9, (AV.int IntKind.i64 i_4)) :: []))))) [] 0 ?_ (fun _ => ?_))
  · conv => whnf
    refine Or.inl ?_
    conv => whnf
    refine loops_i (α := (Nat × Int × Int)) (fun xq => ((0, (AV.sl (List.map api_Job.c x))) :: ((1, (AV.str target)) :: ((2, (AV.fn 53 [])) :: ((8, (AV.int IntKind.i64 (@Nat.cast Int instNatCastInt (List.length (List.map api_Job.c x))))) :: ((9, (AV.int IntKind.i64 xq.2.1)) :: ((10, (AV.int IntKind.i64 xq.2.2)) :: []))))))) (fun xq => []) 0 (fun xq => slices_BinarySearchFunc___api_Job_api_Job_string__l0 F x target xq.1 xq.2.1 xq.2.2 = some i_4) (fun xq => xq.1) (F, (0 : Int), (@Nat.cast Int instNatCastInt (List.length (List.map api_Job.c x)))) [] h0 rfl rfl rfl ?_
    rintro ⟨n_7, i_8, j_9⟩ h0
    replace h0 : slices_BinarySearchFunc___api_Job_api_Job_string__l0 F x target n_7 i_8 j_9 = some i_4 := h0
    cases n_7 with
    | zero => rw [slices_BinarySearchFunc___api_Job_api_Job_string__l0.eq_1] at h0; cases h0
    | succ n_7 =>
      rw [slices_BinarySearchFunc___api_Job_api_Job_string__l0.eq_2] at h0
      conv => whnf
      refine Or.inl ?_
      conv => whnf
      refine brn_i (fun hb => ?_) (fun hb => ?_)
      · replace h0 := cond_t h0 hb
        conv => whnf
        refine Or.inl ?_
        conv => whnf
        refine And.intro (by decide) ?_
        conv => whnf
        obtain ⟨hg, h0⟩ := grd_e h0
        refine And.intro hg ?_
        conv => whnf
        obtain ⟨y_10, hy, h0⟩ := bind_e h0
        refine opt_i (api_Job.c y_10) (getE rfl hy) ?_
        conv => whnf
        refine Or.inl ?_
        conv => whnf
        obtain ⟨y_11, hy, h0⟩ := bind_e h0
        refine ⟨_, _, (__jobs_table__find_1_FC F y_10 target y_11 hy), Or.inl ⟨rfl, rfl, ?_⟩⟩
        conv => whnf
        refine Or.inl ?_
        conv => whnf
        refine brn_i (fun hb => ?_) (fun hb => ?_)
        · replace h0 := cond_t h0 hb
          conv => whnf
          exact round_i (n_7, (IntKind.wrap IntKind.i64 ((IntKind.wrap IntKind.i64 (@Int.fdiv (IntKind.wrap IntKind.u64 (IntKind.wrap IntKind.i64 (i_8 + j_9))) ((2 : Int) ^ (min (Int.toNat (1 : Int)) 64)))) + (1 : Int))), j_9) [] h0 (Nat.lt_succ_self _) rfl rfl rfl
        · replace h0 := cond_f h0 hb
          conv => whnf
          exact round_i (n_7, i_8, (IntKind.wrap IntKind.i64 (@Int.fdiv (IntKind.wrap IntKind.u64 (IntKind.wrap IntKind.i64 (i_8 + j_9))) ((2 : Int) ^ (min (Int.toNat (1 : Int)) 64))))) [] h0 (Nat.lt_succ_self _) rfl rfl rfl
      · replace h0 := cond_f h0 hb
        conv => whnf
        obtain rfl := Option.some.inj h0
        exact end_i trivial [] rfl rfl rfl
  · conv => whnf
    refine Or.inl ?_
    conv => whnf
    refine brn_i (fun hb => ?_) (fun hb => ?_)
    · replace k0 := cond_t k0 (by first | exact hb | (simp; done) | simpa using hb | simpa [chunk] using hb)
      conv => whnf
      obtain ⟨hg, k0⟩ := grd_e k0
      refine And.intro hg ?_
      conv => whnf
      obtain ⟨y_12, hy, k0⟩ := bind_e k0
      refine opt_i (api_Job.c y_12) (getE rfl hy) ?_
      conv => whnf
      refine Or.inl ?_
      conv => whnf
      obtain ⟨y_13, hy, k0⟩ := bind_e k0
      refine ⟨_, _, (__jobs_table__find_1_FC F y_12 target y_13 hy), Or.inl ⟨rfl, rfl, ?_⟩⟩
      conv => whnf
      obtain rfl := Option.some.inj k0
      exact rfl
    · replace k0 := cond_f k0 (by first | exact hb | (simp; done) | simpa using hb | simpa [chunk] using hb)
      conv => whnf
      obtain rfl := Option.some.inj k0
      exact rfl

theorem jobs_one_FC0 {ml : Int} (F : Nat) (j : api_Job) (r : (Int × Int × (List api_Job))) (h : jobs_one F j = some r) : FC Tryz.prog (GM ml) 39 [] [(AV.agg (api_Job.c j))] (AV.agg ((AV.int IntKind.i64 r.1) :: ((AV.int IntKind.i64 r.2.1) :: ((AV.osw 0 (@GetElem.getElem (@Array TypeInfo) Nat TypeInfo (fun (xs_13 : (@Array TypeInfo)) => (fun (i_13 : Nat) => (i_13 < (@Array.size TypeInfo xs_13)))) (@Array.instGetElemNatLtSize TypeInfo) Proofs.Tryz.prog.toTables.types 55 (@Nat.le_of_ble_eq_true (Nat.succ 55) (@Array.size TypeInfo Proofs.Tryz.prog.toTables.types) (@rfl Bool true))).size) :: [])))) ((0, (AO.rows true (List.map api_Job.c r.2.2))) :: []) := by
  refine FC_ofG 2000 Tryz.func39 rfl (by kernel_rfl) mixed (by show 1 ≤ 6; decide) (by show 0 ≤ W; decide) rfl ?_
  unfold jobs_one at h
  conv => whnf
  obtain rfl := Option.some.inj h
  exact endG_i [(0, 32)] rfl (cons2 (congrArg (fun X => some (AO.rows true X)) (by first | (simp; done) | rfl | (rw [List.map_append]; rfl))) rfl) rfl

theorem slices_Delete___api_Job_api_Job__FC {ml : Int} (F : Nat) (s : (List api_Job)) (i : Int) (j : Int) (r : (List api_Job)) (h : slices_Delete___api_Job_api_Job_ F s i j = some r) : FC Tryz.prog (GM ml) 40 [] [(AV.sl (List.map api_Job.c s)), (AV.int IntKind.i64 i), (AV.int IntKind.i64 j)] (.sl (List.map api_Job.c r)) [] := by
  refine FC_of 2000 Tryz.func40 rfl (by kernel_rfl) mixed (by show 3 ≤ 33; decide) ?_
  unfold slices_Delete___api_Job_api_Job_ at h
  conv => whnf
  cases h

theorem due_seek_FC0 {ml : Int} (F : Nat) (c : api_Cron) (z : api_Zone) (r : (Int × Int × Int × Int × Int × Bool × Bool × Int)) (h : due_seek F c z = some (Sum.inl r)) : FC Tryz.prog (GM ml) 70 [] [(AV.agg (api_Cron.c c)), (AV.agg (api_Zone.c z))] (AV.tup ((AV.agg ((AV.int IntKind.u64 r.1) :: ((AV.int IntKind.u64 r.2.1) :: ((AV.int IntKind.u64 r.2.2.1) :: ((AV.int IntKind.u64 r.2.2.2.1) :: ((AV.int IntKind.u64 r.2.2.2.2.1) :: ((AV.bool r.2.2.2.2.2.1) :: ((AV.bool r.2.2.2.2.2.2.1) :: ((AV.con (Value.pointer none)) :: []))))))))) :: ((AV.int IntKind.i64 r.2.2.2.2.2.2.2) :: []))) [] := by
  refine FC_ofG 2000 Tryz.func70 rfl (by kernel_rfl) mixed (by show 2 ≤ 21; decide) (by show 0 ≤ W; decide) rfl ?_
  unfold due_seek at h
  conv => whnf
  refine Or.inl ?_
  conv => whnf
  obtain ⟨y_0, hy, h⟩ := bind_e h
  refine ⟨_, _, (cron_Check_FC F c y_0 hy), Or.inl ⟨rfl, rfl, ?_⟩⟩
  conv => whnf
  refine Or.inl ?_
  conv => whnf
  refine brn_i (fun hb => ?_) (fun hb => ?_)
  · replace h := cond_t h hb
    conv => whnf
    obtain rfl := Sum.inl.inj (Option.some.inj h)
    exact endG_i [] rfl rfl rfl
  · replace h := cond_f h hb
    conv => whnf
    refine Or.inl ?_
    conv => whnf
    obtain ⟨y_1, hy, h⟩ := bind_e h
    rcases y_1 with y_1 | y_1
    · replace h := elim_l h
      refine ⟨_, _, (FC_close (zone_Make_FC0 F z y_1 hy) rfl), Or.inr ⟨[], rfl, ?_⟩⟩
      conv => whnf
      obtain rfl := Sum.inl.inj (Option.some.inj h)
      exact endG_i [] rfl rfl rfl
    · replace h := elim_r h
      refine ⟨_, _, (FC_close (zone_Make_FC1 F z y_1 hy) rfl), Or.inr ⟨[], rfl, ?_⟩⟩
      conv => whnf
      cases (Option.some.inj h)
theorem due_seek_FC1 {ml : Int} (F : Nat) (c : api_Cron) (z : api_Zone) (r : (Int × Int × Int × Int × Int × Bool × Bool × zone_Zone × Int)) (h : due_seek F c z = some (Sum.inr r)) : FC Tryz.prog (GM ml) 70 [] [(AV.agg (api_Cron.c c)), (AV.agg (api_Zone.c z))] (AV.tup ((AV.agg ((AV.int IntKind.u64 r.1) :: ((AV.int IntKind.u64 r.2.1) :: ((AV.int IntKind.u64 r.2.2.1) :: ((AV.int IntKind.u64 r.2.2.2.1) :: ((AV.int IntKind.u64 r.2.2.2.2.1) :: ((AV.bool r.2.2.2.2.2.1) :: ((AV.bool r.2.2.2.2.2.2.1) :: ((AV.rp (zone_Zone.c r.2.2.2.2.2.2.2.1) 0) :: []))))))))) :: ((AV.int IntKind.i64 r.2.2.2.2.2.2.2.2) :: []))) [] := by
  refine FC_ofG 2000 Tryz.func70 rfl (by kernel_rfl) mixed (by show 2 ≤ 21; decide) (by show 0 ≤ W; decide) rfl ?_
  unfold due_seek at h
  conv => whnf
  refine Or.inl ?_
  conv => whnf
  obtain ⟨y_0, hy, h⟩ := bind_e h
  refine ⟨_, _, (cron_Check_FC F c y_0 hy), Or.inl ⟨rfl, rfl, ?_⟩⟩
  conv => whnf
  refine Or.inl ?_
  conv => whnf
  refine brn_i (fun hb => ?_) (fun hb => ?_)
  · replace h := cond_t h hb
    conv => whnf
    cases (Option.some.inj h)
  · replace h := cond_f h hb
    conv => whnf
    refine Or.inl ?_
    conv => whnf
    obtain ⟨y_1, hy, h⟩ := bind_e h
    rcases y_1 with y_1 | y_1
    · replace h := elim_l h
      refine ⟨_, _, (FC_close (zone_Make_FC0 F z y_1 hy) rfl), Or.inr ⟨[], rfl, ?_⟩⟩
      conv => whnf
      cases (Option.some.inj h)
    · replace h := elim_r h
      refine ⟨_, _, (FC_close (zone_Make_FC1 F z y_1 hy) rfl), Or.inr ⟨[], rfl, ?_⟩⟩
      conv => whnf
      obtain rfl := Sum.inr.inj (Option.some.inj h)
      exact endG_i [] rfl rfl rfl

theorem __zone_Zone__Offset_FC {ml : Int} (F : Nat) (t : Int) (r : (Int × Int)) (h : __zone_Zone__Offset F t = some r) : FC Tryz.prog (GM ml) 102 [] [(AV.con (Value.pointer none)), (AV.int IntKind.i64 t)] (.tup [(.int IntKind.i64 r.1), (.int IntKind.i64 r.2)]) [] := by
  refine FC_of 2000 Tryz.func102 rfl (by kernel_rfl) mixed (by show 2 ≤ 24; decide) ?_
  unfold __zone_Zone__Offset at h
  conv => whnf
  refine Or.inl ?_
  conv => whnf
  obtain rfl := Option.some.inj h
  exact rfl

theorem civil_number_FC {ml : Int} (F : Nat) (year : Int) (month : Int) (day : Int) (r : Int) (h : civil_number F year month day = some r) : FC Tryz.prog (GM ml) 125 [] [(AV.int IntKind.i64 year), (AV.int IntKind.i64 month), (AV.int IntKind.i64 day)] (.int IntKind.i64 r) [] := by
  refine FC_of 2000 Tryz.func125 rfl (by kernel_rfl) mixed (by show 3 ≤ 37; decide) ?_
  unfold civil_number at h
  conv => whnf
  obtain ⟨o0, h0, k0⟩ := bind_e h
  refine Or.inr (joins_i True ((2, (AV.int IntKind.i64 day)) :: ((7, (AV.int IntKind.i64 o0.1)) :: ((8, (AV.int IntKind.i64 o0.2)) :: []))) [] 0 ?_ (fun _ => ?_))
  · conv => whnf
    refine Or.inl ?_
    conv => whnf
    refine brn_i (fun hb => ?_) (fun hb => ?_)
    · replace h0 := cond_t h0 hb
      conv => whnf
      obtain rfl := Option.some.inj h0
      exact end_i trivial [] rfl rfl rfl
    · replace h0 := cond_f h0 hb
      conv => whnf
      obtain rfl := Option.some.inj h0
      exact end_i trivial [] rfl rfl rfl
  · obtain ⟨y_0, m_1⟩ := o0
    conv => whnf
    refine And.intro (by decide) ?_
    conv => whnf
    refine And.intro (by decide) ?_
    conv => whnf
    refine And.intro (by decide) ?_
    conv => whnf
    refine And.intro (by decide) ?_
    conv => whnf
    obtain rfl := Option.some.inj k0
    exact rfl

theorem civil_From_FC {ml : Int} (F : Nat) (t : Int) (r : (api_Civil × Int)) (h : civil_From F t = some r) : FC Tryz.prog (GM ml) 103 [] [(AV.int IntKind.i64 t)] (.tup [(.agg (api_Civil.c r.1)), (.int IntKind.i64 r.2)]) [] := by
  refine FC_of 2000 Tryz.func103 rfl (by kernel_rfl) mixed (by show 1 ≤ 73; decide) ?_
  unfold civil_From at h
  conv => whnf
  obtain ⟨t12_0, h0, k0⟩ := bind_e h
  refine Or.inr (joins_i True ((0, (AV.int IntKind.i64 t)) :: ((2, (AV.ptr 0 0 0)) :: ((12, (AV.bool t12_0)) :: []))) ((0, (AO.rows false (((AV.int IntKind.i64 (0 : Int)) :: ((AV.int IntKind.i64 (0 : Int)) :: ((AV.int IntKind.i64 (0 : Int)) :: ((AV.int IntKind.i64 (0 : Int)) :: ((AV.int IntKind.i64 (0 : Int)) :: ((AV.int IntKind.i64 (0 : Int)) :: [])))))) :: []))) :: []) 1 ?_ (fun _ => ?_))
  · conv => whnf
    refine Or.inl ?_
    conv => whnf
    refine brn_i (fun hb => ?_) (fun hb => ?_)
    · replace h0 := cond_t h0 hb
      conv => whnf
      obtain rfl := Option.some.inj h0
      exact end_i trivial [(0, 8)] rfl rfl rfl
    · replace h0 := cond_f h0 hb
      conv => whnf
      obtain rfl := Option.some.inj h0
      exact end_i trivial [(0, 8)] rfl rfl rfl
  · conv => whnf
    refine Or.inl ?_
    conv => whnf
    refine brn_i (fun hb => ?_) (fun hb => ?_)
    · replace k0 := cond_t k0 hb
      conv => whnf
      obtain rfl := Option.some.inj k0
      exact rfl
    · replace k0 := cond_f k0 hb
      conv => whnf
      refine And.intro (by decide) ?_
      conv => whnf
      refine And.intro (by decide) ?_
      conv => whnf
      refine And.intro (by decide) ?_
      conv => whnf
      refine And.intro (by decide) ?_
      conv => whnf
      refine And.intro (by decide) ?_
      conv => whnf
      refine And.intro (by decide) ?_
      conv => whnf
      obtain ⟨c_5, h3, k3⟩ := bind_e k0
      refine Or.inr (joins_i True ((2, (AV.ptr 0 0 0)) :: ((4, (AV.int IntKind.i64 (IntKind.wrap IntKind.i64 (@Int.tdiv t (1440 : Int))))) :: ((6, (AV.ptr 1 0 0)) :: []))) ((0, (AO.rows false (((AV.int IntKind.i64 (0 : Int)) :: ((AV.int IntKind.i64 (0 : Int)) :: ((AV.int IntKind.i64 (0 : Int)) :: ((AV.int IntKind.i64 (0 : Int)) :: ((AV.int IntKind.i64 (0 : Int)) :: ((AV.int IntKind.i64 (0 : Int)) :: [])))))) :: []))) :: ((1, (AO.rows false (((AV.int IntKind.i64 c_5) :: ((AV.int IntKind.i64 (0 : Int)) :: ((AV.int IntKind.i64 (0 : Int)) :: ((AV.int IntKind.i64 (IntKind.wrap IntKind.i64 (@Int.tdiv (@Int.tmod t (1440 : Int)) (60 : Int)))) :: ((AV.int IntKind.i64 (@Int.tmod (@Int.tmod t (1440 : Int)) (60 : Int))) :: ((AV.int IntKind.i64 (@Int.tmod (IntKind.wrap IntKind.i64 ((IntKind.wrap IntKind.i64 (@Int.tdiv t (1440 : Int))) + (4 : Int))) (7 : Int))) :: [])))))) :: []))) :: [])) 2 ?_ (fun _ => ?_))
      · conv => whnf
        refine Or.inl ?_
        conv => whnf
        refine loops_i (α := (Nat × Int)) (fun xq => ((2, (AV.ptr 0 0 0)) :: ((4, (AV.int IntKind.i64 (IntKind.wrap IntKind.i64 (@Int.tdiv t (1440 : Int))))) :: ((6, (AV.ptr 1 0 0)) :: [])))) (fun xq => ((0, (AO.rows false (((AV.int IntKind.i64 (0 : Int)) :: ((AV.int IntKind.i64 (0 : Int)) :: ((AV.int IntKind.i64 (0 : Int)) :: ((AV.int IntKind.i64 (0 : Int)) :: ((AV.int IntKind.i64 (0 : Int)) :: ((AV.int IntKind.i64 (0 : Int)) :: [])))))) :: []))) :: ((1, (AO.rows false (((AV.int IntKind.i64 xq.2) :: ((AV.int IntKind.i64 (0 : Int)) :: ((AV.int IntKind.i64 (0 : Int)) :: ((AV.int IntKind.i64 (IntKind.wrap IntKind.i64 (@Int.tdiv (@Int.tmod t (1440 : Int)) (60 : Int)))) :: ((AV.int IntKind.i64 (@Int.tmod (@Int.tmod t (1440 : Int)) (60 : Int))) :: ((AV.int IntKind.i64 (@Int.tmod (IntKind.wrap IntKind.i64 ((IntKind.wrap IntKind.i64 (@Int.tdiv t (1440 : Int))) + (4 : Int))) (7 : Int))) :: [])))))) :: []))) :: []))) 2 (fun xq => civil_From_l0 F t xq.1 xq.2 = some c_5) (fun xq => xq.1) (F, (IntKind.wrap IntKind.i64 ((1970 : Int) + (IntKind.wrap IntKind.i64 (@Int.tdiv (IntKind.wrap IntKind.i64 (@Int.tdiv t (1440 : Int))) (366 : Int)))))) [(0, 0), (1, 113)] h3 rfl rfl rfl ?_
        rintro ⟨n_8, c_9⟩ h3
        replace h3 : civil_From_l0 F t n_8 c_9 = some c_5 := h3
        cases n_8 with
        | zero => rw [civil_From_l0.eq_1] at h3; cases h3
        | succ n_8 =>
          rw [civil_From_l0.eq_2] at h3
          conv => whnf
          obtain ⟨t40_11, h5, k5⟩ := bind_e h3
          refine Or.inr (joins_i True ((2, (AV.ptr 0 0 0)) :: ((4, (AV.int IntKind.i64 (IntKind.wrap IntKind.i64 (@Int.tdiv t (1440 : Int))))) :: ((6, (AV.ptr 1 0 0)) :: ((40, (AV.bool t40_11)) :: [])))) ((0, (AO.rows false (((AV.int IntKind.i64 (0 : Int)) :: ((AV.int IntKind.i64 (0 : Int)) :: ((AV.int IntKind.i64 (0 : Int)) :: ((AV.int IntKind.i64 (0 : Int)) :: ((AV.int IntKind.i64 (0 : Int)) :: ((AV.int IntKind.i64 (0 : Int)) :: [])))))) :: []))) :: ((1, (AO.rows false (((AV.int IntKind.i64 c_9) :: ((AV.int IntKind.i64 (0 : Int)) :: ((AV.int IntKind.i64 (0 : Int)) :: ((AV.int IntKind.i64 (IntKind.wrap IntKind.i64 (@Int.tdiv (@Int.tmod t (1440 : Int)) (60 : Int)))) :: ((AV.int IntKind.i64 (@Int.tmod (@Int.tmod t (1440 : Int)) (60 : Int))) :: ((AV.int IntKind.i64 (@Int.tmod (IntKind.wrap IntKind.i64 ((IntKind.wrap IntKind.i64 (@Int.tdiv t (1440 : Int))) + (4 : Int))) (7 : Int))) :: [])))))) :: []))) :: [])) 2 ?_ (fun _ => ?_))
          · conv => whnf
            refine Or.inl ?_
            conv => whnf
            refine brn_i (fun hb => ?_) (fun hb => ?_)
            · replace h5 := cond_t h5 hb
              conv => whnf
              refine Or.inl ?_
              conv => whnf
              obtain ⟨y_12, hy, h5⟩ := bind_e h5
              refine ⟨_, _, (civil_number_FC F (IntKind.wrap IntKind.i64 (c_9 + (1 : Int))) (1 : Int) (1 : Int) y_12 hy), Or.inl ⟨rfl, rfl, ?_⟩⟩
              conv => whnf
              obtain rfl := Option.some.inj h5
              exact end_i trivial [(0, 0), (1, 1)] rfl rfl rfl
            · replace h5 := cond_f h5 hb
              conv => whnf
              obtain rfl := Option.some.inj h5
              exact end_i trivial [(0, 0), (1, 1)] rfl rfl rfl
          · conv => whnf
            refine Or.inl ?_
            conv => whnf
            refine brn_i (fun hb => ?_) (fun hb => ?_)
            · replace k5 := cond_t k5 hb
              conv => whnf
              refine Or.inl ?_
              conv => whnf
              exact round_i (n_8, (IntKind.wrap IntKind.i64 (c_9 + (1 : Int)))) [(0, 0), (1, 1)] k5 (Nat.lt_succ_self _) rfl rfl rfl
            · replace k5 := cond_f k5 hb
              conv => whnf
              obtain rfl := Option.some.inj k5
              exact end_i trivial [(0, 0), (1, 1)] rfl rfl rfl
      · conv => whnf
        obtain ⟨c_17, h5, k5⟩ := bind_e k3
        refine Or.inr (joins_i True ((2, (AV.ptr 0 0 0)) :: ((4, (AV.int IntKind.i64 (IntKind.wrap IntKind.i64 (@Int.tdiv t (1440 : Int))))) :: ((6, (AV.ptr 1 0 0)) :: []))) ((0, (AO.rows false (((AV.int IntKind.i64 (0 : Int)) :: ((AV.int IntKind.i64 (0 : Int)) :: ((AV.int IntKind.i64 (0 : Int)) :: ((AV.int IntKind.i64 (0 : Int)) :: ((AV.int IntKind.i64 (0 : Int)) :: ((AV.int IntKind.i64 (0 : Int)) :: [])))))) :: []))) :: ((1, (AO.rows false (((AV.int IntKind.i64 c_5) :: ((AV.int IntKind.i64 c_17) :: ((AV.int IntKind.i64 (0 : Int)) :: ((AV.int IntKind.i64 (IntKind.wrap IntKind.i64 (@Int.tdiv (@Int.tmod t (1440 : Int)) (60 : Int)))) :: ((AV.int IntKind.i64 (@Int.tmod (@Int.tmod t (1440 : Int)) (60 : Int))) :: ((AV.int IntKind.i64 (@Int.tmod (IntKind.wrap IntKind.i64 ((IntKind.wrap IntKind.i64 (@Int.tdiv t (1440 : Int))) + (4 : Int))) (7 : Int))) :: [])))))) :: []))) :: [])) 2 ?_ (fun _ => ?_))
        · conv => whnf
          refine Or.inl ?_
          conv => whnf
          refine loops_i (α := (Nat × Int)) (fun xq => ((2, (AV.ptr 0 0 0)) :: ((4, (AV.int IntKind.i64 (IntKind.wrap IntKind.i64 (@Int.tdiv t (1440 : Int))))) :: ((6, (AV.ptr 1 0 0)) :: [])))) (fun xq => ((0, (AO.rows false (((AV.int IntKind.i64 (0 : Int)) :: ((AV.int IntKind.i64 (0 : Int)) :: ((AV.int IntKind.i64 (0 : Int)) :: ((AV.int IntKind.i64 (0 : Int)) :: ((AV.int IntKind.i64 (0 : Int)) :: ((AV.int IntKind.i64 (0 : Int)) :: [])))))) :: []))) :: ((1, (AO.rows false (((AV.int IntKind.i64 c_5) :: ((AV.int IntKind.i64 xq.2) :: ((AV.int IntKind.i64 (0 : Int)) :: ((AV.int IntKind.i64 (IntKind.wrap IntKind.i64 (@Int.tdiv (@Int.tmod t (1440 : Int)) (60 : Int)))) :: ((AV.int IntKind.i64 (@Int.tmod (@Int.tmod t (1440 : Int)) (60 : Int))) :: ((AV.int IntKind.i64 (@Int.tmod (IntKind.wrap IntKind.i64 ((IntKind.wrap IntKind.i64 (@Int.tdiv t (1440 : Int))) + (4 : Int))) (7 : Int))) :: [])))))) :: []))) :: []))) 2 (fun xq => civil_From_l1 F t c_5 xq.1 xq.2 = some c_17) (fun xq => xq.1) (F, (1 : Int)) [(0, 0), (1, 1)] h5 rfl rfl rfl ?_
          rintro ⟨n_20, c_21⟩ h5
          replace h5 : civil_From_l1 F t c_5 n_20 c_21 = some c_17 := h5
          cases n_20 with
          | zero => rw [civil_From_l1.eq_1] at h5; cases h5
          | succ n_20 =>
            rw [civil_From_l1.eq_2] at h5
            conv => whnf
            obtain ⟨t58_23, h7, k7⟩ := bind_e h5
            refine Or.inr (joins_i True ((2, (AV.ptr 0 0 0)) :: ((4, (AV.int IntKind.i64 (IntKind.wrap IntKind.i64 (@Int.tdiv t (1440 : Int))))) :: ((6, (AV.ptr 1 0 0)) :: ((58, (AV.bool t58_23)) :: [])))) ((0, (AO.rows false (((AV.int IntKind.i64 (0 : Int)) :: ((AV.int IntKind.i64 (0 : Int)) :: ((AV.int IntKind.i64 (0 : Int)) :: ((AV.int IntKind.i64 (0 : Int)) :: ((AV.int IntKind.i64 (0 : Int)) :: ((AV.int IntKind.i64 (0 : Int)) :: [])))))) :: []))) :: ((1, (AO.rows false (((AV.int IntKind.i64 c_5) :: ((AV.int IntKind.i64 c_21) :: ((AV.int IntKind.i64 (0 : Int)) :: ((AV.int IntKind.i64 (IntKind.wrap IntKind.i64 (@Int.tdiv (@Int.tmod t (1440 : Int)) (60 : Int)))) :: ((AV.int IntKind.i64 (@Int.tmod (@Int.tmod t (1440 : Int)) (60 : Int))) :: ((AV.int IntKind.i64 (@Int.tmod (IntKind.wrap IntKind.i64 ((IntKind.wrap IntKind.i64 (@Int.tdiv t (1440 : Int))) + (4 : Int))) (7 : Int))) :: [])))))) :: []))) :: [])) 2 ?_ (fun _ => ?_))
            · conv => whnf
              refine Or.inl ?_
              conv => whnf
              refine brn_i (fun hb => ?_) (fun hb => ?_)
              · replace h7 := cond_t h7 hb
                conv => whnf
                refine Or.inl ?_
                conv => whnf
                obtain ⟨y_24, hy, h7⟩ := bind_e h7
                refine ⟨_, _, (civil_number_FC F c_5 (IntKind.wrap IntKind.i64 (c_21 + (1 : Int))) (1 : Int) y_24 hy), Or.inl ⟨rfl, rfl, ?_⟩⟩
                conv => whnf
                obtain rfl := Option.some.inj h7
                exact end_i trivial [(0, 0), (1, 1)] rfl rfl rfl
              · replace h7 := cond_f h7 hb
                conv => whnf
                obtain rfl := Option.some.inj h7
                exact end_i trivial [(0, 0), (1, 1)] rfl rfl rfl
            · conv => whnf
              refine Or.inl ?_
              conv => whnf
              refine brn_i (fun hb => ?_) (fun hb => ?_)
              · replace k7 := cond_t k7 hb
                conv => whnf
                refine Or.inl ?_
                conv => whnf
                exact round_i (n_20, (IntKind.wrap IntKind.i64 (c_21 + (1 : Int)))) [(0, 0), (1, 1)] k7 (Nat.lt_succ_self _) rfl rfl rfl
              · replace k7 := cond_f k7 hb
                conv => whnf
                obtain rfl := Option.some.inj k7
                exact end_i trivial [(0, 0), (1, 1)] rfl rfl rfl
        · conv => whnf
          refine Or.inl ?_
          conv => whnf
          obtain ⟨y_25, hy, k5⟩ := bind_e k5
          refine ⟨_, _, (civil_number_FC F c_5 c_17 (1 : Int) y_25 hy), Or.inl ⟨rfl, rfl, ?_⟩⟩
          conv => whnf
          obtain rfl := Option.some.inj k5
          exact rfl

theorem __zone_Zone__Local_FC {ml : Int} (F : Nat) (t : Int) (r : (api_Civil × Int)) (h : __zone_Zone__Local F t = some r) : FC Tryz.prog (GM ml) 87 [] [(AV.con (Value.pointer none)), (AV.int IntKind.i64 t)] (.tup [(.agg (api_Civil.c r.1)), (.int IntKind.i64 r.2)]) [] := by
  refine FC_of 2000 Tryz.func87 rfl (by kernel_rfl) mixed (by show 2 ≤ 24; decide) ?_
  unfold __zone_Zone__Local at h
  conv => whnf
  refine Or.inl ?_
  conv => whnf
  obtain ⟨y_0, hy, h⟩ := bind_e h
  refine ⟨_, _, (__zone_Zone__Offset_FC F t y_0 hy), Or.inl ⟨rfl, rfl, ?_⟩⟩
  conv => whnf
  refine Or.inl ?_
  conv => whnf
  refine brn_i (fun hb => ?_) (fun hb => ?_)
  · replace h := cond_t h hb
    conv => whnf
    obtain rfl := Option.some.inj h
    exact rfl
  · replace h := cond_f h hb
    conv => whnf
    refine Or.inl ?_
    conv => whnf
    obtain ⟨y_1, hy, h⟩ := bind_e h
    refine ⟨_, _, (civil_From_FC F (IntKind.wrap IntKind.i64 (t + y_0.1)) y_1 hy), Or.inl ⟨rfl, rfl, ?_⟩⟩
    conv => whnf
    obtain rfl := Option.some.inj h
    exact rfl

theorem civil_leap_FC {ml : Int} (F : Nat) (year : Int) (r : Bool) (h : civil_leap F year = some r) : FC Tryz.prog (GM ml) 105 [] [(AV.int IntKind.i64 year)] (.bool r) [] := by
  refine FC_of 2000 Tryz.func105 rfl (by kernel_rfl) mixed (by show 1 ≤ 16; decide) ?_
  unfold civil_leap at h
  conv => whnf
  refine Or.inl ?_
  conv => whnf
  refine And.intro (by decide) ?_
  conv => whnf
  refine brn_i (fun hb => ?_) (fun hb => ?_)
  · replace h := cond_t h hb
    conv => whnf
    refine And.intro (by decide) ?_
    conv => whnf
    refine brn_i (fun hb => ?_) (fun hb => ?_)
    · replace h := cond_t h hb
      conv => whnf
      obtain rfl := Option.some.inj h
      exact rfl
    · replace h := cond_f h hb
      conv => whnf
      refine And.intro (by decide) ?_
      conv => whnf
      obtain rfl := Option.some.inj h
      exact rfl
  · replace h := cond_f h hb
    conv => whnf
    obtain rfl := Option.some.inj h
    exact rfl

theorem civil_Days_FC {ml : Int} (F : Nat) (year : Int) (month : Int) (r : Int) (h : civil_Days F year month = some r) : FC Tryz.prog (GM ml) 89 [] [(AV.int IntKind.i64 year), (AV.int IntKind.i64 month)] (.int IntKind.i64 r) [] := by
  refine FC_of 2000 Tryz.func89 rfl (by kernel_rfl) mixed (by show 2 ≤ 45; decide) ?_
  unfold civil_Days at h
  conv => whnf
  refine Or.inl ?_
  conv => whnf
  obtain ⟨t5_4, h3, k3⟩ := bind_e h
  refine Or.inr (joins_i True ((0, (AV.int IntKind.i64 year)) :: ((1, (AV.int IntKind.i64 month)) :: ((5, (AV.bool t5_4)) :: []))) [] 0 ?_ (fun _ => ?_))
  · conv => whnf
    refine Or.inl ?_
    conv => whnf
    refine brn_i (fun hb => ?_) (fun hb => ?_)
    · replace h3 := cond_t h3 hb
      conv => whnf
      obtain rfl := Option.some.inj h3
      exact end_i trivial [] rfl rfl rfl
    · replace h3 := cond_f h3 hb
      conv => whnf
      refine brn_i (fun hb => ?_) (fun hb => ?_)
      · replace h3 := cond_t h3 hb
        conv => whnf
        obtain rfl := Option.some.inj h3
        exact end_i trivial [] rfl rfl rfl
      · replace h3 := cond_f h3 hb
        conv => whnf
        refine brn_i (fun hb => ?_) (fun hb => ?_)
        · replace h3 := cond_t h3 hb
          conv => whnf
          obtain rfl := Option.some.inj h3
          exact end_i trivial [] rfl rfl rfl
        · replace h3 := cond_f h3 hb
          conv => whnf
          obtain rfl := Option.some.inj h3
          exact end_i trivial [] rfl rfl rfl
  · conv => whnf
    refine Or.inl ?_
    conv => whnf
    refine brn_i (fun hb => ?_) (fun hb => ?_)
    · replace k3 := cond_t k3 hb
      conv => whnf
      obtain rfl := Option.some.inj k3
      exact rfl
    · replace k3 := cond_f k3 hb
      conv => whnf
      obtain ⟨t20_6, h4, k4⟩ := bind_e k3
      refine Or.inr (joins_i True ((1, (AV.int IntKind.i64 month)) :: ((20, (AV.bool t20_6)) :: [])) [] 0 ?_ (fun _ => ?_))
      · conv => whnf
        refine Or.inl ?_
        conv => whnf
        refine brn_i (fun hb => ?_) (fun hb => ?_)
        · replace h4 := cond_t h4 hb
          conv => whnf
          refine Or.inl ?_
          conv => whnf
          obtain ⟨y_7, hy, h4⟩ := bind_e h4
          refine ⟨_, _, (civil_leap_FC F year y_7 hy), Or.inl ⟨rfl, rfl, ?_⟩⟩
          conv => whnf
          obtain rfl := Option.some.inj h4
          exact end_i trivial [] rfl rfl rfl
        · replace h4 := cond_f h4 hb
          conv => whnf
          obtain rfl := Option.some.inj h4
          exact end_i trivial [] rfl rfl rfl
      · conv => whnf
        refine Or.inl ?_
        conv => whnf
        refine brn_i (fun hb => ?_) (fun hb => ?_)
        · replace k4 := cond_t k4 hb
          conv => whnf
          obtain rfl := Option.some.inj k4
          exact rfl
        · replace k4 := cond_f k4 hb
          conv => whnf
          refine Or.inl ?_
          conv => whnf
          refine brn_i (fun hb => ?_) (fun hb => ?_)
          · replace k4 := cond_t k4 hb
            conv => whnf
            obtain rfl := Option.some.inj k4
            exact rfl
          · replace k4 := cond_f k4 hb
            conv => whnf
            obtain ⟨t30_8, h5, k5⟩ := bind_e k4
            refine Or.inr (joins_i True ((30, (AV.bool t30_8)) :: []) [] 0 ?_ (fun _ => ?_))
            · conv => whnf
              refine Or.inl ?_
              conv => whnf
              refine brn_i (fun hb => ?_) (fun hb => ?_)
              · replace h5 := cond_t h5 hb
                conv => whnf
                obtain rfl := Option.some.inj h5
                exact end_i trivial [] rfl rfl rfl
              · replace h5 := cond_f h5 hb
                conv => whnf
                refine brn_i (fun hb => ?_) (fun hb => ?_)
                · replace h5 := cond_t h5 hb
                  conv => whnf
                  obtain rfl := Option.some.inj h5
                  exact end_i trivial [] rfl rfl rfl
                · replace h5 := cond_f h5 hb
                  conv => whnf
                  refine brn_i (fun hb => ?_) (fun hb => ?_)
                  · replace h5 := cond_t h5 hb
                    conv => whnf
                    obtain rfl := Option.some.inj h5
                    exact end_i trivial [] rfl rfl rfl
                  · replace h5 := cond_f h5 hb
                    conv => whnf
                    obtain rfl := Option.some.inj h5
                    exact end_i trivial [] rfl rfl rfl
            · conv => whnf
              refine Or.inl ?_
              conv => whnf
              refine brn_i (fun hb => ?_) (fun hb => ?_)
              · replace k5 := cond_t k5 hb
                conv => whnf
                obtain rfl := Option.some.inj k5
                exact rfl
              · replace k5 := cond_f k5 hb
                conv => whnf
                obtain rfl := Option.some.inj k5
                exact rfl

theorem civil_To_FC {ml : Int} (F : Nat) (c : api_Civil) (r : (Int × Int)) (h : civil_To F c = some r) : FC Tryz.prog (GM ml) 104 [] [(AV.agg (api_Civil.c c))] (.tup [(.int IntKind.i64 r.1), (.int IntKind.i64 r.2)]) [] := by
  refine FC_of 2000 Tryz.func104 rfl (by kernel_rfl) mixed (by show 1 ≤ 52; decide) ?_
  unfold civil_To at h
  conv => whnf
  obtain ⟨t36_1, h0, k0⟩ := bind_e h
  refine Or.inr (joins_i True ((1, (AV.ptr 0 0 0)) :: ((36, (AV.bool t36_1)) :: [])) ((0, (AO.rows false (((AV.int IntKind.i64 c.Year) :: ((AV.int IntKind.i64 c.Month) :: ((AV.int IntKind.i64 c.Day) :: ((AV.int IntKind.i64 c.Hour) :: ((AV.int IntKind.i64 c.Minute) :: ((AV.int IntKind.i64 c.Week) :: [])))))) :: []))) :: []) 1 ?_ (fun _ => ?_))
  · conv => whnf
    refine Or.inl ?_
    conv => whnf
    refine brn_i (fun hb => ?_) (fun hb => ?_)
    · replace h0 := cond_t h0 hb
      conv => whnf
      refine And.intro (by kernel_rfl) ?_
      conv => whnf
      obtain rfl := Option.some.inj h0
      exact end_i trivial [(0, 8)] rfl rfl rfl
    · replace h0 := cond_f h0 hb
      conv => whnf
      refine Or.inl ?_
      conv => whnf
      obtain ⟨y_2, hy, h0⟩ := bind_e h0
      refine ⟨_, _, (civil_Days_FC F c.Year c.Month y_2 hy), Or.inl ⟨rfl, rfl, ?_⟩⟩
      conv => whnf
      refine brn_i (fun hb => ?_) (fun hb => ?_)
      · replace h0 := cond_t h0 hb
        conv => whnf
        refine And.intro (by kernel_rfl) ?_
        conv => whnf
        obtain rfl := Option.some.inj h0
        exact end_i trivial [(0, 8)] rfl rfl rfl
      · replace h0 := cond_f h0 hb
        conv => whnf
        refine brn_i (fun hb => ?_) (fun hb => ?_)
        · replace h0 := cond_t h0 hb
          conv => whnf
          refine And.intro (by kernel_rfl) ?_
          conv => whnf
          obtain rfl := Option.some.inj h0
          exact end_i trivial [(0, 8)] rfl rfl rfl
        · replace h0 := cond_f h0 hb
          conv => whnf
          refine brn_i (fun hb => ?_) (fun hb => ?_)
          · replace h0 := cond_t h0 hb
            conv => whnf
            refine And.intro (by kernel_rfl) ?_
            conv => whnf
            obtain rfl := Option.some.inj h0
            exact end_i trivial [(0, 8)] rfl rfl rfl
          · replace h0 := cond_f h0 hb
            conv => whnf
            refine brn_i (fun hb => ?_) (fun hb => ?_)
            · replace h0 := cond_t h0 hb
              conv => whnf
              refine And.intro (by kernel_rfl) ?_
              conv => whnf
              obtain rfl := Option.some.inj h0
              exact end_i trivial [(0, 8)] rfl rfl rfl
            · replace h0 := cond_f h0 hb
              conv => whnf
              refine And.intro (by kernel_rfl) ?_
              conv => whnf
              obtain rfl := Option.some.inj h0
              exact end_i trivial [(0, 8)] rfl rfl rfl
  · conv => whnf
    refine Or.inl ?_
    conv => whnf
    refine brn_i (fun hb => ?_) (fun hb => ?_)
    · replace k0 := cond_t k0 hb
      conv => whnf
      obtain rfl := Option.some.inj k0
      exact rfl
    · replace k0 := cond_f k0 hb
      conv => whnf
      refine Or.inl ?_
      conv => whnf
      obtain ⟨y_3, hy, k0⟩ := bind_e k0
      refine ⟨_, _, (civil_number_FC F c.Year c.Month c.Day y_3 hy), Or.inl ⟨rfl, rfl, ?_⟩⟩
      conv => whnf
      refine And.intro (by kernel_rfl) ?_
      conv => whnf
      obtain rfl := Option.some.inj k0
      exact rfl

theorem cron_Fits_FC {ml : Int} (F : Nat) (c : api_Cron) (m : api_Civil) (r : Bool) (h : cron_Fits F c m = some r) : FC Tryz.prog (GM ml) 88 [] [(AV.agg (api_Cron.c c)), (AV.agg (api_Civil.c m))] (.bool r) [] := by
  refine FC_of 2000 Tryz.func88 rfl (by kernel_rfl) mixed (by show 2 ≤ 86; decide) ?_
  unfold cron_Fits at h
  conv => whnf
  refine Or.inl ?_
  conv => whnf
  obtain ⟨y_0, hy, h⟩ := bind_e h
  refine ⟨_, _, (civil_To_FC F m y_0 hy), Or.inl ⟨rfl, rfl, ?_⟩⟩
  conv => whnf
  obtain ⟨t30_2, h0, k0⟩ := bind_e h
  refine Or.inr (joins_i True ((2, (AV.ptr 0 0 0)) :: ((3, (AV.ptr 1 0 0)) :: ((30, (AV.bool t30_2)) :: []))) ((0, (AO.rows false (((AV.int IntKind.u64 c.Minute) :: ((AV.int IntKind.u64 c.Hour) :: ((AV.int IntKind.u64 c.Day) :: ((AV.int IntKind.u64 c.Month) :: ((AV.int IntKind.u64 c.Week) :: ((AV.bool c.AnyDay) :: ((AV.bool c.AnyWeek) :: []))))))) :: []))) :: ((1, (AO.rows false (((AV.int IntKind.i64 m.Year) :: ((AV.int IntKind.i64 m.Month) :: ((AV.int IntKind.i64 m.Day) :: ((AV.int IntKind.i64 m.Hour) :: ((AV.int IntKind.i64 m.Minute) :: ((AV.int IntKind.i64 m.Week) :: [])))))) :: []))) :: [])) 2 ?_ (fun _ => ?_))
  · conv => whnf
    refine Or.inl ?_
    conv => whnf
    refine brn_i (fun hb => ?_) (fun hb => ?_)
    · replace h0 := cond_t h0 hb
      conv => whnf
      obtain rfl := Option.some.inj h0
      exact end_i trivial [(0, 8), (1, 16)] rfl rfl rfl
    · replace h0 := cond_f h0 hb
      conv => whnf
      refine Or.inl ?_
      conv => whnf
      obtain ⟨y_3, hy, h0⟩ := bind_e h0
      refine ⟨_, _, (cron_Check_FC F c y_3 hy), Or.inl ⟨rfl, rfl, ?_⟩⟩
      conv => whnf
      refine brn_i (fun hb => ?_) (fun hb => ?_)
      · replace h0 := cond_t h0 hb
        conv => whnf
        obtain rfl := Option.some.inj h0
        exact end_i trivial [(0, 8), (1, 16)] rfl rfl rfl
      · replace h0 := cond_f h0 hb
        conv => whnf
        refine brn_i (fun hb => ?_) (fun hb => ?_)
        · replace h0 := cond_t h0 hb
          conv => whnf
          obtain rfl := Option.some.inj h0
          exact end_i trivial [(0, 8), (1, 16)] rfl rfl rfl
        · replace h0 := cond_f h0 hb
          conv => whnf
          obtain rfl := Option.some.inj h0
          exact end_i trivial [(0, 8), (1, 16)] rfl rfl rfl
  · conv => whnf
    refine Or.inl ?_
    conv => whnf
    refine brn_i (fun hb => ?_) (fun hb => ?_)
    · replace k0 := cond_t k0 hb
      conv => whnf
      obtain rfl := Option.some.inj k0
      exact rfl
    · replace k0 := cond_f k0 hb
      conv => whnf
      obtain ⟨t55_4, h1, k1⟩ := bind_e k0
      refine Or.inr (joins_i True ((2, (AV.ptr 0 0 0)) :: ((3, (AV.ptr 1 0 0)) :: ((55, (AV.bool t55_4)) :: []))) ((0, (AO.rows false (((AV.int IntKind.u64 c.Minute) :: ((AV.int IntKind.u64 c.Hour) :: ((AV.int IntKind.u64 c.Day) :: ((AV.int IntKind.u64 c.Month) :: ((AV.int IntKind.u64 c.Week) :: ((AV.bool c.AnyDay) :: ((AV.bool c.AnyWeek) :: []))))))) :: []))) :: ((1, (AO.rows false (((AV.int IntKind.i64 m.Year) :: ((AV.int IntKind.i64 m.Month) :: ((AV.int IntKind.i64 m.Day) :: ((AV.int IntKind.i64 m.Hour) :: ((AV.int IntKind.i64 m.Minute) :: ((AV.int IntKind.i64 m.Week) :: [])))))) :: []))) :: [])) 2 ?_ (fun _ => ?_))
      · conv => whnf
        refine Or.inl ?_
        conv => whnf
        obtain ⟨hg, h1⟩ := grd_e h1
        refine And.intro hg ?_
        conv => whnf
        refine brn_i (fun hb => ?_) (fun hb => ?_)
        · replace h1 := cond_t h1 hb
          conv => whnf
          obtain rfl := Option.some.inj h1
          exact end_i trivial [(0, 0), (1, 1)] rfl rfl rfl
        · replace h1 := cond_f h1 hb
          conv => whnf
          obtain ⟨hg, h1⟩ := grd_e h1
          refine And.intro hg ?_
          conv => whnf
          refine brn_i (fun hb => ?_) (fun hb => ?_)
          · replace h1 := cond_t h1 hb
            conv => whnf
            obtain rfl := Option.some.inj h1
            exact end_i trivial [(0, 0), (1, 1)] rfl rfl rfl
          · replace h1 := cond_f h1 hb
            conv => whnf
            obtain ⟨hg, h1⟩ := grd_e h1
            refine And.intro hg ?_
            conv => whnf
            obtain rfl := Option.some.inj h1
            exact end_i trivial [(0, 0), (1, 1)] rfl rfl rfl
      · conv => whnf
        refine Or.inl ?_
        conv => whnf
        refine brn_i (fun hb => ?_) (fun hb => ?_)
        · replace k1 := cond_t k1 hb
          conv => whnf
          obtain rfl := Option.some.inj k1
          exact rfl
        · replace k1 := cond_f k1 hb
          conv => whnf
          obtain ⟨hg, k1⟩ := grd_e k1
          refine And.intro hg ?_
          conv => whnf
          obtain ⟨hg, k1⟩ := grd_e k1
          refine And.intro hg ?_
          conv => whnf
          refine And.intro (by kernel_rfl) ?_
          conv => whnf
          obtain ⟨t77_5, h2, k2⟩ := bind_e k1
          refine Or.inr (joins_i True ((7, (AV.bool ((@ibits BinOp.and IntKind.u64 (@Int.fdiv c.Day ((2 : Int) ^ (min (Int.toNat m.Day) 64))) (1 : Int)) == (1 : Int)))) :: ((8, (AV.bool ((@ibits BinOp.and IntKind.u64 (@Int.fdiv c.Week ((2 : Int) ^ (min (Int.toNat m.Week) 64))) (1 : Int)) == (1 : Int)))) :: ((77, (AV.bool t77_5)) :: []))) [] 0 ?_ (fun _ => ?_))
          · conv => whnf
            refine Or.inl ?_
            conv => whnf
            refine brn_i (fun hb => ?_) (fun hb => ?_)
            · replace h2 := cond_t h2 hb
              conv => whnf
              obtain rfl := Option.some.inj h2
              exact end_i trivial [] rfl rfl rfl
            · replace h2 := cond_f h2 hb
              conv => whnf
              obtain rfl := Option.some.inj h2
              exact end_i trivial [] rfl rfl rfl
          · conv => whnf
            refine Or.inl ?_
            conv => whnf
            refine brn_i (fun hb => ?_) (fun hb => ?_)
            · replace k2 := cond_t k2 hb
              conv => whnf
              refine Or.inl ?_
              conv => whnf
              refine brn_i (fun hb => ?_) (fun hb => ?_)
              · replace k2 := cond_t k2 hb
                conv => whnf
                obtain rfl := Option.some.inj k2
                exact rfl
              · replace k2 := cond_f k2 hb
                conv => whnf
                obtain rfl := Option.some.inj k2
                exact rfl
            · replace k2 := cond_f k2 hb
              conv => whnf
              refine Or.inl ?_
              conv => whnf
              refine brn_i (fun hb => ?_) (fun hb => ?_)
              · replace k2 := cond_t k2 hb
                conv => whnf
                obtain rfl := Option.some.inj k2
                exact rfl
              · replace k2 := cond_f k2 hb
                conv => whnf
                obtain rfl := Option.some.inj k2
                exact rfl

theorem _due_seeker__fits_FC {ml : Int} (F : Nat) (s_0 : Int) (s_1 : Int) (s_2 : Int) (s_3 : Int) (s_4 : Int) (s_5 : Bool) (s_6 : Bool) (t : Int) (r : Bool) (h : _due_seeker__fits F s_0 s_1 s_2 s_3 s_4 s_5 s_6 t = some r) : FC Tryz.prog (GM ml) 79 [] [(AV.agg ((AV.int IntKind.u64 s_0) :: ((AV.int IntKind.u64 s_1) :: ((AV.int IntKind.u64 s_2) :: ((AV.int IntKind.u64 s_3) :: ((AV.int IntKind.u64 s_4) :: ((AV.bool s_5) :: ((AV.bool s_6) :: ((AV.con (Value.pointer none)) :: []))))))))), (AV.int IntKind.i64 t)] (.bool r) [] := by
  refine FC_of 2000 Tryz.func79 rfl (by kernel_rfl) mixed (by show 2 ≤ 22; decide) ?_
  unfold _due_seeker__fits at h
  conv => whnf
  refine Or.inl ?_
  conv => whnf
  obtain ⟨y_0, hy, h⟩ := bind_e h
  refine ⟨_, _, (__zone_Zone__Local_FC F t y_0 hy), Or.inl ⟨rfl, rfl, ?_⟩⟩
  conv => whnf
  refine Or.inl ?_
  conv => whnf
  refine brn_i (fun hb => ?_) (fun hb => ?_)
  · replace h := cond_t h hb
    conv => whnf
    refine Or.inl ?_
    conv => whnf
    obtain ⟨y_1, hy, h⟩ := bind_e h
    refine ⟨_, _, (cron_Fits_FC F (api_Cron.mk s_0 s_1 s_2 s_3 s_4 s_5 s_6) y_0.1 y_1 hy), Or.inl ⟨rfl, rfl, ?_⟩⟩
    conv => whnf
    obtain rfl := Option.some.inj h
    exact rfl
  · replace h := cond_f h hb
    conv => whnf
    obtain rfl := Option.some.inj h
    exact rfl

theorem _due_seeker__part_FC {ml : Int} (F : Nat) (s_0 : Int) (s_1 : Int) (s_2 : Int) (s_3 : Int) (s_4 : Int) (s_5 : Bool) (s_6 : Bool) (m : api_Civil) (r : (Bool × Bool)) (h : _due_seeker__part F s_0 s_1 s_2 s_3 s_4 s_5 s_6 m = some r) : FC Tryz.prog (GM ml) 90 [] [(AV.agg ((AV.int IntKind.u64 s_0) :: ((AV.int IntKind.u64 s_1) :: ((AV.int IntKind.u64 s_2) :: ((AV.int IntKind.u64 s_3) :: ((AV.int IntKind.u64 s_4) :: ((AV.bool s_5) :: ((AV.bool s_6) :: ((AV.con (Value.pointer none)) :: []))))))))), (AV.agg (api_Civil.c m))] (.tup [(.bool r.1), (.bool r.2)]) [] := by
  refine FC_of 2000 Tryz.func90 rfl (by kernel_rfl) mixed (by show 2 ≤ 30; decide) ?_
  unfold _due_seeker__part at h
  conv => whnf
  obtain ⟨hg, h⟩ := grd_e h
  refine And.intro hg ?_
  conv => whnf
  obtain ⟨hg, h⟩ := grd_e h
  refine And.intro hg ?_
  conv => whnf
  refine And.intro (by kernel_rfl) ?_
  conv => whnf
  refine Or.inl ?_
  conv => whnf
  obtain ⟨y_0, hy, h⟩ := bind_e h
  refine ⟨_, _, (cron_Fits_FC F (api_Cron.mk (IntKind.wrap IntKind.u64 ((1 : Int) * ((2 : Int) ^ (min (Int.toNat m.Minute) 64)))) (IntKind.wrap IntKind.u64 ((1 : Int) * ((2 : Int) ^ (min (Int.toNat m.Hour) 64)))) s_2 s_3 s_4 s_5 s_6) m y_0 hy), Or.inl ⟨rfl, rfl, ?_⟩⟩
  conv => whnf
  refine Or.inl ?_
  conv => whnf
  refine brn_i (fun hb => ?_) (fun hb => ?_)
  · replace h := cond_t h hb
    conv => whnf
    obtain rfl := Option.some.inj h
    exact rfl
  · replace h := cond_f h hb
    conv => whnf
    obtain ⟨hg, h⟩ := grd_e h
    refine And.intro hg ?_
    conv => whnf
    refine And.intro (by kernel_rfl) ?_
    conv => whnf
    obtain rfl := Option.some.inj h
    exact rfl

theorem __zone_Zone__Turn_FC {ml : Int} (F : Nat) (t : Int) (r : (Int × Int)) (h : __zone_Zone__Turn F t = some r) : FC Tryz.prog (GM ml) 91 [] [(AV.con (Value.pointer none)), (AV.int IntKind.i64 t)] (.tup [(.int IntKind.i64 r.1), (.int IntKind.i64 r.2)]) [] := by
  refine FC_of 2000 Tryz.func91 rfl (by kernel_rfl) mixed (by show 2 ≤ 40; decide) ?_
  unfold __zone_Zone__Turn at h
  conv => whnf
  refine Or.inl ?_
  conv => whnf
  obtain ⟨y_0, hy, h⟩ := bind_e h
  refine ⟨_, _, (__zone_Zone__Offset_FC F t y_0 hy), Or.inl ⟨rfl, rfl, ?_⟩⟩
  conv => whnf
  refine Or.inl ?_
  conv => whnf
  refine brn_i (fun hb => ?_) (fun hb => ?_)
  · replace h := cond_t h hb
    conv => whnf
    obtain rfl := Option.some.inj h
    exact rfl
  · cases (cond_f h hb)

theorem _due_seeker__ahead_FC {ml : Int} (F : Nat) (s_0 : Int) (s_1 : Int) (s_2 : Int) (s_3 : Int) (s_4 : Int) (s_5 : Bool) (s_6 : Bool) (t : Int) (r : Int) (h : _due_seeker__ahead F s_0 s_1 s_2 s_3 s_4 s_5 s_6 t = some r) : FC Tryz.prog (GM ml) 80 [] [(AV.agg ((AV.int IntKind.u64 s_0) :: ((AV.int IntKind.u64 s_1) :: ((AV.int IntKind.u64 s_2) :: ((AV.int IntKind.u64 s_3) :: ((AV.int IntKind.u64 s_4) :: ((AV.bool s_5) :: ((AV.bool s_6) :: ((AV.con (Value.pointer none)) :: []))))))))), (AV.int IntKind.i64 t)] (.int IntKind.i64 r) [] := by
  refine FC_of 2000 Tryz.func80 rfl (by kernel_rfl) mixed (by show 2 ≤ 80; decide) ?_
  unfold _due_seeker__ahead at h
  conv => whnf
  refine Or.inl ?_
  conv => whnf
  obtain ⟨y_0, hy, h⟩ := bind_e h
  refine ⟨_, _, (__zone_Zone__Local_FC F t y_0 hy), Or.inl ⟨rfl, rfl, ?_⟩⟩
  conv => whnf
  refine Or.inl ?_
  conv => whnf
  refine brn_i (fun hb => ?_) (fun hb => ?_)
  · replace h := cond_t h hb
    conv => whnf
    obtain rfl := Option.some.inj h
    exact rfl
  · replace h := cond_f h hb
    conv => whnf
    obtain ⟨hg, h⟩ := grd_e h
    refine And.intro hg ?_
    conv => whnf
    obtain ⟨skip_3, h0, k0⟩ := bind_e h
    refine Or.inr (joins_i True ((1, (AV.int IntKind.i64 t)) :: ((2, (AV.ptr 0 0 0)) :: ((7, (AV.int IntKind.i64 skip_3)) :: []))) ((0, (AO.rows false (((AV.int IntKind.u64 s_0) :: ((AV.int IntKind.u64 s_1) :: ((AV.int IntKind.u64 s_2) :: ((AV.int IntKind.u64 s_3) :: ((AV.int IntKind.u64 s_4) :: ((AV.bool s_5) :: ((AV.bool s_6) :: ((AV.con (Value.pointer none)) :: [])))))))) :: []))) :: []) 1 ?_ (fun _ => ?_))
    · conv => whnf
      refine Or.inl ?_
      conv => whnf
      refine brn_i (fun hb => ?_) (fun hb => ?_)
      · replace h0 := cond_t h0 hb
        conv => whnf
        refine Or.inl ?_
        conv => whnf
        obtain ⟨y_4, hy, h0⟩ := bind_e h0
        refine ⟨_, _, (civil_Days_FC F y_0.1.Year y_0.1.Month y_4 hy), Or.inl ⟨rfl, rfl, ?_⟩⟩
        conv => whnf
        refine And.intro (by kernel_rfl) ?_
        conv => whnf
        obtain rfl := Option.some.inj h0
        exact end_i trivial [(0, 8)] rfl rfl rfl
      · replace h0 := cond_f h0 hb
        conv => whnf
        refine Or.inl ?_
        conv => whnf
        obtain ⟨y_5, hy, h0⟩ := bind_e h0
        refine ⟨_, _, (_due_seeker__part_FC F s_0 s_1 s_2 s_3 s_4 s_5 s_6 y_0.1 y_5 hy), Or.inl ⟨rfl, rfl, ?_⟩⟩
        conv => whnf
        refine Or.inl ?_
        conv => whnf
        refine brn_i (fun hb => ?_) (fun hb => ?_)
        · replace h0 := cond_t h0 hb
          conv => whnf
          obtain rfl := Option.some.inj h0
          exact end_i trivial [(0, 8)] rfl rfl rfl
        · replace h0 := cond_f h0 hb
          conv => whnf
          refine Or.inl ?_
          conv => whnf
          refine brn_i (fun hb => ?_) (fun hb => ?_)
          · replace h0 := cond_t h0 hb
            conv => whnf
            obtain rfl := Option.some.inj h0
            exact end_i trivial [(0, 8)] rfl rfl rfl
          · replace h0 := cond_f h0 hb
            conv => whnf
            obtain rfl := Option.some.inj h0
            exact end_i trivial [(0, 8)] rfl rfl rfl
    · conv => whnf
      refine Or.inl ?_
      conv => whnf
      obtain ⟨y_6, hy, k0⟩ := bind_e k0
      refine ⟨_, _, (__zone_Zone__Turn_FC F t y_6 hy), Or.inl ⟨rfl, rfl, ?_⟩⟩
      conv => whnf
      obtain rfl := Option.some.inj k0
      exact rfl

theorem _due_seeker__next_FC {ml : Int} (F : Nat) (s_0 : Int) (s_1 : Int) (s_2 : Int) (s_3 : Int) (s_4 : Int) (s_5 : Bool) (s_6 : Bool) (t : Int) (end_ : Int) (r : (Int × Bool)) (h : _due_seeker__next F s_0 s_1 s_2 s_3 s_4 s_5 s_6 t end_ = some r) : FC Tryz.prog (GM ml) 71 [] [(AV.agg ((AV.int IntKind.u64 s_0) :: ((AV.int IntKind.u64 s_1) :: ((AV.int IntKind.u64 s_2) :: ((AV.int IntKind.u64 s_3) :: ((AV.int IntKind.u64 s_4) :: ((AV.bool s_5) :: ((AV.bool s_6) :: ((AV.con (Value.pointer none)) :: []))))))))), (AV.int IntKind.i64 t), (AV.int IntKind.i64 end_)] (.tup [(.int IntKind.i64 r.1), (.bool r.2)]) [] := by
  refine FC_of 2000 Tryz.func71 rfl (by kernel_rfl) mixed (by show 3 ≤ 18; decide) ?_
  unfold _due_seeker__next at h
  conv => whnf
  obtain ⟨o0, h0, k0⟩ := bind_e h
  refine Or.inr (joins_i (o0 = Sum.inr (outR o0)) [] [] 0 ?_ (fun hR => ?_))
  · conv => whnf
    refine Or.inl ?_
    conv => whnf
    refine loops_i (α := (Nat × Int)) (fun xq => ((1, (AV.int IntKind.i64 xq.2)) :: ((2, (AV.int IntKind.i64 end_)) :: ((3, (AV.ptr 0 0 0)) :: [])))) (fun xq => ((0, (AO.rows false (((AV.int IntKind.u64 s_0) :: ((AV.int IntKind.u64 s_1) :: ((AV.int IntKind.u64 s_2) :: ((AV.int IntKind.u64 s_3) :: ((AV.int IntKind.u64 s_4) :: ((AV.bool s_5) :: ((AV.bool s_6) :: ((AV.con (Value.pointer none)) :: [])))))))) :: []))) :: [])) 1 (fun xq => _due_seeker__next_l0 F s_0 s_1 s_2 s_3 s_4 s_5 s_6 end_ xq.1 xq.2 = some o0) (fun xq => xq.1) (F, t) [(0, 8)] h0 rfl rfl rfl ?_
    rintro ⟨n_6, t_7⟩ h0
    replace h0 : _due_seeker__next_l0 F s_0 s_1 s_2 s_3 s_4 s_5 s_6 end_ n_6 t_7 = some o0 := h0
    cases n_6 with
    | zero => rw [_due_seeker__next_l0.eq_1] at h0; cases h0
    | succ n_6 =>
      rw [_due_seeker__next_l0.eq_2] at h0
      conv => whnf
      refine Or.inl ?_
      conv => whnf
      refine brn_i (fun hb => ?_) (fun hb => ?_)
      · replace h0 := cond_t h0 hb
        conv => whnf
        refine Or.inl ?_
        conv => whnf
        refine Or.inl ?_
        conv => whnf
        obtain ⟨y_8, hy, h0⟩ := bind_e h0
        refine ⟨_, _, (_due_seeker__fits_FC F s_0 s_1 s_2 s_3 s_4 s_5 s_6 t_7 y_8 hy), Or.inl ⟨rfl, rfl, ?_⟩⟩
        conv => whnf
        refine Or.inl ?_
        conv => whnf
        refine brn_i (fun hb => ?_) (fun hb => ?_)
        · replace h0 := cond_t h0 hb
          conv => whnf
          obtain rfl := Option.some.inj h0
          obtain rfl := Option.some.inj k0
          exact rfl
        · replace h0 := cond_f h0 hb
          conv => whnf
          refine Or.inl ?_
          conv => whnf
          obtain ⟨y_9, hy, h0⟩ := bind_e h0
          refine ⟨_, _, (_due_seeker__ahead_FC F s_0 s_1 s_2 s_3 s_4 s_5 s_6 t_7 y_9 hy), Or.inl ⟨rfl, rfl, ?_⟩⟩
          conv => whnf
          exact round_i (n_6, y_9) [(0, 0)] h0 (Nat.lt_succ_self _) rfl rfl rfl
      · replace h0 := cond_f h0 hb
        conv => whnf
        obtain rfl := Option.some.inj h0
        exact end_i rfl [] rfl rfl rfl
  · replace k0 := elim_e hR k0
    generalize outR o0 = v at k0 ⊢
    conv => whnf
    obtain rfl := Option.some.inj k0
    exact rfl

theorem __zone_Zone__at_FC {ml : Int} (F : Nat) (z : zone_Zone) (t : Int) (r : Int) (h : __zone_Zone__at F z t = some r) : FC Tryz.prog (GM ml) 106 [] [(AV.rp (zone_Zone.c z) 0), (AV.int IntKind.i64 t)] (.int IntKind.i64 r) [] := by
  refine FC_of 2000 Tryz.func106 rfl (by kernel_rfl) mixed (by show 2 ≤ 27; decide) ?_
  unfold __zone_Zone__at at h
  conv => whnf
  cases h

theorem __zone_Zone__Offset_i1_FC {ml : Int} (F : Nat) (z : zone_Zone) (t : Int) (r : (Int × Int)) (h : __zone_Zone__Offset_i1 F z t = some r) : FC Tryz.prog (GM ml) 102 [] [(AV.rp (zone_Zone.c z) 0), (AV.int IntKind.i64 t)] (.tup [(.int IntKind.i64 r.1), (.int IntKind.i64 r.2)]) [] := by
  refine FC_of 2000 Tryz.func102 rfl (by kernel_rfl) mixed (by show 2 ≤ 24; decide) ?_
  unfold __zone_Zone__Offset_i1 at h
  conv => whnf
  refine Or.inl ?_
  conv => whnf
  obtain ⟨t13_0, h0, k0⟩ := bind_e h
  refine Or.inr (joins_i True ((0, (AV.rp ((AV.int IntKind.i64 z.rules.Base) :: ((AV.int IntKind.i64 z.rules.Save) :: ((AV.int IntKind.i64 z.rules.On.Month) :: ((AV.int IntKind.i64 z.rules.On.Week) :: ((AV.int IntKind.i64 z.rules.On.Day) :: ((AV.int IntKind.i64 z.rules.On.At) :: ((AV.int IntKind.i64 z.rules.Off.Month) :: ((AV.int IntKind.i64 z.rules.Off.Week) :: ((AV.int IntKind.i64 z.rules.Off.Day) :: ((AV.int IntKind.i64 z.rules.Off.At) :: ((AV.int IntKind.u32 z.once.done.v) :: ((AV.int IntKind.i32 z.once.m.mu.state) :: ((AV.int IntKind.u32 z.once.m.mu.sema) :: ((AV.sl (List.map zone_turn.c z.turns)) :: [])))))))))))))) 0)) :: ((1, (AV.int IntKind.i64 t)) :: ((13, (AV.bool t13_0)) :: []))) [] 0 ?_ (fun _ => ?_))
  · conv => whnf
    refine Or.inl ?_
    conv => whnf
    refine brn_i (fun hb => ?_) (fun hb => ?_)
    · replace h0 := cond_t h0 hb
      conv => whnf
      obtain rfl := Option.some.inj h0
      exact end_i trivial [] rfl rfl rfl
    · replace h0 := cond_f h0 hb
      conv => whnf
      obtain rfl := Option.some.inj h0
      exact end_i trivial [] rfl rfl rfl
  · conv => whnf
    refine Or.inl ?_
    conv => whnf
    refine brn_i (fun hb => ?_) (fun hb => ?_)
    · replace k0 := cond_t k0 hb
      conv => whnf
      obtain rfl := Option.some.inj k0
      exact rfl
    · replace k0 := cond_f k0 hb
      conv => whnf
      refine Or.inl ?_
      conv => whnf
      obtain ⟨y_1, hy, k0⟩ := bind_e k0
      refine ⟨_, _, (__zone_Zone__at_FC F (zone_Zone.mk z.rules (sync_Once.mk sync_noCopy.mk (atomic_Bool.mk atomic_noCopy.mk z.once.done.v) (sync_Mutex_135.mk sync_noCopy.mk z.once.m.mu)) z.turns) t y_1 hy), Or.inl ⟨rfl, rfl, ?_⟩⟩
      conv => whnf
      obtain ⟨hg, k0⟩ := grd_e k0
      refine And.intro hg ?_
      conv => whnf
      obtain ⟨y_2, hy, k0⟩ := bind_e k0
      refine opt_i (zone_turn.c y_2) (getE rfl hy) ?_
      conv => whnf
      refine And.intro (by kernel_rfl) ?_
      conv => whnf
      obtain rfl := Option.some.inj k0
      exact rfl

theorem __zone_Zone__Local_i1_FC {ml : Int} (F : Nat) (z : zone_Zone) (t : Int) (r : (api_Civil × Int)) (h : __zone_Zone__Local_i1 F z t = some r) : FC Tryz.prog (GM ml) 87 [] [(AV.rp (zone_Zone.c z) 0), (AV.int IntKind.i64 t)] (.tup [(.agg (api_Civil.c r.1)), (.int IntKind.i64 r.2)]) [] := by
  refine FC_of 2000 Tryz.func87 rfl (by kernel_rfl) mixed (by show 2 ≤ 24; decide) ?_
  unfold __zone_Zone__Local_i1 at h
  conv => whnf
  refine Or.inl ?_
  conv => whnf
  obtain ⟨y_0, hy, h⟩ := bind_e h
  refine ⟨_, _, (__zone_Zone__Offset_i1_FC F z t y_0 hy), Or.inl ⟨rfl, rfl, ?_⟩⟩
  conv => whnf
  refine Or.inl ?_
  conv => whnf
  refine brn_i (fun hb => ?_) (fun hb => ?_)
  · replace h := cond_t h hb
    conv => whnf
    obtain rfl := Option.some.inj h
    exact rfl
  · replace h := cond_f h hb
    conv => whnf
    refine Or.inl ?_
    conv => whnf
    obtain ⟨y_1, hy, h⟩ := bind_e h
    refine ⟨_, _, (civil_From_FC F (IntKind.wrap IntKind.i64 (t + y_0.1)) y_1 hy), Or.inl ⟨rfl, rfl, ?_⟩⟩
    conv => whnf
    obtain rfl := Option.some.inj h
    exact rfl

theorem _due_seeker__fits_i1_FC {ml : Int} (F : Nat) (s_0 : Int) (s_1 : Int) (s_2 : Int) (s_3 : Int) (s_4 : Int) (s_5 : Bool) (s_6 : Bool) (s_7 : zone_Zone) (t : Int) (r : Bool) (h : _due_seeker__fits_i1 F s_0 s_1 s_2 s_3 s_4 s_5 s_6 s_7 t = some r) : FC Tryz.prog (GM ml) 79 [] [(AV.agg ((AV.int IntKind.u64 s_0) :: ((AV.int IntKind.u64 s_1) :: ((AV.int IntKind.u64 s_2) :: ((AV.int IntKind.u64 s_3) :: ((AV.int IntKind.u64 s_4) :: ((AV.bool s_5) :: ((AV.bool s_6) :: ((AV.rp (zone_Zone.c s_7) 0) :: []))))))))), (AV.int IntKind.i64 t)] (.bool r) [] := by
  refine FC_of 2000 Tryz.func79 rfl (by kernel_rfl) mixed (by show 2 ≤ 22; decide) ?_
  unfold _due_seeker__fits_i1 at h
  conv => whnf
  refine Or.inl ?_
  conv => whnf
  obtain ⟨y_0, hy, h⟩ := bind_e h
  refine ⟨_, _, (__zone_Zone__Local_i1_FC F s_7 t y_0 hy), Or.inl ⟨rfl, rfl, ?_⟩⟩
  conv => whnf
  refine Or.inl ?_
  conv => whnf
  refine brn_i (fun hb => ?_) (fun hb => ?_)
  · replace h := cond_t h hb
    conv => whnf
    refine Or.inl ?_
    conv => whnf
    obtain ⟨y_1, hy, h⟩ := bind_e h
    refine ⟨_, _, (cron_Fits_FC F (api_Cron.mk s_0 s_1 s_2 s_3 s_4 s_5 s_6) y_0.1 y_1 hy), Or.inl ⟨rfl, rfl, ?_⟩⟩
    conv => whnf
    obtain rfl := Option.some.inj h
    exact rfl
  · replace h := cond_f h hb
    conv => whnf
    obtain rfl := Option.some.inj h
    exact rfl

theorem _due_seeker__part_i1_FC {ml : Int} (F : Nat) (s_0 : Int) (s_1 : Int) (s_2 : Int) (s_3 : Int) (s_4 : Int) (s_5 : Bool) (s_6 : Bool) (s_7 : zone_Zone) (m : api_Civil) (r : (Bool × Bool)) (h : _due_seeker__part_i1 F s_0 s_1 s_2 s_3 s_4 s_5 s_6 s_7 m = some r) : FC Tryz.prog (GM ml) 90 [] [(AV.agg ((AV.int IntKind.u64 s_0) :: ((AV.int IntKind.u64 s_1) :: ((AV.int IntKind.u64 s_2) :: ((AV.int IntKind.u64 s_3) :: ((AV.int IntKind.u64 s_4) :: ((AV.bool s_5) :: ((AV.bool s_6) :: ((AV.rp (zone_Zone.c s_7) 0) :: []))))))))), (AV.agg (api_Civil.c m))] (.tup [(.bool r.1), (.bool r.2)]) [] := by
  refine FC_of 2000 Tryz.func90 rfl (by kernel_rfl) mixed (by show 2 ≤ 30; decide) ?_
  unfold _due_seeker__part_i1 at h
  conv => whnf
  obtain ⟨hg, h⟩ := grd_e h
  refine And.intro hg ?_
  conv => whnf
  obtain ⟨hg, h⟩ := grd_e h
  refine And.intro hg ?_
  conv => whnf
  refine And.intro (by kernel_rfl) ?_
  conv => whnf
  refine Or.inl ?_
  conv => whnf
  obtain ⟨y_0, hy, h⟩ := bind_e h
  refine ⟨_, _, (cron_Fits_FC F (api_Cron.mk (IntKind.wrap IntKind.u64 ((1 : Int) * ((2 : Int) ^ (min (Int.toNat m.Minute) 64)))) (IntKind.wrap IntKind.u64 ((1 : Int) * ((2 : Int) ^ (min (Int.toNat m.Hour) 64)))) s_2 s_3 s_4 s_5 s_6) m y_0 hy), Or.inl ⟨rfl, rfl, ?_⟩⟩
  conv => whnf
  refine Or.inl ?_
  conv => whnf
  refine brn_i (fun hb => ?_) (fun hb => ?_)
  · replace h := cond_t h hb
    conv => whnf
    obtain rfl := Option.some.inj h
    exact rfl
  · replace h := cond_f h hb
    conv => whnf
    obtain ⟨hg, h⟩ := grd_e h
    refine And.intro hg ?_
    conv => whnf
    refine And.intro (by kernel_rfl) ?_
    conv => whnf
    obtain rfl := Option.some.inj h
    exact rfl

theorem __zone_Zone__Turn_i1_FC {ml : Int} (F : Nat) (z : zone_Zone) (t : Int) (r : (Int × Int)) (h : __zone_Zone__Turn_i1 F z t = some r) : FC Tryz.prog (GM ml) 91 [] [(AV.rp (zone_Zone.c z) 0), (AV.int IntKind.i64 t)] (.tup [(.int IntKind.i64 r.1), (.int IntKind.i64 r.2)]) [] := by
  refine FC_of 2000 Tryz.func91 rfl (by kernel_rfl) mixed (by show 2 ≤ 40; decide) ?_
  unfold __zone_Zone__Turn_i1 at h
  conv => whnf
  refine Or.inl ?_
  conv => whnf
  obtain ⟨y_0, hy, h⟩ := bind_e h
  refine ⟨_, _, (__zone_Zone__Offset_i1_FC F z t y_0 hy), Or.inl ⟨rfl, rfl, ?_⟩⟩
  conv => whnf
  refine Or.inl ?_
  conv => whnf
  refine brn_i (fun hb => ?_) (fun hb => ?_)
  · replace h := cond_t h hb
    conv => whnf
    obtain rfl := Option.some.inj h
    exact rfl
  · replace h := cond_f h hb
    conv => whnf
    refine Or.inl ?_
    conv => whnf
    obtain ⟨y_1, hy, h⟩ := bind_e h
    refine ⟨_, _, (__zone_Zone__at_FC F z t y_1 hy), Or.inl ⟨rfl, rfl, ?_⟩⟩
    conv => whnf
    refine And.intro (LenAll.map (fun _ => rfl)) ?_
    conv => whnf
    obtain ⟨hg, h⟩ := grd_e h
    refine And.intro hg ?_
    conv => whnf
    obtain ⟨hg, h⟩ := grd_e h
    refine And.intro (by first | exact hg | (simp; done) | simpa using hg | simpa [chunk] using hg | (simp [chunk] at hg ⊢; omega)) ?_
    conv => whnf
    obtain ⟨hg, h⟩ := grd_e h
    refine And.intro (by first | exact hg | (simp; done) | simpa using hg | simpa [chunk] using hg | (simp [chunk] at hg ⊢; omega)) ?_
    conv => whnf
    refine And.intro (by kernel_rfl) ?_
    conv => whnf
    obtain ⟨o0, h0, k0⟩ := bind_e h
    refine Or.inr (joins_i (o0 = Sum.inr (outR o0)) [] [] 0 ?_ (fun hR => ?_))
    · conv => whnf
      refine Or.inl ?_
      conv => whnf
      refine loops_i (α := (Nat × Int)) (fun xq => ((6, (AV.int IntKind.i64 y_0.1)) :: ((27, (AV.sl (List.map zone_turn.c (List.drop (Int.toNat (IntKind.wrap IntKind.i64 (y_1 + (1 : Int)))) z.turns)))) :: ((28, (AV.int IntKind.i64 (@Nat.cast Int instNatCastInt (List.length (@cut (@List AV) (some (Operand.tmp 26)) none (List.map zone_turn.c z.turns) (Int.toNat (IntKind.wrap IntKind.i64 (y_1 + (1 : Int)))) (List.length (List.map zone_turn.c z.turns))))))) :: ((29, (AV.int IntKind.i64 xq.2)) :: []))))) (fun xq => []) 0 (fun xq => __zone_Zone__Turn_i1_l0 F z y_0 y_1 xq.1 xq.2 = some o0) (fun xq => xq.1) (F, (0 : Int)) [] h0 (cons2 rfl (cons2 (congrArg AV.sl (by first | (simp; done) | rfl | (rw [List.map_append]; rfl))) rfl)) rfl rfl ?_
      rintro ⟨n_8, t29_9⟩ h0
      replace h0 : __zone_Zone__Turn_i1_l0 F z y_0 y_1 n_8 t29_9 = some o0 := h0
      cases n_8 with
      | zero => rw [__zone_Zone__Turn_i1_l0.eq_1] at h0; cases h0
      | succ n_8 =>
        rw [__zone_Zone__Turn_i1_l0.eq_2] at h0
        conv => whnf
        refine Or.inl ?_
        conv => whnf
        refine brn_i (fun hb => ?_) (fun hb => ?_)
        · replace h0 := cond_t h0 (by first | exact hb | (simp; done) | simpa using hb | simpa [chunk] using hb)
          conv => whnf
          refine Or.inl ?_
          conv => whnf
          obtain ⟨hg, h0⟩ := grd_e h0
          refine And.intro hg ?_
          conv => whnf
          obtain ⟨y_11, hy, h0⟩ := bind_e h0
          refine opt_i (zone_turn.c y_11) (getE rfl hy) ?_
          conv => whnf
          refine Or.inl ?_
          conv => whnf
          refine brn_i (fun hb => ?_) (fun hb => ?_)
          · replace h0 := cond_t h0 hb
            conv => whnf
            obtain rfl := Option.some.inj h0
            obtain rfl := Option.some.inj k0
            exact rfl
          · replace h0 := cond_f h0 hb
            conv => whnf
            exact round_i (n_8, (IntKind.wrap IntKind.i64 (t29_9 + (1 : Int)))) [] h0 (Nat.lt_succ_self _) rfl rfl rfl
        · replace h0 := cond_f h0 (by first | exact hb | (simp; done) | simpa using hb | simpa [chunk] using hb)
          conv => whnf
          obtain rfl := Option.some.inj h0
          exact end_i rfl [] rfl rfl rfl
    · replace k0 := elim_e hR k0
      generalize outR o0 = v at k0 ⊢
      conv => whnf
      obtain rfl := Option.some.inj k0
      exact rfl

theorem _due_seeker__ahead_i1_FC {ml : Int} (F : Nat) (s_0 : Int) (s_1 : Int) (s_2 : Int) (s_3 : Int) (s_4 : Int) (s_5 : Bool) (s_6 : Bool) (s_7 : zone_Zone) (t : Int) (r : Int) (h : _due_seeker__ahead_i1 F s_0 s_1 s_2 s_3 s_4 s_5 s_6 s_7 t = some r) : FC Tryz.prog (GM ml) 80 [] [(AV.agg ((AV.int IntKind.u64 s_0) :: ((AV.int IntKind.u64 s_1) :: ((AV.int IntKind.u64 s_2) :: ((AV.int IntKind.u64 s_3) :: ((AV.int IntKind.u64 s_4) :: ((AV.bool s_5) :: ((AV.bool s_6) :: ((AV.rp (zone_Zone.c s_7) 0) :: []))))))))), (AV.int IntKind.i64 t)] (.int IntKind.i64 r) [] := by
  refine FC_of 2000 Tryz.func80 rfl (by kernel_rfl) mixed (by show 2 ≤ 80; decide) ?_
  unfold _due_seeker__ahead_i1 at h
  conv => whnf
  refine Or.inl ?_
  conv => whnf
  obtain ⟨y_0, hy, h⟩ := bind_e h
  refine ⟨_, _, (__zone_Zone__Local_i1_FC F s_7 t y_0 hy), Or.inl ⟨rfl, rfl, ?_⟩⟩
  conv => whnf
  refine Or.inl ?_
  conv => whnf
  refine brn_i (fun hb => ?_) (fun hb => ?_)
  · replace h := cond_t h hb
    conv => whnf
    obtain rfl := Option.some.inj h
    exact rfl
  · replace h := cond_f h hb
    conv => whnf
    obtain ⟨hg, h⟩ := grd_e h
    refine And.intro hg ?_
    conv => whnf
    obtain ⟨skip_3, h0, k0⟩ := bind_e h
    refine Or.inr (joins_i True ((1, (AV.int IntKind.i64 t)) :: ((2, (AV.ptr 0 0 0)) :: ((7, (AV.int IntKind.i64 skip_3)) :: []))) ((0, (AO.rows false (((AV.int IntKind.u64 s_0) :: ((AV.int IntKind.u64 s_1) :: ((AV.int IntKind.u64 s_2) :: ((AV.int IntKind.u64 s_3) :: ((AV.int IntKind.u64 s_4) :: ((AV.bool s_5) :: ((AV.bool s_6) :: ((AV.rp ((AV.int IntKind.i64 s_7.rules.Base) :: ((AV.int IntKind.i64 s_7.rules.Save) :: ((AV.int IntKind.i64 s_7.rules.On.Month) :: ((AV.int IntKind.i64 s_7.rules.On.Week) :: ((AV.int IntKind.i64 s_7.rules.On.Day) :: ((AV.int IntKind.i64 s_7.rules.On.At) :: ((AV.int IntKind.i64 s_7.rules.Off.Month) :: ((AV.int IntKind.i64 s_7.rules.Off.Week) :: ((AV.int IntKind.i64 s_7.rules.Off.Day) :: ((AV.int IntKind.i64 s_7.rules.Off.At) :: ((AV.int IntKind.u32 s_7.once.done.v) :: ((AV.int IntKind.i32 s_7.once.m.mu.state) :: ((AV.int IntKind.u32 s_7.once.m.mu.sema) :: ((AV.sl (List.map zone_turn.c s_7.turns)) :: [])))))))))))))) 0) :: [])))))))) :: []))) :: []) 1 ?_ (fun _ => ?_))
    · conv => whnf
      refine Or.inl ?_
      conv => whnf
      refine brn_i (fun hb => ?_) (fun hb => ?_)
      · replace h0 := cond_t h0 hb
        conv => whnf
        refine Or.inl ?_
        conv => whnf
        obtain ⟨y_4, hy, h0⟩ := bind_e h0
        refine ⟨_, _, (civil_Days_FC F y_0.1.Year y_0.1.Month y_4 hy), Or.inl ⟨rfl, rfl, ?_⟩⟩
        conv => whnf
        refine And.intro (by kernel_rfl) ?_
        conv => whnf
        obtain rfl := Option.some.inj h0
        exact end_i trivial [(0, 8)] rfl rfl rfl
      · replace h0 := cond_f h0 hb
        conv => whnf
        refine Or.inl ?_
        conv => whnf
        obtain ⟨y_5, hy, h0⟩ := bind_e h0
        refine ⟨_, _, (_due_seeker__part_i1_FC F s_0 s_1 s_2 s_3 s_4 s_5 s_6 s_7 y_0.1 y_5 hy), Or.inl ⟨rfl, rfl, ?_⟩⟩
        conv => whnf
        refine Or.inl ?_
        conv => whnf
        refine brn_i (fun hb => ?_) (fun hb => ?_)
        · replace h0 := cond_t h0 hb
          conv => whnf
          obtain rfl := Option.some.inj h0
          exact end_i trivial [(0, 8)] rfl rfl rfl
        · replace h0 := cond_f h0 hb
          conv => whnf
          refine Or.inl ?_
          conv => whnf
          refine brn_i (fun hb => ?_) (fun hb => ?_)
          · replace h0 := cond_t h0 hb
            conv => whnf
            obtain rfl := Option.some.inj h0
            exact end_i trivial [(0, 8)] rfl rfl rfl
          · replace h0 := cond_f h0 hb
            conv => whnf
            obtain rfl := Option.some.inj h0
            exact end_i trivial [(0, 8)] rfl rfl rfl
    · conv => whnf
      refine Or.inl ?_
      conv => whnf
      obtain ⟨y_6, hy, k0⟩ := bind_e k0
      refine ⟨_, _, (__zone_Zone__Turn_i1_FC F (zone_Zone.mk s_7.rules (sync_Once.mk sync_noCopy.mk (atomic_Bool.mk atomic_noCopy.mk s_7.once.done.v) (sync_Mutex_135.mk sync_noCopy.mk s_7.once.m.mu)) s_7.turns) t y_6 hy), Or.inl ⟨rfl, rfl, ?_⟩⟩
      conv => whnf
      obtain rfl := Option.some.inj k0
      exact rfl

theorem _due_seeker__next_i1_FC {ml : Int} (F : Nat) (s_0 : Int) (s_1 : Int) (s_2 : Int) (s_3 : Int) (s_4 : Int) (s_5 : Bool) (s_6 : Bool) (s_7 : zone_Zone) (t : Int) (end_ : Int) (r : (Int × Bool)) (h : _due_seeker__next_i1 F s_0 s_1 s_2 s_3 s_4 s_5 s_6 s_7 t end_ = some r) : FC Tryz.prog (GM ml) 71 [] [(AV.agg ((AV.int IntKind.u64 s_0) :: ((AV.int IntKind.u64 s_1) :: ((AV.int IntKind.u64 s_2) :: ((AV.int IntKind.u64 s_3) :: ((AV.int IntKind.u64 s_4) :: ((AV.bool s_5) :: ((AV.bool s_6) :: ((AV.rp (zone_Zone.c s_7) 0) :: []))))))))), (AV.int IntKind.i64 t), (AV.int IntKind.i64 end_)] (.tup [(.int IntKind.i64 r.1), (.bool r.2)]) [] := by
  refine FC_of 2000 Tryz.func71 rfl (by kernel_rfl) mixed (by show 3 ≤ 18; decide) ?_
  unfold _due_seeker__next_i1 at h
  conv => whnf
  obtain ⟨o0, h0, k0⟩ := bind_e h
  refine Or.inr (joins_i (o0 = Sum.inr (outR o0)) [] [] 0 ?_ (fun hR => ?_))
  · conv => whnf
    refine Or.inl ?_
    conv => whnf
    refine loops_i (α := (Nat × Int)) (fun xq => ((1, (AV.int IntKind.i64 xq.2)) :: ((2, (AV.int IntKind.i64 end_)) :: ((3, (AV.ptr 0 0 0)) :: [])))) (fun xq => ((0, (AO.rows false (((AV.int IntKind.u64 s_0) :: ((AV.int IntKind.u64 s_1) :: ((AV.int IntKind.u64 s_2) :: ((AV.int IntKind.u64 s_3) :: ((AV.int IntKind.u64 s_4) :: ((AV.bool s_5) :: ((AV.bool s_6) :: ((AV.rp ((AV.int IntKind.i64 s_7.rules.Base) :: ((AV.int IntKind.i64 s_7.rules.Save) :: ((AV.int IntKind.i64 s_7.rules.On.Month) :: ((AV.int IntKind.i64 s_7.rules.On.Week) :: ((AV.int IntKind.i64 s_7.rules.On.Day) :: ((AV.int IntKind.i64 s_7.rules.On.At) :: ((AV.int IntKind.i64 s_7.rules.Off.Month) :: ((AV.int IntKind.i64 s_7.rules.Off.Week) :: ((AV.int IntKind.i64 s_7.rules.Off.Day) :: ((AV.int IntKind.i64 s_7.rules.Off.At) :: ((AV.int IntKind.u32 s_7.once.done.v) :: ((AV.int IntKind.i32 s_7.once.m.mu.state) :: ((AV.int IntKind.u32 s_7.once.m.mu.sema) :: ((AV.sl (List.map zone_turn.c s_7.turns)) :: [])))))))))))))) 0) :: [])))))))) :: []))) :: [])) 1 (fun xq => _due_seeker__next_i1_l0 F s_0 s_1 s_2 s_3 s_4 s_5 s_6 s_7 end_ xq.1 xq.2 = some o0) (fun xq => xq.1) (F, t) [(0, 8)] h0 rfl rfl rfl ?_
    rintro ⟨n_6, t_7⟩ h0
    replace h0 : _due_seeker__next_i1_l0 F s_0 s_1 s_2 s_3 s_4 s_5 s_6 s_7 end_ n_6 t_7 = some o0 := h0
    cases n_6 with
    | zero => rw [_due_seeker__next_i1_l0.eq_1] at h0; cases h0
    | succ n_6 =>
      rw [_due_seeker__next_i1_l0.eq_2] at h0
      conv => whnf
      refine Or.inl ?_
      conv => whnf
      refine brn_i (fun hb => ?_) (fun hb => ?_)
      · replace h0 := cond_t h0 hb
        conv => whnf
        refine Or.inl ?_
        conv => whnf
        refine Or.inl ?_
        conv => whnf
        obtain ⟨y_8, hy, h0⟩ := bind_e h0
        refine ⟨_, _, (_due_seeker__fits_i1_FC F s_0 s_1 s_2 s_3 s_4 s_5 s_6 (zone_Zone.mk s_7.rules (sync_Once.mk sync_noCopy.mk (atomic_Bool.mk atomic_noCopy.mk s_7.once.done.v) (sync_Mutex_135.mk sync_noCopy.mk s_7.once.m.mu)) s_7.turns) t_7 y_8 hy), Or.inl ⟨rfl, rfl, ?_⟩⟩
        conv => whnf
        refine Or.inl ?_
        conv => whnf
        refine brn_i (fun hb => ?_) (fun hb => ?_)
        · replace h0 := cond_t h0 hb
          conv => whnf
          obtain rfl := Option.some.inj h0
          obtain rfl := Option.some.inj k0
          exact rfl
        · replace h0 := cond_f h0 hb
          conv => whnf
          refine Or.inl ?_
          conv => whnf
          obtain ⟨y_9, hy, h0⟩ := bind_e h0
          refine ⟨_, _, (_due_seeker__ahead_i1_FC F s_0 s_1 s_2 s_3 s_4 s_5 s_6 (zone_Zone.mk s_7.rules (sync_Once.mk sync_noCopy.mk (atomic_Bool.mk atomic_noCopy.mk s_7.once.done.v) (sync_Mutex_135.mk sync_noCopy.mk s_7.once.m.mu)) s_7.turns) t_7 y_9 hy), Or.inl ⟨rfl, rfl, ?_⟩⟩
          conv => whnf
          exact round_i (n_6, y_9) [(0, 0)] h0 (Nat.lt_succ_self _) rfl rfl rfl
      · replace h0 := cond_f h0 hb
        conv => whnf
        obtain rfl := Option.some.inj h0
        exact end_i rfl [] rfl rfl rfl
  · replace k0 := elim_e hR k0
    generalize outR o0 = v at k0 ⊢
    conv => whnf
    obtain rfl := Option.some.inj k0
    exact rfl

theorem due_Next_FC {ml : Int} (F : Nat) (c : api_Cron) (z : api_Zone) (after : Int) (r : (Int × Int)) (h : due_Next F c z after = some r) : FC Tryz.prog (GM ml) 57 [] [(AV.agg (api_Cron.c c)), (AV.agg (api_Zone.c z)), (AV.int IntKind.i64 after)] (.tup [(.int IntKind.i64 r.1), (.int IntKind.i64 r.2)]) [] := by
  refine FC_of 2000 Tryz.func57 rfl (by kernel_rfl) mixed (by show 3 ≤ 37; decide) ?_
  unfold due_Next at h
  conv => whnf
  refine Or.inl ?_
  conv => whnf
  obtain ⟨y_0, hy, h⟩ := bind_e h
  rcases y_0 with y_0 | y_0
  · replace h := elim_l h
    refine ⟨_, _, (FC_close (due_seek_FC0 F c z y_0 hy) rfl), Or.inr ⟨[], rfl, ?_⟩⟩
    conv => whnf
    refine Or.inl ?_
    conv => whnf
    refine brn_i (fun hb => ?_) (fun hb => ?_)
    · replace h := cond_t h hb
      conv => whnf
      obtain rfl := Option.some.inj h
      exact rfl
    · replace h := cond_f h hb
      conv => whnf
      obtain ⟨t26_1, h0, k0⟩ := bind_e h
      refine Or.inr (joins_i True ((2, (AV.int IntKind.i64 after)) :: ((8, (AV.ptr 0 0 0)) :: ((26, (AV.bool t26_1)) :: []))) ((0, (AO.rows false (((AV.int IntKind.u64 y_0.1) :: ((AV.int IntKind.u64 y_0.2.1) :: ((AV.int IntKind.u64 y_0.2.2.1) :: ((AV.int IntKind.u64 y_0.2.2.2.1) :: ((AV.int IntKind.u64 y_0.2.2.2.2.1) :: ((AV.bool y_0.2.2.2.2.2.1) :: ((AV.bool y_0.2.2.2.2.2.2.1) :: ((AV.con (Value.pointer none)) :: [])))))))) :: []))) :: []) 1 ?_ (fun _ => ?_))
      · conv => whnf
        refine Or.inl ?_
        conv => whnf
        refine brn_i (fun hb => ?_) (fun hb => ?_)
        · replace h0 := cond_t h0 hb
          conv => whnf
          obtain rfl := Option.some.inj h0
          exact end_i trivial [(0, 88)] rfl rfl rfl
        · replace h0 := cond_f h0 hb
          conv => whnf
          obtain rfl := Option.some.inj h0
          exact end_i trivial [(0, 88)] rfl rfl rfl
      · conv => whnf
        refine Or.inl ?_
        conv => whnf
        refine brn_i (fun hb => ?_) (fun hb => ?_)
        · replace k0 := cond_t k0 hb
          conv => whnf
          obtain rfl := Option.some.inj k0
          exact rfl
        · replace k0 := cond_f k0 hb
          conv => whnf
          refine Or.inl ?_
          conv => whnf
          obtain ⟨y_2, hy, k0⟩ := bind_e k0
          refine ⟨_, _, (_due_seeker__next_FC F y_0.1 y_0.2.1 y_0.2.2.1 y_0.2.2.2.1 y_0.2.2.2.2.1 y_0.2.2.2.2.2.1 y_0.2.2.2.2.2.2.1 (IntKind.wrap IntKind.i64 (after + (1 : Int))) (226157759 : Int) y_2 hy), Or.inl ⟨rfl, rfl, ?_⟩⟩
          conv => whnf
          refine Or.inl ?_
          conv => whnf
          refine brn_i (fun hb => ?_) (fun hb => ?_)
          · replace k0 := cond_t k0 hb
            conv => whnf
            obtain rfl := Option.some.inj k0
            exact rfl
          · replace k0 := cond_f k0 hb
            conv => whnf
            obtain rfl := Option.some.inj k0
            exact rfl
  · replace h := elim_r h
    refine ⟨_, _, (FC_close (due_seek_FC1 F c z y_0 hy) rfl), Or.inr ⟨[], rfl, ?_⟩⟩
    conv => whnf
    refine Or.inl ?_
    conv => whnf
    refine brn_i (fun hb => ?_) (fun hb => ?_)
    · replace h := cond_t h hb
      conv => whnf
      obtain rfl := Option.some.inj h
      exact rfl
    · replace h := cond_f h hb
      conv => whnf
      obtain ⟨t26_3, h1, k1⟩ := bind_e h
      refine Or.inr (joins_i True ((2, (AV.int IntKind.i64 after)) :: ((8, (AV.ptr 0 0 0)) :: ((26, (AV.bool t26_3)) :: []))) ((0, (AO.rows false (((AV.int IntKind.u64 y_0.1) :: ((AV.int IntKind.u64 y_0.2.1) :: ((AV.int IntKind.u64 y_0.2.2.1) :: ((AV.int IntKind.u64 y_0.2.2.2.1) :: ((AV.int IntKind.u64 y_0.2.2.2.2.1) :: ((AV.bool y_0.2.2.2.2.2.1) :: ((AV.bool y_0.2.2.2.2.2.2.1) :: ((AV.rp ((AV.int IntKind.i64 y_0.2.2.2.2.2.2.2.1.rules.Base) :: ((AV.int IntKind.i64 y_0.2.2.2.2.2.2.2.1.rules.Save) :: ((AV.int IntKind.i64 y_0.2.2.2.2.2.2.2.1.rules.On.Month) :: ((AV.int IntKind.i64 y_0.2.2.2.2.2.2.2.1.rules.On.Week) :: ((AV.int IntKind.i64 y_0.2.2.2.2.2.2.2.1.rules.On.Day) :: ((AV.int IntKind.i64 y_0.2.2.2.2.2.2.2.1.rules.On.At) :: ((AV.int IntKind.i64 y_0.2.2.2.2.2.2.2.1.rules.Off.Month) :: ((AV.int IntKind.i64 y_0.2.2.2.2.2.2.2.1.rules.Off.Week) :: ((AV.int IntKind.i64 y_0.2.2.2.2.2.2.2.1.rules.Off.Day) :: ((AV.int IntKind.i64 y_0.2.2.2.2.2.2.2.1.rules.Off.At) :: ((AV.int IntKind.u32 y_0.2.2.2.2.2.2.2.1.once.done.v) :: ((AV.int IntKind.i32 y_0.2.2.2.2.2.2.2.1.once.m.mu.state) :: ((AV.int IntKind.u32 y_0.2.2.2.2.2.2.2.1.once.m.mu.sema) :: ((AV.sl (List.map zone_turn.c y_0.2.2.2.2.2.2.2.1.turns)) :: [])))))))))))))) 0) :: [])))))))) :: []))) :: []) 1 ?_ (fun _ => ?_))
      · conv => whnf
        refine Or.inl ?_
        conv => whnf
        refine brn_i (fun hb => ?_) (fun hb => ?_)
        · replace h1 := cond_t h1 hb
          conv => whnf
          obtain rfl := Option.some.inj h1
          exact end_i trivial [(0, 88)] rfl rfl rfl
        · replace h1 := cond_f h1 hb
          conv => whnf
          obtain rfl := Option.some.inj h1
          exact end_i trivial [(0, 88)] rfl rfl rfl
      · conv => whnf
        refine Or.inl ?_
        conv => whnf
        refine brn_i (fun hb => ?_) (fun hb => ?_)
        · replace k1 := cond_t k1 hb
          conv => whnf
          obtain rfl := Option.some.inj k1
          exact rfl
        · replace k1 := cond_f k1 hb
          conv => whnf
          refine Or.inl ?_
          conv => whnf
          obtain ⟨y_4, hy, k1⟩ := bind_e k1
          refine ⟨_, _, (_due_seeker__next_i1_FC F y_0.1 y_0.2.1 y_0.2.2.1 y_0.2.2.2.1 y_0.2.2.2.2.1 y_0.2.2.2.2.2.1 y_0.2.2.2.2.2.2.1 (zone_Zone.mk y_0.2.2.2.2.2.2.2.1.rules (sync_Once.mk sync_noCopy.mk (atomic_Bool.mk atomic_noCopy.mk y_0.2.2.2.2.2.2.2.1.once.done.v) (sync_Mutex_135.mk sync_noCopy.mk y_0.2.2.2.2.2.2.2.1.once.m.mu)) y_0.2.2.2.2.2.2.2.1.turns) (IntKind.wrap IntKind.i64 (after + (1 : Int))) (226157759 : Int) y_4 hy), Or.inl ⟨rfl, rfl, ?_⟩⟩
          conv => whnf
          refine Or.inl ?_
          conv => whnf
          refine brn_i (fun hb => ?_) (fun hb => ?_)
          · replace k1 := cond_t k1 hb
            conv => whnf
            obtain rfl := Option.some.inj k1
            exact rfl
          · replace k1 := cond_f k1 hb
            conv => whnf
            obtain rfl := Option.some.inj k1
            exact rfl

theorem jobs_next_FC {ml : Int} (F : Nat) (j : api_Job) (r : (Int × Int)) (h : jobs_next F j = some r) : FC Tryz.prog (GM ml) 41 [] [(AV.agg (api_Job.c j))] (.tup [(.int IntKind.i64 r.1), (.int IntKind.i64 r.2)]) [] := by
  refine FC_of 2000 Tryz.func41 rfl (by kernel_rfl) mixed (by show 1 ≤ 26; decide) ?_
  unfold jobs_next at h
  conv => whnf
  refine Or.inl ?_
  conv => whnf
  obtain ⟨y_0, hy, h⟩ := bind_e h
  refine ⟨_, _, (jobs_read_FC F j.Expr j.Zone y_0 hy), Or.inl ⟨rfl, rfl, ?_⟩⟩
  conv => whnf
  refine Or.inl ?_
  conv => whnf
  refine brn_i (fun hb => ?_) (fun hb => ?_)
  · replace h := cond_t h hb
    conv => whnf
    obtain rfl := Option.some.inj h
    exact rfl
  · replace h := cond_f h hb
    conv => whnf
    refine Or.inl ?_
    conv => whnf
    obtain ⟨y_1, hy, h⟩ := bind_e h
    refine ⟨_, _, (due_Next_FC F y_0.1 y_0.2.1 j.Mark y_1 hy), Or.inl ⟨rfl, rfl, ?_⟩⟩
    conv => whnf
    obtain rfl := Option.some.inj h
    exact rfl

theorem __jobs_table__find_i1_FC0 {ml : Int} (F : Nat) (name : (List UInt8)) (l : (List api_Job)) (r : (Int × Bool)) (h : __jobs_table__find_i1 F name l = some r) : FC Tryz.prog (GM ml) 37 ((0, (AO.rows false (((AV.osw 1 8) :: []) :: []))) :: ((1, (AO.rows true (List.map api_Job.c l))) :: [])) [(AV.ptr 0 0 0), (AV.str name)] (AV.tup ((AV.int IntKind.i64 r.1) :: ((AV.bool r.2) :: []))) ((0, (AO.rows false (((AV.osw 1 8) :: []) :: []))) :: ((1, (AO.rows true (List.map api_Job.c l))) :: [])) := by
  refine FC_ofG 2000 Tryz.func37 rfl (by kernel_rfl) mixed (by show 2 ≤ 14; decide) (by show 2 ≤ W; decide) rfl ?_
  unfold __jobs_table__find_i1 at h
  conv => whnf
  refine Or.inl ?_
  conv => whnf
  obtain ⟨y_0, hy, h⟩ := bind_e h
  refine ⟨_, _, (slices_BinarySearchFunc___api_Job_api_Job_string__FC F l name y_0 hy), Or.inl ⟨rfl, rfl, ?_⟩⟩
  conv => whnf
  obtain rfl := Option.some.inj h
  exact endG_i [(0, 0), (1, 1)] rfl rfl rfl

theorem slices_Insert___api_Job_api_Job__i2_FC0 {ml : Int} (F : Nat) (i : Int) (l : (List api_Job)) (l_2 : (List api_Job)) (r : (List api_Job)) (h : slices_Insert___api_Job_api_Job__i2 F i l l_2 = some (Sum.inl r)) : FC Tryz.prog (GM ml) 38 ((0, (AO.rows true (List.map api_Job.c l))) :: ((1, (AO.rows true (List.map api_Job.c l_2))) :: [])) [(AV.osw 0 8), (AV.int IntKind.i64 i), (AV.osw 1 (@GetElem.getElem (@Array TypeInfo) Nat TypeInfo (fun (xs_13 : (@Array TypeInfo)) => (fun (i_13 : Nat) => (i_13 < (@Array.size TypeInfo xs_13)))) (@Array.instGetElemNatLtSize TypeInfo) Proofs.Tryz.prog.toTables.types 55 (@Nat.le_of_ble_eq_true (Nat.succ 55) (@Array.size TypeInfo Proofs.Tryz.prog.toTables.types) (@rfl Bool true))).size)] (AV.osw 0 8) ((0, (AO.rows true (List.map api_Job.c r))) :: ((1, (AO.rows true (List.map api_Job.c l_2))) :: [])) := by
  refine FC_ofG 2000 Tryz.func38 rfl (by kernel_rfl) mixed (by show 3 ≤ 95; decide) (by show 2 ≤ W; decide) rfl ?_
  unfold slices_Insert___api_Job_api_Job__i2 at h
  conv => whnf
  refine And.intro (LenAll.map (fun _ => rfl)) ?_
  conv => whnf
  obtain ⟨hg, h⟩ := grd_e h
  refine And.intro hg ?_
  conv => whnf
  obtain ⟨hg, h⟩ := grd_e h
  refine And.intro (by first | exact hg | (simp; done) | simpa using hg | simpa [chunk] using hg | (simp [chunk] at hg ⊢; omega)) ?_
  conv => whnf
  obtain ⟨hg, h⟩ := grd_e h
  refine And.intro (by first | exact hg | (simp; done) | simpa using hg | simpa [chunk] using hg | (simp [chunk] at hg ⊢; omega)) ?_
  conv => whnf
  refine Or.inl ?_
  conv => whnf
  refine brn_i (fun hb => ?_) (fun hb => ?_)
  · replace h := cond_t h (by first | exact hb | (simp; done) | simpa using hb | simpa [chunk] using hb)
    conv => whnf
    obtain rfl := Sum.inl.inj (Option.some.inj h)
    exact endG_i [(0, 0), (1, 1)] rfl rfl rfl
  · replace h := cond_f h (by first | exact hb | (simp; done) | simpa using hb | simpa [chunk] using hb)
    conv => whnf
    refine Or.inl ?_
    conv => whnf
    refine brn_i (fun hb => ?_) (fun hb => ?_)
    · replace h := cond_t h (by first | exact hb | (simp; done) | simpa using hb | simpa [chunk] using hb)
      conv => whnf
      refine And.intro (LenAll.map (fun _ => rfl)) ?_
      conv => whnf
      refine And.intro (LenAll.map (fun _ => rfl)) ?_
      conv => whnf
      obtain ⟨hg, h⟩ := grd_e h
      refine And.intro (by first | exact hg | (simp; done) | simpa using hg | simpa [chunk] using hg | (simp [chunk] at hg ⊢; omega)) ?_
      conv => whnf
      cases (Option.some.inj h)
    · cases (cond_f h (by first | exact hb | (simp; done) | simpa using hb | simpa [chunk] using hb))
theorem slices_Insert___api_Job_api_Job__i2_FC1 {ml : Int} (F : Nat) (i : Int) (l : (List api_Job)) (l_2 : (List api_Job)) (r : (List api_Job)) (h : slices_Insert___api_Job_api_Job__i2 F i l l_2 = some (Sum.inr r)) : FC Tryz.prog (GM ml) 38 ((0, (AO.rows true (List.map api_Job.c l))) :: ((1, (AO.rows true (List.map api_Job.c l_2))) :: [])) [(AV.osw 0 8), (AV.int IntKind.i64 i), (AV.osw 1 (@GetElem.getElem (@Array TypeInfo) Nat TypeInfo (fun (xs_13 : (@Array TypeInfo)) => (fun (i_13 : Nat) => (i_13 < (@Array.size TypeInfo xs_13)))) (@Array.instGetElemNatLtSize TypeInfo) Proofs.Tryz.prog.toTables.types 55 (@Nat.le_of_ble_eq_true (Nat.succ 55) (@Array.size TypeInfo Proofs.Tryz.prog.toTables.types) (@rfl Bool true))).size)] (AV.osw 2 (@GetElem.getElem (@Array TypeInfo) Nat TypeInfo (fun (xs_13 : (@Array TypeInfo)) => (fun (i_13 : Nat) => (i_13 < (@Array.size TypeInfo xs_13)))) (@Array.instGetElemNatLtSize TypeInfo) Proofs.Tryz.prog.toTables.types 55 (@Nat.le_of_ble_eq_true (Nat.succ 55) (@Array.size TypeInfo Proofs.Tryz.prog.toTables.types) (@rfl Bool true))).size) ((1, (AO.rows true (List.map api_Job.c l_2))) :: ((2, (AO.rows true (List.map api_Job.c r))) :: [])) := by
  refine FC_ofG 2000 Tryz.func38 rfl (by kernel_rfl) mixed (by show 3 ≤ 95; decide) (by show 2 ≤ W; decide) rfl ?_
  unfold slices_Insert___api_Job_api_Job__i2 at h
  conv => whnf
  refine And.intro (LenAll.map (fun _ => rfl)) ?_
  conv => whnf
  obtain ⟨hg, h⟩ := grd_e h
  refine And.intro hg ?_
  conv => whnf
  obtain ⟨hg, h⟩ := grd_e h
  refine And.intro (by first | exact hg | (simp; done) | simpa using hg | simpa [chunk] using hg | (simp [chunk] at hg ⊢; omega)) ?_
  conv => whnf
  obtain ⟨hg, h⟩ := grd_e h
  refine And.intro (by first | exact hg | (simp; done) | simpa using hg | simpa [chunk] using hg | (simp [chunk] at hg ⊢; omega)) ?_
  conv => whnf
  refine Or.inl ?_
  conv => whnf
  refine brn_i (fun hb => ?_) (fun hb => ?_)
  · replace h := cond_t h (by first | exact hb | (simp; done) | simpa using hb | simpa [chunk] using hb)
    conv => whnf
    cases (Option.some.inj h)
  · replace h := cond_f h (by first | exact hb | (simp; done) | simpa using hb | simpa [chunk] using hb)
    conv => whnf
    refine Or.inl ?_
    conv => whnf
    refine brn_i (fun hb => ?_) (fun hb => ?_)
    · replace h := cond_t h (by first | exact hb | (simp; done) | simpa using hb | simpa [chunk] using hb)
      conv => whnf
      refine And.intro (LenAll.map (fun _ => rfl)) ?_
      conv => whnf
      refine And.intro (LenAll.map (fun _ => rfl)) ?_
      conv => whnf
      obtain ⟨hg, h⟩ := grd_e h
      refine And.intro (by first | exact hg | (simp; done) | simpa using hg | simpa [chunk] using hg | (simp [chunk] at hg ⊢; omega)) ?_
      conv => whnf
      obtain rfl := Sum.inr.inj (Option.some.inj h)
      exact endG_i [(0, 0), (1, 1), (2, 144)] rfl (cons2 rfl (cons2 (congrArg (fun X => some (AO.rows true X)) (by first | (simp; done) | rfl | (rw [List.map_append]; rfl))) rfl)) rfl
    · cases (cond_f h (by first | exact hb | (simp; done) | simpa using hb | simpa [chunk] using hb))

theorem __jobs_table__add_i1_FC0 {ml : Int} (F : Nat) (c : api_Cmd) (l : (List api_Job)) (r : (api_Result × (List api_Job))) (h : __jobs_table__add_i1 F c l = some (Sum.inl r)) : FC Tryz.prog (GM ml) 22 ((0, (AO.rows false (((AV.osw 1 8) :: []) :: []))) :: ((1, (AO.rows true (List.map api_Job.c l))) :: [])) [(AV.ptr 0 0 0), (AV.agg (api_Cmd.c c))] (AV.agg (api_Result.c r.1)) ((0, (AO.rows false (((AV.osw 1 8) :: []) :: []))) :: ((1, (AO.rows true (List.map api_Job.c r.2))) :: [])) := by
  refine FC_ofG 2000 Tryz.func22 rfl (by kernel_rfl) mixed (by show 2 ≤ 108; decide) (by show 2 ≤ W; decide) rfl ?_
  unfold __jobs_table__add_i1 at h
  conv => whnf
  obtain ⟨t43_2, h0, k0⟩ := bind_e h
  refine Or.inr (joins_i True ((0, (AV.ptr 0 0 0)) :: ((3, (AV.ptr 2 0 0)) :: ((4, (AV.ptr 3 0 0)) :: ((43, (AV.bool t43_2)) :: [])))) ((0, (AO.rows false (((AV.osw 1 8) :: []) :: []))) :: ((1, (AO.rows true (List.map api_Job.c l))) :: ((2, (AO.rows false (((AV.int IntKind.i64 c.Kind) :: ((AV.int IntKind.i64 c.Client) :: ((AV.int IntKind.i64 c.Seq) :: ((AV.str c.Name) :: ((AV.str c.Expr) :: ((AV.str c.Zone) :: ((AV.str c.Token) :: ((AV.int IntKind.i64 c.Time) :: [])))))))) :: []))) :: ((3, (AO.rows false (((AV.int IntKind.i64 (0 : Int)) :: ((AV.int IntKind.i64 (0 : Int)) :: (AV.esl :: []))) :: []))) :: [])))) 4 ?_ (fun _ => ?_))
  · conv => whnf
    refine Or.inl ?_
    conv => whnf
    refine Or.inl ?_
    conv => whnf
    obtain ⟨y_3, hy, h0⟩ := bind_e h0
    refine ⟨_, _, (jobs_Named_FC F c.Name y_3 hy), Or.inl ⟨rfl, rfl, ?_⟩⟩
    conv => whnf
    refine brn_i (fun hb => ?_) (fun hb => ?_)
    · replace h0 := cond_t h0 hb
      conv => whnf
      obtain rfl := Option.some.inj h0
      exact end_i trivial [(0, 0), (1, 1), (2, 8), (3, 16)] rfl rfl rfl
    · replace h0 := cond_f h0 hb
      conv => whnf
      refine brn_i (fun hb => ?_) (fun hb => ?_)
      · replace h0 := cond_t h0 hb
        conv => whnf
        obtain rfl := Option.some.inj h0
        exact end_i trivial [(0, 0), (1, 1), (2, 8), (3, 16)] rfl rfl rfl
      · replace h0 := cond_f h0 hb
        conv => whnf
        refine brn_i (fun hb => ?_) (fun hb => ?_)
        · replace h0 := cond_t h0 hb
          conv => whnf
          obtain rfl := Option.some.inj h0
          exact end_i trivial [(0, 0), (1, 1), (2, 8), (3, 16)] rfl rfl rfl
        · replace h0 := cond_f h0 hb
          conv => whnf
          refine brn_i (fun hb => ?_) (fun hb => ?_)
          · replace h0 := cond_t h0 hb
            conv => whnf
            obtain rfl := Option.some.inj h0
            exact end_i trivial [(0, 0), (1, 1), (2, 8), (3, 16)] rfl rfl rfl
          · replace h0 := cond_f h0 hb
            conv => whnf
            refine brn_i (fun hb => ?_) (fun hb => ?_)
            · replace h0 := cond_t h0 hb
              conv => whnf
              obtain rfl := Option.some.inj h0
              exact end_i trivial [(0, 0), (1, 1), (2, 8), (3, 16)] rfl rfl rfl
            · replace h0 := cond_f h0 hb
              conv => whnf
              refine Or.inl ?_
              conv => whnf
              obtain ⟨y_4, hy, h0⟩ := bind_e h0
              refine ⟨_, _, (jobs_marked_FC F c.Time y_4 hy), Or.inl ⟨rfl, rfl, ?_⟩⟩
              conv => whnf
              obtain rfl := Option.some.inj h0
              exact end_i trivial [(0, 0), (1, 1), (2, 8), (3, 16)] rfl rfl rfl
  · conv => whnf
    refine Or.inl ?_
    conv => whnf
    refine brn_i (fun hb => ?_) (fun hb => ?_)
    · replace k0 := cond_t k0 hb
      conv => whnf
      refine Or.inl ?_
      conv => whnf
      obtain ⟨y_5, hy, k0⟩ := bind_e k0
      refine ⟨_, _, (jobs_no_FC F (1 : Int) y_5 hy), Or.inr ⟨[], rfl, ?_⟩⟩
      conv => whnf
      obtain rfl := Sum.inl.inj (Option.some.inj k0)
      exact endG_i [(0, 0), (1, 1)] rfl rfl rfl
    · replace k0 := cond_f k0 hb
      conv => whnf
      refine Or.inl ?_
      conv => whnf
      obtain ⟨y_6, hy, k0⟩ := bind_e k0
      refine ⟨_, _, (jobs_read_FC F c.Expr c.Zone y_6 hy), Or.inl ⟨rfl, rfl, ?_⟩⟩
      conv => whnf
      refine Or.inl ?_
      conv => whnf
      refine brn_i (fun hb => ?_) (fun hb => ?_)
      · replace k0 := cond_t k0 hb
        conv => whnf
        refine Or.inl ?_
        conv => whnf
        obtain ⟨y_7, hy, k0⟩ := bind_e k0
        refine ⟨_, _, (jobs_no_FC F y_6.2.2 y_7 hy), Or.inr ⟨[], rfl, ?_⟩⟩
        conv => whnf
        obtain rfl := Sum.inl.inj (Option.some.inj k0)
        exact endG_i [(0, 0), (1, 1)] rfl rfl rfl
      · replace k0 := cond_f k0 hb
        conv => whnf
        obtain ⟨y_8, hy, k0⟩ := bind_e k0
        refine Or.inr (callG_i [0, 1] (__jobs_table__find_i1_FC0 F c.Name l y_8 hy) rfl rfl rfl rfl ?_)
        conv => whnf
        refine Or.inl ?_
        conv => whnf
        refine Or.inl ?_
        conv => whnf
        refine brn_i (fun hb => ?_) (fun hb => ?_)
        · replace k0 := cond_t k0 hb
          conv => whnf
          refine Or.inl ?_
          conv => whnf
          obtain ⟨y_11, hy, k0⟩ := bind_e k0
          refine ⟨_, _, (jobs_no_FC F (150 : Int) y_11 hy), Or.inr ⟨[], rfl, ?_⟩⟩
          conv => whnf
          obtain rfl := Sum.inl.inj (Option.some.inj k0)
          exact endG_i [(0, 0), (1, 1)] rfl rfl rfl
        · replace k0 := cond_f k0 hb
          conv => whnf
          refine Or.inl ?_
          conv => whnf
          refine brn_i (fun hb => ?_) (fun hb => ?_)
          · replace k0 := cond_t k0 (by first | exact hb | (simp; done) | simpa using hb | simpa [chunk] using hb)
            conv => whnf
            refine Or.inl ?_
            conv => whnf
            obtain ⟨y_12, hy, k0⟩ := bind_e k0
            refine ⟨_, _, (jobs_no_FC F (3 : Int) y_12 hy), Or.inr ⟨[], rfl, ?_⟩⟩
            conv => whnf
            obtain rfl := Sum.inl.inj (Option.some.inj k0)
            exact endG_i [(0, 0), (1, 1)] rfl rfl rfl
          · replace k0 := cond_f k0 (by first | exact hb | (simp; done) | simpa using hb | simpa [chunk] using hb)
            conv => whnf
            refine Or.inl ?_
            conv => whnf
            obtain ⟨y_13, hy, k0⟩ := bind_e k0
            refine ⟨_, _, (cron_Print_FC F y_6.1 y_13 hy), Or.inl ⟨rfl, rfl, ?_⟩⟩
            conv => whnf
            obtain ⟨y_14, hy, k0⟩ := bind_e k0
            rcases y_14 with y_14 | y_14
            · replace k0 := elim_l k0
              refine Or.inr (callG_i [1, 516] (slices_Insert___api_Job_api_Job__i2_FC0 F y_8.1 l ((api_Job.mk c.Name y_13.1 c.Zone c.Token c.Client c.Seq false c.Time) :: []) y_14 hy) rfl rfl (cons2 rfl (cons2 (congrArg (fun X => some (AO.rows true X)) (by first | (simp; done) | rfl | (rw [List.map_append]; rfl))) rfl)) rfl ?_)
              conv => whnf
              refine And.intro (by kernel_rfl) ?_
              conv => whnf
              refine Or.inl ?_
              conv => whnf
              obtain ⟨y_15, hy, k0⟩ := bind_e k0
              refine ⟨_, _, (FC_close (jobs_one_FC0 F (api_Job.mk c.Name y_13.1 c.Zone c.Token c.Client c.Seq false c.Time) y_15 hy) rfl), Or.inr ⟨[], rfl, ?_⟩⟩
              conv => whnf
              obtain rfl := Sum.inl.inj (Option.some.inj k0)
              exact endG_i [(0, 0), (1, 1)] rfl rfl rfl
            · replace k0 := elim_r k0
              refine Or.inr (callG_i [1, 516] (slices_Insert___api_Job_api_Job__i2_FC1 F y_8.1 l ((api_Job.mk c.Name y_13.1 c.Zone c.Token c.Client c.Seq false c.Time) :: []) y_14 hy) rfl rfl (cons2 rfl (cons2 (congrArg (fun X => some (AO.rows true X)) (by first | (simp; done) | rfl | (rw [List.map_append]; rfl))) rfl)) rfl ?_)
              conv => whnf
              refine And.intro (by kernel_rfl) ?_
              conv => whnf
              refine Or.inl ?_
              conv => whnf
              obtain ⟨y_16, hy, k0⟩ := bind_e k0
              refine ⟨_, _, (FC_close (jobs_one_FC0 F (api_Job.mk c.Name y_13.1 c.Zone c.Token c.Client c.Seq false c.Time) y_16 hy) rfl), Or.inr ⟨[], rfl, ?_⟩⟩
              conv => whnf
              cases (Option.some.inj k0)
theorem __jobs_table__add_i1_FC1 {ml : Int} (F : Nat) (c : api_Cmd) (l : (List api_Job)) (r : (api_Result × (List api_Job) × (List api_Job))) (h : __jobs_table__add_i1 F c l = some (Sum.inr (Sum.inl r))) : FC Tryz.prog (GM ml) 22 ((0, (AO.rows false (((AV.osw 1 8) :: []) :: []))) :: ((1, (AO.rows true (List.map api_Job.c l))) :: [])) [(AV.ptr 0 0 0), (AV.agg (api_Cmd.c c))] (AV.agg (api_Result.c r.1)) ((0, (AO.rows false (((AV.sl (List.map api_Job.c r.2.1)) :: []) :: []))) :: ((1, (AO.froz (List.map api_Job.c r.2.2))) :: [])) := by
  refine FC_ofG 2000 Tryz.func22 rfl (by kernel_rfl) mixed (by show 2 ≤ 108; decide) (by show 2 ≤ W; decide) rfl ?_
  unfold __jobs_table__add_i1 at h
  conv => whnf
  obtain ⟨t43_2, h0, k0⟩ := bind_e h
  refine Or.inr (joins_i True ((0, (AV.ptr 0 0 0)) :: ((3, (AV.ptr 2 0 0)) :: ((4, (AV.ptr 3 0 0)) :: ((43, (AV.bool t43_2)) :: [])))) ((0, (AO.rows false (((AV.osw 1 8) :: []) :: []))) :: ((1, (AO.rows true (List.map api_Job.c l))) :: ((2, (AO.rows false (((AV.int IntKind.i64 c.Kind) :: ((AV.int IntKind.i64 c.Client) :: ((AV.int IntKind.i64 c.Seq) :: ((AV.str c.Name) :: ((AV.str c.Expr) :: ((AV.str c.Zone) :: ((AV.str c.Token) :: ((AV.int IntKind.i64 c.Time) :: [])))))))) :: []))) :: ((3, (AO.rows false (((AV.int IntKind.i64 (0 : Int)) :: ((AV.int IntKind.i64 (0 : Int)) :: (AV.esl :: []))) :: []))) :: [])))) 4 ?_ (fun _ => ?_))
  · conv => whnf
    refine Or.inl ?_
    conv => whnf
    refine Or.inl ?_
    conv => whnf
    obtain ⟨y_3, hy, h0⟩ := bind_e h0
    refine ⟨_, _, (jobs_Named_FC F c.Name y_3 hy), Or.inl ⟨rfl, rfl, ?_⟩⟩
    conv => whnf
    refine brn_i (fun hb => ?_) (fun hb => ?_)
    · replace h0 := cond_t h0 hb
      conv => whnf
      obtain rfl := Option.some.inj h0
      exact end_i trivial [(0, 0), (1, 1), (2, 8), (3, 16)] rfl rfl rfl
    · replace h0 := cond_f h0 hb
      conv => whnf
      refine brn_i (fun hb => ?_) (fun hb => ?_)
      · replace h0 := cond_t h0 hb
        conv => whnf
        obtain rfl := Option.some.inj h0
        exact end_i trivial [(0, 0), (1, 1), (2, 8), (3, 16)] rfl rfl rfl
      · replace h0 := cond_f h0 hb
        conv => whnf
        refine brn_i (fun hb => ?_) (fun hb => ?_)
        · replace h0 := cond_t h0 hb
          conv => whnf
          obtain rfl := Option.some.inj h0
          exact end_i trivial [(0, 0), (1, 1), (2, 8), (3, 16)] rfl rfl rfl
        · replace h0 := cond_f h0 hb
          conv => whnf
          refine brn_i (fun hb => ?_) (fun hb => ?_)
          · replace h0 := cond_t h0 hb
            conv => whnf
            obtain rfl := Option.some.inj h0
            exact end_i trivial [(0, 0), (1, 1), (2, 8), (3, 16)] rfl rfl rfl
          · replace h0 := cond_f h0 hb
            conv => whnf
            refine brn_i (fun hb => ?_) (fun hb => ?_)
            · replace h0 := cond_t h0 hb
              conv => whnf
              obtain rfl := Option.some.inj h0
              exact end_i trivial [(0, 0), (1, 1), (2, 8), (3, 16)] rfl rfl rfl
            · replace h0 := cond_f h0 hb
              conv => whnf
              refine Or.inl ?_
              conv => whnf
              obtain ⟨y_4, hy, h0⟩ := bind_e h0
              refine ⟨_, _, (jobs_marked_FC F c.Time y_4 hy), Or.inl ⟨rfl, rfl, ?_⟩⟩
              conv => whnf
              obtain rfl := Option.some.inj h0
              exact end_i trivial [(0, 0), (1, 1), (2, 8), (3, 16)] rfl rfl rfl
  · conv => whnf
    refine Or.inl ?_
    conv => whnf
    refine brn_i (fun hb => ?_) (fun hb => ?_)
    · replace k0 := cond_t k0 hb
      conv => whnf
      refine Or.inl ?_
      conv => whnf
      obtain ⟨y_5, hy, k0⟩ := bind_e k0
      refine ⟨_, _, (jobs_no_FC F (1 : Int) y_5 hy), Or.inr ⟨[], rfl, ?_⟩⟩
      conv => whnf
      cases (Option.some.inj k0)
    · replace k0 := cond_f k0 hb
      conv => whnf
      refine Or.inl ?_
      conv => whnf
      obtain ⟨y_6, hy, k0⟩ := bind_e k0
      refine ⟨_, _, (jobs_read_FC F c.Expr c.Zone y_6 hy), Or.inl ⟨rfl, rfl, ?_⟩⟩
      conv => whnf
      refine Or.inl ?_
      conv => whnf
      refine brn_i (fun hb => ?_) (fun hb => ?_)
      · replace k0 := cond_t k0 hb
        conv => whnf
        refine Or.inl ?_
        conv => whnf
        obtain ⟨y_7, hy, k0⟩ := bind_e k0
        refine ⟨_, _, (jobs_no_FC F y_6.2.2 y_7 hy), Or.inr ⟨[], rfl, ?_⟩⟩
        conv => whnf
        cases (Option.some.inj k0)
      · replace k0 := cond_f k0 hb
        conv => whnf
        obtain ⟨y_8, hy, k0⟩ := bind_e k0
        refine Or.inr (callG_i [0, 1] (__jobs_table__find_i1_FC0 F c.Name l y_8 hy) rfl rfl rfl rfl ?_)
        conv => whnf
        refine Or.inl ?_
        conv => whnf
        refine Or.inl ?_
        conv => whnf
        refine brn_i (fun hb => ?_) (fun hb => ?_)
        · replace k0 := cond_t k0 hb
          conv => whnf
          refine Or.inl ?_
          conv => whnf
          obtain ⟨y_11, hy, k0⟩ := bind_e k0
          refine ⟨_, _, (jobs_no_FC F (150 : Int) y_11 hy), Or.inr ⟨[], rfl, ?_⟩⟩
          conv => whnf
          cases (Option.some.inj k0)
        · replace k0 := cond_f k0 hb
          conv => whnf
          refine Or.inl ?_
          conv => whnf
          refine brn_i (fun hb => ?_) (fun hb => ?_)
          · replace k0 := cond_t k0 (by first | exact hb | (simp; done) | simpa using hb | simpa [chunk] using hb)
            conv => whnf
            refine Or.inl ?_
            conv => whnf
            obtain ⟨y_12, hy, k0⟩ := bind_e k0
            refine ⟨_, _, (jobs_no_FC F (3 : Int) y_12 hy), Or.inr ⟨[], rfl, ?_⟩⟩
            conv => whnf
            cases (Option.some.inj k0)
          · replace k0 := cond_f k0 (by first | exact hb | (simp; done) | simpa using hb | simpa [chunk] using hb)
            conv => whnf
            refine Or.inl ?_
            conv => whnf
            obtain ⟨y_13, hy, k0⟩ := bind_e k0
            refine ⟨_, _, (cron_Print_FC F y_6.1 y_13 hy), Or.inl ⟨rfl, rfl, ?_⟩⟩
            conv => whnf
            obtain ⟨y_14, hy, k0⟩ := bind_e k0
            rcases y_14 with y_14 | y_14
            · replace k0 := elim_l k0
              refine Or.inr (callG_i [1, 516] (slices_Insert___api_Job_api_Job__i2_FC0 F y_8.1 l ((api_Job.mk c.Name y_13.1 c.Zone c.Token c.Client c.Seq false c.Time) :: []) y_14 hy) rfl rfl (cons2 rfl (cons2 (congrArg (fun X => some (AO.rows true X)) (by first | (simp; done) | rfl | (rw [List.map_append]; rfl))) rfl)) rfl ?_)
              conv => whnf
              refine And.intro (by kernel_rfl) ?_
              conv => whnf
              refine Or.inl ?_
              conv => whnf
              obtain ⟨y_15, hy, k0⟩ := bind_e k0
              refine ⟨_, _, (FC_close (jobs_one_FC0 F (api_Job.mk c.Name y_13.1 c.Zone c.Token c.Client c.Seq false c.Time) y_15 hy) rfl), Or.inr ⟨[], rfl, ?_⟩⟩
              conv => whnf
              cases (Option.some.inj k0)
            · replace k0 := elim_r k0
              refine Or.inr (callG_i [1, 516] (slices_Insert___api_Job_api_Job__i2_FC1 F y_8.1 l ((api_Job.mk c.Name y_13.1 c.Zone c.Token c.Client c.Seq false c.Time) :: []) y_14 hy) rfl rfl (cons2 rfl (cons2 (congrArg (fun X => some (AO.rows true X)) (by first | (simp; done) | rfl | (rw [List.map_append]; rfl))) rfl)) rfl ?_)
              conv => whnf
              refine And.intro (by kernel_rfl) ?_
              conv => whnf
              refine Or.inl ?_
              conv => whnf
              obtain ⟨y_16, hy, k0⟩ := bind_e k0
              refine ⟨_, _, (FC_close (jobs_one_FC0 F (api_Job.mk c.Name y_13.1 c.Zone c.Token c.Client c.Seq false c.Time) y_16 hy) rfl), Or.inr ⟨[], rfl, ?_⟩⟩
              conv => whnf
              cases (Option.some.inj k0)
theorem __jobs_table__add_i1_FC2 {ml : Int} (F : Nat) (c : api_Cmd) (l : (List api_Job)) (r : (api_Result × (List api_Job))) (h : __jobs_table__add_i1 F c l = some (Sum.inr (Sum.inr r))) : FC Tryz.prog (GM ml) 22 ((0, (AO.rows false (((AV.osw 1 8) :: []) :: []))) :: ((1, (AO.rows true (List.map api_Job.c l))) :: [])) [(AV.ptr 0 0 0), (AV.agg (api_Cmd.c c))] (AV.agg (api_Result.c r.1)) ((0, (AO.rows false (((AV.osw 2 (@GetElem.getElem (@Array TypeInfo) Nat TypeInfo (fun (xs_13 : (@Array TypeInfo)) => (fun (i_13 : Nat) => (i_13 < (@Array.size TypeInfo xs_13)))) (@Array.instGetElemNatLtSize TypeInfo) Proofs.Tryz.prog.toTables.types 55 (@Nat.le_of_ble_eq_true (Nat.succ 55) (@Array.size TypeInfo Proofs.Tryz.prog.toTables.types) (@rfl Bool true))).size) :: []) :: []))) :: ((2, (AO.rows true (List.map api_Job.c r.2))) :: [])) := by
  refine FC_ofG 2000 Tryz.func22 rfl (by kernel_rfl) mixed (by show 2 ≤ 108; decide) (by show 2 ≤ W; decide) rfl ?_
  unfold __jobs_table__add_i1 at h
  conv => whnf
  obtain ⟨t43_2, h0, k0⟩ := bind_e h
  refine Or.inr (joins_i True ((0, (AV.ptr 0 0 0)) :: ((3, (AV.ptr 2 0 0)) :: ((4, (AV.ptr 3 0 0)) :: ((43, (AV.bool t43_2)) :: [])))) ((0, (AO.rows false (((AV.osw 1 8) :: []) :: []))) :: ((1, (AO.rows true (List.map api_Job.c l))) :: ((2, (AO.rows false (((AV.int IntKind.i64 c.Kind) :: ((AV.int IntKind.i64 c.Client) :: ((AV.int IntKind.i64 c.Seq) :: ((AV.str c.Name) :: ((AV.str c.Expr) :: ((AV.str c.Zone) :: ((AV.str c.Token) :: ((AV.int IntKind.i64 c.Time) :: [])))))))) :: []))) :: ((3, (AO.rows false (((AV.int IntKind.i64 (0 : Int)) :: ((AV.int IntKind.i64 (0 : Int)) :: (AV.esl :: []))) :: []))) :: [])))) 4 ?_ (fun _ => ?_))
  · conv => whnf
    refine Or.inl ?_
    conv => whnf
    refine Or.inl ?_
    conv => whnf
    obtain ⟨y_3, hy, h0⟩ := bind_e h0
    refine ⟨_, _, (jobs_Named_FC F c.Name y_3 hy), Or.inl ⟨rfl, rfl, ?_⟩⟩
    conv => whnf
    refine brn_i (fun hb => ?_) (fun hb => ?_)
    · replace h0 := cond_t h0 hb
      conv => whnf
      obtain rfl := Option.some.inj h0
      exact end_i trivial [(0, 0), (1, 1), (2, 8), (3, 16)] rfl rfl rfl
    · replace h0 := cond_f h0 hb
      conv => whnf
      refine brn_i (fun hb => ?_) (fun hb => ?_)
      · replace h0 := cond_t h0 hb
        conv => whnf
        obtain rfl := Option.some.inj h0
        exact end_i trivial [(0, 0), (1, 1), (2, 8), (3, 16)] rfl rfl rfl
      · replace h0 := cond_f h0 hb
        conv => whnf
        refine brn_i (fun hb => ?_) (fun hb => ?_)
        · replace h0 := cond_t h0 hb
          conv => whnf
          obtain rfl := Option.some.inj h0
          exact end_i trivial [(0, 0), (1, 1), (2, 8), (3, 16)] rfl rfl rfl
        · replace h0 := cond_f h0 hb
          conv => whnf
          refine brn_i (fun hb => ?_) (fun hb => ?_)
          · replace h0 := cond_t h0 hb
            conv => whnf
            obtain rfl := Option.some.inj h0
            exact end_i trivial [(0, 0), (1, 1), (2, 8), (3, 16)] rfl rfl rfl
          · replace h0 := cond_f h0 hb
            conv => whnf
            refine brn_i (fun hb => ?_) (fun hb => ?_)
            · replace h0 := cond_t h0 hb
              conv => whnf
              obtain rfl := Option.some.inj h0
              exact end_i trivial [(0, 0), (1, 1), (2, 8), (3, 16)] rfl rfl rfl
            · replace h0 := cond_f h0 hb
              conv => whnf
              refine Or.inl ?_
              conv => whnf
              obtain ⟨y_4, hy, h0⟩ := bind_e h0
              refine ⟨_, _, (jobs_marked_FC F c.Time y_4 hy), Or.inl ⟨rfl, rfl, ?_⟩⟩
              conv => whnf
              obtain rfl := Option.some.inj h0
              exact end_i trivial [(0, 0), (1, 1), (2, 8), (3, 16)] rfl rfl rfl
  · conv => whnf
    refine Or.inl ?_
    conv => whnf
    refine brn_i (fun hb => ?_) (fun hb => ?_)
    · replace k0 := cond_t k0 hb
      conv => whnf
      refine Or.inl ?_
      conv => whnf
      obtain ⟨y_5, hy, k0⟩ := bind_e k0
      refine ⟨_, _, (jobs_no_FC F (1 : Int) y_5 hy), Or.inr ⟨[], rfl, ?_⟩⟩
      conv => whnf
      cases (Option.some.inj k0)
    · replace k0 := cond_f k0 hb
      conv => whnf
      refine Or.inl ?_
      conv => whnf
      obtain ⟨y_6, hy, k0⟩ := bind_e k0
      refine ⟨_, _, (jobs_read_FC F c.Expr c.Zone y_6 hy), Or.inl ⟨rfl, rfl, ?_⟩⟩
      conv => whnf
      refine Or.inl ?_
      conv => whnf
      refine brn_i (fun hb => ?_) (fun hb => ?_)
      · replace k0 := cond_t k0 hb
        conv => whnf
        refine Or.inl ?_
        conv => whnf
        obtain ⟨y_7, hy, k0⟩ := bind_e k0
        refine ⟨_, _, (jobs_no_FC F y_6.2.2 y_7 hy), Or.inr ⟨[], rfl, ?_⟩⟩
        conv => whnf
        cases (Option.some.inj k0)
      · replace k0 := cond_f k0 hb
        conv => whnf
        obtain ⟨y_8, hy, k0⟩ := bind_e k0
        refine Or.inr (callG_i [0, 1] (__jobs_table__find_i1_FC0 F c.Name l y_8 hy) rfl rfl rfl rfl ?_)
        conv => whnf
        refine Or.inl ?_
        conv => whnf
        refine Or.inl ?_
        conv => whnf
        refine brn_i (fun hb => ?_) (fun hb => ?_)
        · replace k0 := cond_t k0 hb
          conv => whnf
          refine Or.inl ?_
          conv => whnf
          obtain ⟨y_11, hy, k0⟩ := bind_e k0
          refine ⟨_, _, (jobs_no_FC F (150 : Int) y_11 hy), Or.inr ⟨[], rfl, ?_⟩⟩
          conv => whnf
          cases (Option.some.inj k0)
        · replace k0 := cond_f k0 hb
          conv => whnf
          refine Or.inl ?_
          conv => whnf
          refine brn_i (fun hb => ?_) (fun hb => ?_)
          · replace k0 := cond_t k0 (by first | exact hb | (simp; done) | simpa using hb | simpa [chunk] using hb)
            conv => whnf
            refine Or.inl ?_
            conv => whnf
            obtain ⟨y_12, hy, k0⟩ := bind_e k0
            refine ⟨_, _, (jobs_no_FC F (3 : Int) y_12 hy), Or.inr ⟨[], rfl, ?_⟩⟩
            conv => whnf
            cases (Option.some.inj k0)
          · replace k0 := cond_f k0 (by first | exact hb | (simp; done) | simpa using hb | simpa [chunk] using hb)
            conv => whnf
            refine Or.inl ?_
            conv => whnf
            obtain ⟨y_13, hy, k0⟩ := bind_e k0
            refine ⟨_, _, (cron_Print_FC F y_6.1 y_13 hy), Or.inl ⟨rfl, rfl, ?_⟩⟩
            conv => whnf
            obtain ⟨y_14, hy, k0⟩ := bind_e k0
            rcases y_14 with y_14 | y_14
            · replace k0 := elim_l k0
              refine Or.inr (callG_i [1, 516] (slices_Insert___api_Job_api_Job__i2_FC0 F y_8.1 l ((api_Job.mk c.Name y_13.1 c.Zone c.Token c.Client c.Seq false c.Time) :: []) y_14 hy) rfl rfl (cons2 rfl (cons2 (congrArg (fun X => some (AO.rows true X)) (by first | (simp; done) | rfl | (rw [List.map_append]; rfl))) rfl)) rfl ?_)
              conv => whnf
              refine And.intro (by kernel_rfl) ?_
              conv => whnf
              refine Or.inl ?_
              conv => whnf
              obtain ⟨y_15, hy, k0⟩ := bind_e k0
              refine ⟨_, _, (FC_close (jobs_one_FC0 F (api_Job.mk c.Name y_13.1 c.Zone c.Token c.Client c.Seq false c.Time) y_15 hy) rfl), Or.inr ⟨[], rfl, ?_⟩⟩
              conv => whnf
              cases (Option.some.inj k0)
            · replace k0 := elim_r k0
              refine Or.inr (callG_i [1, 516] (slices_Insert___api_Job_api_Job__i2_FC1 F y_8.1 l ((api_Job.mk c.Name y_13.1 c.Zone c.Token c.Client c.Seq false c.Time) :: []) y_14 hy) rfl rfl (cons2 rfl (cons2 (congrArg (fun X => some (AO.rows true X)) (by first | (simp; done) | rfl | (rw [List.map_append]; rfl))) rfl)) rfl ?_)
              conv => whnf
              refine And.intro (by kernel_rfl) ?_
              conv => whnf
              refine Or.inl ?_
              conv => whnf
              obtain ⟨y_16, hy, k0⟩ := bind_e k0
              refine ⟨_, _, (FC_close (jobs_one_FC0 F (api_Job.mk c.Name y_13.1 c.Zone c.Token c.Client c.Seq false c.Time) y_16 hy) rfl), Or.inr ⟨[], rfl, ?_⟩⟩
              conv => whnf
              obtain rfl := Sum.inr.inj (Sum.inr.inj (Option.some.inj k0))
              exact endG_i [(0, 0), (1, 1), (2, 526)] rfl rfl rfl

theorem __jobs_table__remove_i1_FC0 {ml : Int} (F : Nat) (c : api_Cmd) (l : (List api_Job)) (r : (api_Result × (List api_Job))) (h : __jobs_table__remove_i1 F c l = some (Sum.inl r)) : FC Tryz.prog (GM ml) 23 ((0, (AO.rows false (((AV.osw 1 8) :: []) :: []))) :: ((1, (AO.rows true (List.map api_Job.c l))) :: [])) [(AV.ptr 0 0 0), (AV.agg (api_Cmd.c c))] (AV.agg (api_Result.c r.1)) ((0, (AO.rows false (((AV.osw 1 8) :: []) :: []))) :: ((1, (AO.rows true (List.map api_Job.c r.2))) :: [])) := by
  refine FC_ofG 2000 Tryz.func23 rfl (by kernel_rfl) mixed (by show 2 ≤ 38; decide) (by show 2 ≤ W; decide) rfl ?_
  unfold __jobs_table__remove_i1 at h
  conv => whnf
  obtain ⟨y_0, hy, h⟩ := bind_e h
  refine Or.inr (callG_i [0, 1] (__jobs_table__find_i1_FC0 F c.Name l y_0 hy) rfl rfl rfl rfl ?_)
  conv => whnf
  refine Or.inl ?_
  conv => whnf
  refine brn_i (fun hb => ?_) (fun hb => ?_)
  · replace h := cond_t h hb
    conv => whnf
    refine Or.inl ?_
    conv => whnf
    obtain ⟨y_1, hy, h⟩ := bind_e h
    refine ⟨_, _, (jobs_no_FC F (151 : Int) y_1 hy), Or.inr ⟨[], rfl, ?_⟩⟩
    conv => whnf
    obtain rfl := Sum.inl.inj (Option.some.inj h)
    exact endG_i [(0, 0), (1, 1)] rfl rfl rfl
  · replace h := cond_f h hb
    conv => whnf
    obtain ⟨hg, h⟩ := grd_e h
    refine And.intro hg ?_
    conv => whnf
    obtain ⟨y_2, hy, h⟩ := bind_e h
    refine opt_i (api_Job.c y_2) (getE rfl hy) ?_
    conv => whnf
    obtain ⟨y_3, hy, h⟩ := bind_e h
    refine opt_i (api_Job.c y_3) (getE rfl hy) ?_
    conv => whnf
    refine Or.inl ?_
    conv => whnf
    obtain ⟨y_4, hy, h⟩ := bind_e h
    refine ⟨_, _, (slices_Delete___api_Job_api_Job__FC F l y_0.1 (IntKind.wrap IntKind.i64 (y_0.1 + (1 : Int))) y_4 hy), Or.inr ⟨[1], rfl, ?_⟩⟩
    conv => whnf
    refine Or.inl ?_
    conv => whnf
    obtain ⟨y_5, hy, h⟩ := bind_e h
    refine ⟨_, _, (FC_close (jobs_one_FC0 F y_3 y_5 hy) rfl), Or.inr ⟨[], rfl, ?_⟩⟩
    conv => whnf
    cases (Option.some.inj h)
theorem __jobs_table__remove_i1_FC1 {ml : Int} (F : Nat) (c : api_Cmd) (l : (List api_Job)) (r : (api_Result × (List api_Job) × (List api_Job))) (h : __jobs_table__remove_i1 F c l = some (Sum.inr r)) : FC Tryz.prog (GM ml) 23 ((0, (AO.rows false (((AV.osw 1 8) :: []) :: []))) :: ((1, (AO.rows true (List.map api_Job.c l))) :: [])) [(AV.ptr 0 0 0), (AV.agg (api_Cmd.c c))] (AV.agg (api_Result.c r.1)) ((0, (AO.rows false (((AV.sl (List.map api_Job.c r.2.1)) :: []) :: []))) :: ((1, (AO.froz (List.map api_Job.c r.2.2))) :: [])) := by
  refine FC_ofG 2000 Tryz.func23 rfl (by kernel_rfl) mixed (by show 2 ≤ 38; decide) (by show 2 ≤ W; decide) rfl ?_
  unfold __jobs_table__remove_i1 at h
  conv => whnf
  obtain ⟨y_0, hy, h⟩ := bind_e h
  refine Or.inr (callG_i [0, 1] (__jobs_table__find_i1_FC0 F c.Name l y_0 hy) rfl rfl rfl rfl ?_)
  conv => whnf
  refine Or.inl ?_
  conv => whnf
  refine brn_i (fun hb => ?_) (fun hb => ?_)
  · replace h := cond_t h hb
    conv => whnf
    refine Or.inl ?_
    conv => whnf
    obtain ⟨y_1, hy, h⟩ := bind_e h
    refine ⟨_, _, (jobs_no_FC F (151 : Int) y_1 hy), Or.inr ⟨[], rfl, ?_⟩⟩
    conv => whnf
    cases (Option.some.inj h)
  · replace h := cond_f h hb
    conv => whnf
    obtain ⟨hg, h⟩ := grd_e h
    refine And.intro hg ?_
    conv => whnf
    obtain ⟨y_2, hy, h⟩ := bind_e h
    refine opt_i (api_Job.c y_2) (getE rfl hy) ?_
    conv => whnf
    obtain ⟨y_3, hy, h⟩ := bind_e h
    refine opt_i (api_Job.c y_3) (getE rfl hy) ?_
    conv => whnf
    refine Or.inl ?_
    conv => whnf
    obtain ⟨y_4, hy, h⟩ := bind_e h
    refine ⟨_, _, (slices_Delete___api_Job_api_Job__FC F l y_0.1 (IntKind.wrap IntKind.i64 (y_0.1 + (1 : Int))) y_4 hy), Or.inr ⟨[1], rfl, ?_⟩⟩
    conv => whnf
    refine Or.inl ?_
    conv => whnf
    obtain ⟨y_5, hy, h⟩ := bind_e h
    refine ⟨_, _, (FC_close (jobs_one_FC0 F y_3 y_5 hy) rfl), Or.inr ⟨[], rfl, ?_⟩⟩
    conv => whnf
    obtain rfl := Sum.inr.inj (Option.some.inj h)
    exact endG_i [(0, 0), (1, 1)] rfl rfl rfl

theorem __jobs_table__pause_i1_FC0 {ml : Int} (F : Nat) (c : api_Cmd) (l : (List api_Job)) (r : (api_Result × (List api_Job))) (h : __jobs_table__pause_i1 F c l = some r) : FC Tryz.prog (GM ml) 24 ((0, (AO.rows false (((AV.osw 1 8) :: []) :: []))) :: ((1, (AO.rows true (List.map api_Job.c l))) :: [])) [(AV.ptr 0 0 0), (AV.agg (api_Cmd.c c))] (AV.agg (api_Result.c r.1)) ((0, (AO.rows false (((AV.osw 1 8) :: []) :: []))) :: ((1, (AO.rows true (List.map api_Job.c r.2))) :: [])) := by
  refine FC_ofG 2000 Tryz.func24 rfl (by kernel_rfl) mixed (by show 2 ≤ 41; decide) (by show 2 ≤ W; decide) rfl ?_
  unfold __jobs_table__pause_i1 at h
  conv => whnf
  obtain ⟨y_0, hy, h⟩ := bind_e h
  refine Or.inr (callG_i [0, 1] (__jobs_table__find_i1_FC0 F c.Name l y_0 hy) rfl rfl rfl rfl ?_)
  conv => whnf
  refine Or.inl ?_
  conv => whnf
  refine brn_i (fun hb => ?_) (fun hb => ?_)
  · replace h := cond_t h hb
    conv => whnf
    refine Or.inl ?_
    conv => whnf
    obtain ⟨y_1, hy, h⟩ := bind_e h
    refine ⟨_, _, (jobs_no_FC F (151 : Int) y_1 hy), Or.inr ⟨[], rfl, ?_⟩⟩
    conv => whnf
    obtain rfl := Option.some.inj h
    exact endG_i [(0, 0), (1, 1)] rfl rfl rfl
  · replace h := cond_f h hb
    conv => whnf
    obtain ⟨hg, h⟩ := grd_e h
    refine And.intro hg ?_
    conv => whnf
    obtain ⟨y_2, hy, h⟩ := bind_e h
    refine opt_i (api_Job.c y_2) (getE rfl hy) ?_
    conv => whnf
    obtain ⟨y_3, hy, h⟩ := bind_e h
    refine opt_i (api_Job.c y_3) (getE rfl hy) ?_
    conv => whnf
    refine Or.inl ?_
    conv => whnf
    refine brn_i (fun hb => ?_) (fun hb => ?_)
    · replace h := cond_t h hb
      conv => whnf
      refine Or.inl ?_
      conv => whnf
      obtain ⟨y_4, hy, h⟩ := bind_e h
      refine ⟨_, _, (jobs_no_FC F (4 : Int) y_4 hy), Or.inr ⟨[], rfl, ?_⟩⟩
      conv => whnf
      obtain rfl := Option.some.inj h
      exact endG_i [(0, 0), (1, 1)] rfl rfl rfl
    · replace h := cond_f h hb
      conv => whnf
      obtain ⟨hg, h⟩ := grd_e h
      refine And.intro hg ?_
      conv => whnf
      obtain ⟨y_5, hy, h⟩ := bind_e h
      refine opt_i (api_Job.c y_5) (getE rfl hy) ?_
      conv => whnf
      obtain ⟨y_6, hy, h⟩ := bind_e h
      refine opt_i (api_Job.c y_6) (getE rfl hy) ?_
      conv => whnf
      obtain ⟨hg, h⟩ := grd_e h
      refine And.intro hg ?_
      conv => whnf
      obtain ⟨y_7, hy, h⟩ := bind_e h
      refine opt_i (api_Job.c y_7) (getE (by first | (simp; done) | rfl | (rw [List.map_append]; rfl)) hy) ?_
      conv => whnf
      obtain ⟨y_8, hy, h⟩ := bind_e h
      refine opt_i (api_Job.c y_8) (getE (by first | (simp; done) | rfl | (rw [List.map_append]; rfl)) hy) ?_
      conv => whnf
      refine Or.inl ?_
      conv => whnf
      obtain ⟨y_9, hy, h⟩ := bind_e h
      refine ⟨_, _, (FC_close (jobs_one_FC0 F y_8 y_9 hy) rfl), Or.inr ⟨[], rfl, ?_⟩⟩
      conv => whnf
      obtain rfl := Option.some.inj h
      exact endG_i [(0, 0), (1, 1)] rfl (cons2 rfl (cons2 (congrArg (fun X => some (AO.rows true X)) (by first | (simp; done) | rfl | (rw [List.map_append]; rfl))) rfl)) rfl

theorem __jobs_table__resume_i1_FC0 {ml : Int} (F : Nat) (c : api_Cmd) (l : (List api_Job)) (r : (api_Result × (List api_Job))) (h : __jobs_table__resume_i1 F c l = some r) : FC Tryz.prog (GM ml) 25 ((0, (AO.rows false (((AV.osw 1 8) :: []) :: []))) :: ((1, (AO.rows true (List.map api_Job.c l))) :: [])) [(AV.ptr 0 0 0), (AV.agg (api_Cmd.c c))] (AV.agg (api_Result.c r.1)) ((0, (AO.rows false (((AV.osw 1 8) :: []) :: []))) :: ((1, (AO.rows true (List.map api_Job.c r.2))) :: [])) := by
  refine FC_ofG 2000 Tryz.func25 rfl (by kernel_rfl) mixed (by show 2 ≤ 68; decide) (by show 2 ≤ W; decide) rfl ?_
  unfold __jobs_table__resume_i1 at h
  conv => whnf
  obtain ⟨y_0, hy, h⟩ := bind_e h
  refine Or.inr (callG_i [0, 1] (__jobs_table__find_i1_FC0 F c.Name l y_0 hy) rfl rfl rfl rfl ?_)
  conv => whnf
  refine Or.inl ?_
  conv => whnf
  refine Or.inl ?_
  conv => whnf
  refine brn_i (fun hb => ?_) (fun hb => ?_)
  · replace h := cond_t h hb
    conv => whnf
    refine Or.inl ?_
    conv => whnf
    obtain ⟨y_7, hy, h⟩ := bind_e h
    refine ⟨_, _, (jobs_no_FC F (151 : Int) y_7 hy), Or.inr ⟨[], rfl, ?_⟩⟩
    conv => whnf
    obtain rfl := Option.some.inj h
    exact endG_i [(0, 0), (1, 1)] rfl rfl rfl
  · replace h := cond_f h hb
    conv => whnf
    obtain ⟨hg, h⟩ := grd_e h
    refine And.intro hg ?_
    conv => whnf
    obtain ⟨y_8, hy, h⟩ := bind_e h
    refine opt_i (api_Job.c y_8) (getE rfl hy) ?_
    conv => whnf
    obtain ⟨y_9, hy, h⟩ := bind_e h
    refine opt_i (api_Job.c y_9) (getE rfl hy) ?_
    conv => whnf
    refine Or.inl ?_
    conv => whnf
    refine brn_i (fun hb => ?_) (fun hb => ?_)
    · replace h := cond_t h hb
      conv => whnf
      refine Or.inl ?_
      conv => whnf
      obtain ⟨y_10, hy, h⟩ := bind_e h
      refine ⟨_, _, (jobs_no_FC F (4 : Int) y_10 hy), Or.inr ⟨[], rfl, ?_⟩⟩
      conv => whnf
      obtain rfl := Option.some.inj h
      exact endG_i [(0, 0), (1, 1)] rfl rfl rfl
    · replace h := cond_f h hb
      conv => whnf
      refine Or.inl ?_
      conv => whnf
      obtain ⟨y_11, hy, h⟩ := bind_e h
      refine ⟨_, _, (jobs_marked_FC F c.Time y_11 hy), Or.inl ⟨rfl, rfl, ?_⟩⟩
      conv => whnf
      refine Or.inl ?_
      conv => whnf
      refine brn_i (fun hb => ?_) (fun hb => ?_)
      · replace h := cond_t h hb
        conv => whnf
        refine Or.inl ?_
        conv => whnf
        obtain ⟨y_12, hy, h⟩ := bind_e h
        refine ⟨_, _, (jobs_no_FC F (1 : Int) y_12 hy), Or.inr ⟨[], rfl, ?_⟩⟩
        conv => whnf
        obtain rfl := Option.some.inj h
        exact endG_i [(0, 0), (1, 1)] rfl rfl rfl
      · replace h := cond_f h hb
        conv => whnf
        obtain ⟨hg, h⟩ := grd_e h
        refine And.intro hg ?_
        conv => whnf
        obtain ⟨y_13, hy, h⟩ := bind_e h
        refine opt_i (api_Job.c y_13) (getE rfl hy) ?_
        conv => whnf
        obtain ⟨y_14, hy, h⟩ := bind_e h
        refine opt_i (api_Job.c y_14) (getE rfl hy) ?_
        conv => whnf
        obtain ⟨hg, h⟩ := grd_e h
        refine And.intro hg ?_
        conv => whnf
        obtain ⟨y_15, hy, h⟩ := bind_e h
        refine opt_i (api_Job.c y_15) (getE rfl hy) ?_
        conv => whnf
        obtain ⟨y_16, hy, h⟩ := bind_e h
        refine opt_i (api_Job.c y_16) (getE rfl hy) ?_
        conv => whnf
        obtain ⟨hg, h⟩ := grd_e h
        refine And.intro hg ?_
        conv => whnf
        obtain ⟨y_17, hy, h⟩ := bind_e h
        refine opt_i (api_Job.c y_17) (getE (by first | (simp; done) | rfl | (rw [List.map_append]; rfl)) hy) ?_
        conv => whnf
        obtain ⟨y_18, hy, h⟩ := bind_e h
        refine opt_i (api_Job.c y_18) (getE (by first | (simp; done) | rfl | (rw [List.map_append]; rfl)) hy) ?_
        conv => whnf
        refine And.intro (by kernel_rfl) ?_
        conv => whnf
        obtain ⟨hg, h⟩ := grd_e h
        refine And.intro hg ?_
        conv => whnf
        obtain ⟨y_19, hy, h⟩ := bind_e h
        refine opt_i (api_Job.c y_19) (getE (by first | (simp; done) | rfl | (rw [List.map_append]; rfl)) hy) ?_
        conv => whnf
        obtain ⟨y_20, hy, h⟩ := bind_e h
        refine opt_i (api_Job.c y_20) (getE (by first | (simp; done) | rfl | (rw [List.map_append]; rfl)) hy) ?_
        conv => whnf
        refine Or.inl ?_
        conv => whnf
        obtain ⟨y_21, hy, h⟩ := bind_e h
        refine ⟨_, _, (FC_close (jobs_one_FC0 F y_20 y_21 hy) rfl), Or.inr ⟨[], rfl, ?_⟩⟩
        conv => whnf
        obtain rfl := Option.some.inj h
        exact endG_i [(0, 0), (1, 1)] rfl (cons2 rfl (cons2 (congrArg (fun X => some (AO.rows true X)) (by first | (simp; done) | rfl | (rw [List.map_append]; rfl))) rfl)) rfl

theorem __jobs_table__get_i1_FC0 {ml : Int} (F : Nat) (c : api_Cmd) (l : (List api_Job)) (r : api_Result) (h : __jobs_table__get_i1 F c l = some r) : FC Tryz.prog (GM ml) 26 ((0, (AO.rows false (((AV.osw 1 8) :: []) :: []))) :: ((1, (AO.rows true (List.map api_Job.c l))) :: [])) [(AV.ptr 0 0 0), (AV.agg (api_Cmd.c c))] (AV.agg (api_Result.c r)) ((0, (AO.rows false (((AV.osw 1 8) :: []) :: []))) :: ((1, (AO.rows true (List.map api_Job.c l))) :: [])) := by
  refine FC_ofG 2000 Tryz.func26 rfl (by kernel_rfl) mixed (by show 2 ≤ 25; decide) (by show 2 ≤ W; decide) rfl ?_
  unfold __jobs_table__get_i1 at h
  conv => whnf
  obtain ⟨y_0, hy, h⟩ := bind_e h
  refine Or.inr (callG_i [0, 1] (__jobs_table__find_i1_FC0 F c.Name l y_0 hy) rfl rfl rfl rfl ?_)
  conv => whnf
  refine Or.inl ?_
  conv => whnf
  refine brn_i (fun hb => ?_) (fun hb => ?_)
  · replace h := cond_t h hb
    conv => whnf
    refine Or.inl ?_
    conv => whnf
    obtain ⟨y_1, hy, h⟩ := bind_e h
    refine ⟨_, _, (jobs_no_FC F (151 : Int) y_1 hy), Or.inr ⟨[], rfl, ?_⟩⟩
    conv => whnf
    obtain rfl := Option.some.inj h
    exact endG_i [(0, 0), (1, 1)] rfl rfl rfl
  · replace h := cond_f h hb
    conv => whnf
    obtain ⟨hg, h⟩ := grd_e h
    refine And.intro hg ?_
    conv => whnf
    obtain ⟨y_2, hy, h⟩ := bind_e h
    refine opt_i (api_Job.c y_2) (getE rfl hy) ?_
    conv => whnf
    obtain ⟨y_3, hy, h⟩ := bind_e h
    refine opt_i (api_Job.c y_3) (getE rfl hy) ?_
    conv => whnf
    refine Or.inl ?_
    conv => whnf
    obtain ⟨y_4, hy, h⟩ := bind_e h
    refine ⟨_, _, (FC_close (jobs_one_FC0 F y_3 y_4 hy) rfl), Or.inr ⟨[], rfl, ?_⟩⟩
    conv => whnf
    obtain rfl := Option.some.inj h
    exact endG_i [(0, 0), (1, 1)] rfl rfl rfl

theorem __jobs_table__next_i1_FC0 {ml : Int} (F : Nat) (c : api_Cmd) (l : (List api_Job)) (r : api_Result) (h : __jobs_table__next_i1 F c l = some r) : FC Tryz.prog (GM ml) 27 ((0, (AO.rows false (((AV.osw 1 8) :: []) :: []))) :: ((1, (AO.rows true (List.map api_Job.c l))) :: [])) [(AV.ptr 0 0 0), (AV.agg (api_Cmd.c c))] (AV.agg (api_Result.c r)) ((0, (AO.rows false (((AV.osw 1 8) :: []) :: []))) :: ((1, (AO.rows true (List.map api_Job.c l))) :: [])) := by
  refine FC_ofG 2000 Tryz.func27 rfl (by kernel_rfl) mixed (by show 2 ≤ 33; decide) (by show 2 ≤ W; decide) rfl ?_
  unfold __jobs_table__next_i1 at h
  conv => whnf
  obtain ⟨y_0, hy, h⟩ := bind_e h
  refine Or.inr (callG_i [0, 1] (__jobs_table__find_i1_FC0 F c.Name l y_0 hy) rfl rfl rfl rfl ?_)
  conv => whnf
  refine Or.inl ?_
  conv => whnf
  refine brn_i (fun hb => ?_) (fun hb => ?_)
  · replace h := cond_t h hb
    conv => whnf
    refine Or.inl ?_
    conv => whnf
    obtain ⟨y_1, hy, h⟩ := bind_e h
    refine ⟨_, _, (jobs_no_FC F (151 : Int) y_1 hy), Or.inr ⟨[], rfl, ?_⟩⟩
    conv => whnf
    obtain rfl := Option.some.inj h
    exact endG_i [(0, 0), (1, 1)] rfl rfl rfl
  · replace h := cond_f h hb
    conv => whnf
    obtain ⟨hg, h⟩ := grd_e h
    refine And.intro hg ?_
    conv => whnf
    obtain ⟨y_2, hy, h⟩ := bind_e h
    refine opt_i (api_Job.c y_2) (getE rfl hy) ?_
    conv => whnf
    obtain ⟨y_3, hy, h⟩ := bind_e h
    refine opt_i (api_Job.c y_3) (getE rfl hy) ?_
    conv => whnf
    refine Or.inl ?_
    conv => whnf
    obtain ⟨y_4, hy, h⟩ := bind_e h
    refine ⟨_, _, (jobs_next_FC F y_3 y_4 hy), Or.inl ⟨rfl, rfl, ?_⟩⟩
    conv => whnf
    obtain rfl := Option.some.inj h
    exact endG_w [(0, 0), (1, 1)] (Wk.a (WkL.cons (Wk.eq (by first | rfl | (simp; done) | (rw [List.map_append]; rfl))) (WkL.cons (Wk.eq (by first | rfl | (simp; done) | (rw [List.map_append]; rfl))) (WkL.cons Wk.esl WkL.nil)))) (WkOs.cons (WkO.eq (Option.some.inj rfl)) (WkOs.cons (WkO.eq (Option.some.inj rfl)) WkOs.nil)) rfl

theorem __jobs_table__list_i1_FC0 {ml : Int} (F : Nat) (c : api_Cmd) (l : (List api_Job)) (r : (api_Result × (List api_Job))) (h : __jobs_table__list_i1 F c l = some r) : FC Tryz.prog (GM ml) 28 ((0, (AO.rows false (((AV.osw 1 8) :: []) :: []))) :: ((1, (AO.rows true (List.map api_Job.c l))) :: [])) [(AV.ptr 0 0 0), (AV.agg (api_Cmd.c c))] (AV.agg (api_Result.c r.1)) ((0, (AO.rows false (((AV.osw 1 8) :: []) :: []))) :: ((1, (AO.froz (List.map api_Job.c r.2))) :: [])) := by
  refine FC_ofG 2000 Tryz.func28 rfl (by kernel_rfl) mixed (by show 2 ≤ 28; decide) (by show 2 ≤ W; decide) rfl ?_
  unfold __jobs_table__list_i1 at h
  conv => whnf
  obtain ⟨y_0, hy, h⟩ := bind_e h
  refine Or.inr (callG_i [0, 1] (__jobs_table__find_i1_FC0 F c.Name l y_0 hy) rfl rfl rfl rfl ?_)
  conv => whnf
  refine And.intro (LenAll.map (fun _ => rfl)) ?_
  conv => whnf
  obtain ⟨hg, h⟩ := grd_e h
  refine And.intro hg ?_
  conv => whnf
  obtain ⟨hg, h⟩ := grd_e h
  refine And.intro (by first | exact hg | (simp; done) | simpa using hg | simpa [chunk] using hg | (simp [chunk] at hg ⊢; omega)) ?_
  conv => whnf
  obtain ⟨hg, h⟩ := grd_e h
  refine And.intro (by first | exact hg | (simp; done) | simpa using hg | simpa [chunk] using hg | (simp [chunk] at hg ⊢; omega)) ?_
  conv => whnf
  refine And.intro (LenAll.map (fun _ => rfl)) ?_
  conv => whnf
  obtain ⟨hg, h⟩ := grd_e h
  refine And.intro (by first | exact hg | (simp; done) | simpa using hg | simpa [chunk] using hg | (simp [chunk] at hg ⊢; omega)) ?_
  conv => whnf
  obtain ⟨hg, h⟩ := grd_e h
  refine And.intro (by first | exact hg | (simp; done) | simpa using hg | simpa [chunk] using hg | (simp [chunk] at hg ⊢; omega)) ?_
  conv => whnf
  obtain ⟨hg, h⟩ := grd_e h
  refine And.intro (by first | exact hg | (simp; done) | simpa using hg | simpa [chunk] using hg | (simp [chunk] at hg ⊢; omega)) ?_
  conv => whnf
  obtain ⟨hg, h⟩ := grd_e h
  refine And.intro (by first | exact hg | (simp; done) | simpa using hg | simpa [chunk] using hg | (simp [chunk] at hg ⊢; omega)) ?_
  conv => whnf
  refine Or.inl ?_
  conv => whnf
  obtain ⟨y_1, hy, h⟩ := bind_e h
  refine ⟨_, _, (FC_arg2 (cons2 (congrArg AV.sl (by first | (simp; done) | rfl | (rw [List.map_append]; rfl))) rfl) (FC_close (slices_Clone___api_Job_api_Job__FC0 F (List.take ((Int.toNat (if ((16 : Int) < (@Nat.cast Int instNatCastInt ((List.length (List.map api_Job.c l)) - (Int.toNat y_0.1)))) then (16 : Int) else (@Nat.cast Int instNatCastInt ((List.length (List.map api_Job.c l)) - (Int.toNat y_0.1))))) - 0) (List.drop ((Int.toNat y_0.1) + 0) l)) y_1 hy) rfl)), Or.inr ⟨[1], rfl, ?_⟩⟩
  conv => whnf
  obtain rfl := Option.some.inj h
  exact endG_i [(0, 0), (1, 1)] rfl rfl rfl

theorem __jobs_table__launch_i1_FC0 {ml : Int} (F : Nat) (c : api_Cmd) (l : (List api_Job)) (r : (api_Result × (List api_Job))) (h : __jobs_table__launch_i1 F c l = some (Sum.inl r)) : FC Tryz.prog (GM ml) 29 ((0, (AO.rows false (((AV.osw 1 8) :: []) :: []))) :: ((1, (AO.rows true (List.map api_Job.c l))) :: [])) [(AV.ptr 0 0 0), (AV.agg (api_Cmd.c c))] (AV.agg (api_Result.c r.1)) ((0, (AO.rows false (((AV.osw 1 8) :: []) :: []))) :: ((1, (AO.rows true (List.map api_Job.c r.2))) :: [])) := by
  refine FC_ofG 2000 Tryz.func29 rfl (by kernel_rfl) mixed (by show 2 ≤ 76; decide) (by show 2 ≤ W; decide) rfl ?_
  unfold __jobs_table__launch_i1 at h
  conv => whnf
  obtain ⟨y_0, hy, h⟩ := bind_e h
  refine Or.inr (callG_i [0, 1] (__jobs_table__find_i1_FC0 F c.Name l y_0 hy) rfl rfl rfl rfl ?_)
  conv => whnf
  refine Or.inl ?_
  conv => whnf
  refine brn_i (fun hb => ?_) (fun hb => ?_)
  · replace h := cond_t h hb
    conv => whnf
    refine Or.inl ?_
    conv => whnf
    obtain ⟨y_1, hy, h⟩ := bind_e h
    refine ⟨_, _, (jobs_no_FC F (151 : Int) y_1 hy), Or.inr ⟨[], rfl, ?_⟩⟩
    conv => whnf
    obtain rfl := Sum.inl.inj (Option.some.inj h)
    exact endG_i [(0, 0), (1, 1)] rfl rfl rfl
  · replace h := cond_f h hb
    conv => whnf
    obtain ⟨hg, h⟩ := grd_e h
    refine And.intro hg ?_
    conv => whnf
    obtain ⟨y_2, hy, h⟩ := bind_e h
    refine opt_i (api_Job.c y_2) (getE rfl hy) ?_
    conv => whnf
    obtain ⟨t41_5, h0, k0⟩ := bind_e h
    refine Or.inr (joins_i True ((3, (AV.ptr 2 0 0)) :: ((4, (AV.ptr 3 0 0)) :: ((7, (AV.ptr 1 (Int.toNat y_0.1) 0)) :: ((41, (AV.bool t41_5)) :: [])))) ((0, (AO.rows false (((AV.osw 1 8) :: []) :: []))) :: ((1, (AO.rows true (List.map api_Job.c l))) :: ((2, (AO.rows false (((AV.int IntKind.i64 c.Kind) :: ((AV.int IntKind.i64 c.Client) :: ((AV.int IntKind.i64 c.Seq) :: ((AV.str c.Name) :: ((AV.str c.Expr) :: ((AV.str c.Zone) :: ((AV.str c.Token) :: ((AV.int IntKind.i64 c.Time) :: [])))))))) :: []))) :: ((3, (AO.rows false (((AV.int IntKind.i64 (0 : Int)) :: ((AV.int IntKind.i64 (0 : Int)) :: (AV.esl :: []))) :: []))) :: [])))) 4 ?_ (fun _ => ?_))
    · conv => whnf
      refine Or.inl ?_
      conv => whnf
      obtain ⟨y_6, hy, h0⟩ := bind_e h0
      refine opt_i (api_Job.c y_6) (getE rfl hy) ?_
      conv => whnf
      refine brn_i (fun hb => ?_) (fun hb => ?_)
      · replace h0 := cond_t h0 hb
        conv => whnf
        refine And.intro (by kernel_rfl) ?_
        conv => whnf
        obtain rfl := Option.some.inj h0
        exact end_i trivial [(0, 0), (1, 1), (2, 8), (3, 16)] rfl rfl rfl
      · replace h0 := cond_f h0 hb
        conv => whnf
        obtain ⟨y_7, hy, h0⟩ := bind_e h0
        refine opt_i (api_Job.c y_7) (getE rfl hy) ?_
        conv => whnf
        refine And.intro (by kernel_rfl) ?_
        conv => whnf
        obtain rfl := Option.some.inj h0
        exact end_i trivial [(0, 0), (1, 1), (2, 8), (3, 16)] rfl rfl rfl
    · conv => whnf
      refine Or.inl ?_
      conv => whnf
      refine brn_i (fun hb => ?_) (fun hb => ?_)
      · replace k0 := cond_t k0 hb
        conv => whnf
        refine Or.inl ?_
        conv => whnf
        obtain ⟨y_8, hy, k0⟩ := bind_e k0
        refine ⟨_, _, (jobs_no_FC F (160 : Int) y_8 hy), Or.inr ⟨[], rfl, ?_⟩⟩
        conv => whnf
        obtain rfl := Sum.inl.inj (Option.some.inj k0)
        exact endG_i [(0, 0), (1, 1)] rfl rfl rfl
      · replace k0 := cond_f k0 hb
        conv => whnf
        obtain ⟨y_9, hy, k0⟩ := bind_e k0
        refine opt_i (api_Job.c y_9) (getE rfl hy) ?_
        conv => whnf
        refine Or.inl ?_
        conv => whnf
        refine brn_i (fun hb => ?_) (fun hb => ?_)
        · replace k0 := cond_t k0 hb
          conv => whnf
          refine Or.inl ?_
          conv => whnf
          obtain ⟨y_10, hy, k0⟩ := bind_e k0
          refine ⟨_, _, (jobs_no_FC F (4 : Int) y_10 hy), Or.inr ⟨[], rfl, ?_⟩⟩
          conv => whnf
          obtain rfl := Sum.inl.inj (Option.some.inj k0)
          exact endG_i [(0, 0), (1, 1)] rfl rfl rfl
        · replace k0 := cond_f k0 hb
          conv => whnf
          obtain ⟨y_11, hy, k0⟩ := bind_e k0
          refine opt_i (api_Job.c y_11) (getE rfl hy) ?_
          conv => whnf
          refine Or.inl ?_
          conv => whnf
          obtain ⟨y_12, hy, k0⟩ := bind_e k0
          refine ⟨_, _, (jobs_next_FC F y_11 y_12 hy), Or.inl ⟨rfl, rfl, ?_⟩⟩
          conv => whnf
          obtain ⟨t62_13, h1, k1⟩ := bind_e k0
          refine Or.inr (joins_i True ((3, (AV.ptr 2 0 0)) :: ((4, (AV.ptr 3 0 0)) :: ((7, (AV.ptr 1 (Int.toNat y_0.1) 0)) :: ((62, (AV.bool t62_13)) :: [])))) ((0, (AO.rows false (((AV.osw 1 8) :: []) :: []))) :: ((1, (AO.rows true (List.map api_Job.c l))) :: ((2, (AO.rows false (((AV.int IntKind.i64 c.Kind) :: ((AV.int IntKind.i64 c.Client) :: ((AV.int IntKind.i64 c.Seq) :: ((AV.str c.Name) :: ((AV.str c.Expr) :: ((AV.str c.Zone) :: ((AV.str c.Token) :: ((AV.int IntKind.i64 c.Time) :: [])))))))) :: []))) :: ((3, (AO.rows false (((AV.int IntKind.i64 (0 : Int)) :: ((AV.int IntKind.i64 (0 : Int)) :: (AV.esl :: []))) :: []))) :: [])))) 4 ?_ (fun _ => ?_))
          · conv => whnf
            refine Or.inl ?_
            conv => whnf
            refine brn_i (fun hb => ?_) (fun hb => ?_)
            · replace h1 := cond_t h1 hb
              conv => whnf
              obtain rfl := Option.some.inj h1
              exact end_i trivial [(0, 0), (1, 1), (2, 2), (3, 3)] rfl rfl rfl
            · replace h1 := cond_f h1 hb
              conv => whnf
              obtain rfl := Option.some.inj h1
              exact end_i trivial [(0, 0), (1, 1), (2, 2), (3, 3)] rfl rfl rfl
          · conv => whnf
            refine Or.inl ?_
            conv => whnf
            refine brn_i (fun hb => ?_) (fun hb => ?_)
            · replace k1 := cond_t k1 hb
              conv => whnf
              refine Or.inl ?_
              conv => whnf
              obtain ⟨y_14, hy, k1⟩ := bind_e k1
              refine ⟨_, _, (jobs_no_FC F (30 : Int) y_14 hy), Or.inr ⟨[], rfl, ?_⟩⟩
              conv => whnf
              obtain rfl := Sum.inl.inj (Option.some.inj k1)
              exact endG_i [(0, 0), (1, 1)] rfl rfl rfl
            · replace k1 := cond_f k1 hb
              conv => whnf
              obtain ⟨y_15, hy, k1⟩ := bind_e k1
              refine opt_i (api_Job.c y_15) (getE rfl hy) ?_
              conv => whnf
              obtain ⟨y_16, hy, k1⟩ := bind_e k1
              refine opt_i (api_Job.c y_16) (getE (by first | (simp; done) | rfl | (rw [List.map_append]; rfl)) hy) ?_
              conv => whnf
              refine And.intro (by kernel_rfl) ?_
              conv => whnf
              cases (Option.some.inj k1)
theorem __jobs_table__launch_i1_FC1 {ml : Int} (F : Nat) (c : api_Cmd) (l : (List api_Job)) (r : (Int × Int × (List api_Job) × (List api_Job))) (h : __jobs_table__launch_i1 F c l = some (Sum.inr r)) : FC Tryz.prog (GM ml) 29 ((0, (AO.rows false (((AV.osw 1 8) :: []) :: []))) :: ((1, (AO.rows true (List.map api_Job.c l))) :: [])) [(AV.ptr 0 0 0), (AV.agg (api_Cmd.c c))] (AV.agg ((AV.int IntKind.i64 r.1) :: ((AV.int IntKind.i64 r.2.1) :: ((AV.osw 2 (@GetElem.getElem (@Array TypeInfo) Nat TypeInfo (fun (xs_13 : (@Array TypeInfo)) => (fun (i_13 : Nat) => (i_13 < (@Array.size TypeInfo xs_13)))) (@Array.instGetElemNatLtSize TypeInfo) Proofs.Tryz.prog.toTables.types 55 (@Nat.le_of_ble_eq_true (Nat.succ 55) (@Array.size TypeInfo Proofs.Tryz.prog.toTables.types) (@rfl Bool true))).size) :: [])))) ((0, (AO.rows false (((AV.osw 1 8) :: []) :: []))) :: ((1, (AO.rows true (List.map api_Job.c r.2.2.1))) :: ((2, (AO.rows true (List.map api_Job.c r.2.2.2))) :: []))) := by
  refine FC_ofG 2000 Tryz.func29 rfl (by kernel_rfl) mixed (by show 2 ≤ 76; decide) (by show 2 ≤ W; decide) rfl ?_
  unfold __jobs_table__launch_i1 at h
  conv => whnf
  obtain ⟨y_0, hy, h⟩ := bind_e h
  refine Or.inr (callG_i [0, 1] (__jobs_table__find_i1_FC0 F c.Name l y_0 hy) rfl rfl rfl rfl ?_)
  conv => whnf
  refine Or.inl ?_
  conv => whnf
  refine brn_i (fun hb => ?_) (fun hb => ?_)
  · replace h := cond_t h hb
    conv => whnf
    refine Or.inl ?_
    conv => whnf
    obtain ⟨y_1, hy, h⟩ := bind_e h
    refine ⟨_, _, (jobs_no_FC F (151 : Int) y_1 hy), Or.inr ⟨[], rfl, ?_⟩⟩
    conv => whnf
    cases (Option.some.inj h)
  · replace h := cond_f h hb
    conv => whnf
    obtain ⟨hg, h⟩ := grd_e h
    refine And.intro hg ?_
    conv => whnf
    obtain ⟨y_2, hy, h⟩ := bind_e h
    refine opt_i (api_Job.c y_2) (getE rfl hy) ?_
    conv => whnf
    obtain ⟨t41_5, h0, k0⟩ := bind_e h
    refine Or.inr (joins_i True ((3, (AV.ptr 2 0 0)) :: ((4, (AV.ptr 3 0 0)) :: ((7, (AV.ptr 1 (Int.toNat y_0.1) 0)) :: ((41, (AV.bool t41_5)) :: [])))) ((0, (AO.rows false (((AV.osw 1 8) :: []) :: []))) :: ((1, (AO.rows true (List.map api_Job.c l))) :: ((2, (AO.rows false (((AV.int IntKind.i64 c.Kind) :: ((AV.int IntKind.i64 c.Client) :: ((AV.int IntKind.i64 c.Seq) :: ((AV.str c.Name) :: ((AV.str c.Expr) :: ((AV.str c.Zone) :: ((AV.str c.Token) :: ((AV.int IntKind.i64 c.Time) :: [])))))))) :: []))) :: ((3, (AO.rows false (((AV.int IntKind.i64 (0 : Int)) :: ((AV.int IntKind.i64 (0 : Int)) :: (AV.esl :: []))) :: []))) :: [])))) 4 ?_ (fun _ => ?_))
    · conv => whnf
      refine Or.inl ?_
      conv => whnf
      obtain ⟨y_6, hy, h0⟩ := bind_e h0
      refine opt_i (api_Job.c y_6) (getE rfl hy) ?_
      conv => whnf
      refine brn_i (fun hb => ?_) (fun hb => ?_)
      · replace h0 := cond_t h0 hb
        conv => whnf
        refine And.intro (by kernel_rfl) ?_
        conv => whnf
        obtain rfl := Option.some.inj h0
        exact end_i trivial [(0, 0), (1, 1), (2, 8), (3, 16)] rfl rfl rfl
      · replace h0 := cond_f h0 hb
        conv => whnf
        obtain ⟨y_7, hy, h0⟩ := bind_e h0
        refine opt_i (api_Job.c y_7) (getE rfl hy) ?_
        conv => whnf
        refine And.intro (by kernel_rfl) ?_
        conv => whnf
        obtain rfl := Option.some.inj h0
        exact end_i trivial [(0, 0), (1, 1), (2, 8), (3, 16)] rfl rfl rfl
    · conv => whnf
      refine Or.inl ?_
      conv => whnf
      refine brn_i (fun hb => ?_) (fun hb => ?_)
      · replace k0 := cond_t k0 hb
        conv => whnf
        refine Or.inl ?_
        conv => whnf
        obtain ⟨y_8, hy, k0⟩ := bind_e k0
        refine ⟨_, _, (jobs_no_FC F (160 : Int) y_8 hy), Or.inr ⟨[], rfl, ?_⟩⟩
        conv => whnf
        cases (Option.some.inj k0)
      · replace k0 := cond_f k0 hb
        conv => whnf
        obtain ⟨y_9, hy, k0⟩ := bind_e k0
        refine opt_i (api_Job.c y_9) (getE rfl hy) ?_
        conv => whnf
        refine Or.inl ?_
        conv => whnf
        refine brn_i (fun hb => ?_) (fun hb => ?_)
        · replace k0 := cond_t k0 hb
          conv => whnf
          refine Or.inl ?_
          conv => whnf
          obtain ⟨y_10, hy, k0⟩ := bind_e k0
          refine ⟨_, _, (jobs_no_FC F (4 : Int) y_10 hy), Or.inr ⟨[], rfl, ?_⟩⟩
          conv => whnf
          cases (Option.some.inj k0)
        · replace k0 := cond_f k0 hb
          conv => whnf
          obtain ⟨y_11, hy, k0⟩ := bind_e k0
          refine opt_i (api_Job.c y_11) (getE rfl hy) ?_
          conv => whnf
          refine Or.inl ?_
          conv => whnf
          obtain ⟨y_12, hy, k0⟩ := bind_e k0
          refine ⟨_, _, (jobs_next_FC F y_11 y_12 hy), Or.inl ⟨rfl, rfl, ?_⟩⟩
          conv => whnf
          obtain ⟨t62_13, h1, k1⟩ := bind_e k0
          refine Or.inr (joins_i True ((3, (AV.ptr 2 0 0)) :: ((4, (AV.ptr 3 0 0)) :: ((7, (AV.ptr 1 (Int.toNat y_0.1) 0)) :: ((62, (AV.bool t62_13)) :: [])))) ((0, (AO.rows false (((AV.osw 1 8) :: []) :: []))) :: ((1, (AO.rows true (List.map api_Job.c l))) :: ((2, (AO.rows false (((AV.int IntKind.i64 c.Kind) :: ((AV.int IntKind.i64 c.Client) :: ((AV.int IntKind.i64 c.Seq) :: ((AV.str c.Name) :: ((AV.str c.Expr) :: ((AV.str c.Zone) :: ((AV.str c.Token) :: ((AV.int IntKind.i64 c.Time) :: [])))))))) :: []))) :: ((3, (AO.rows false (((AV.int IntKind.i64 (0 : Int)) :: ((AV.int IntKind.i64 (0 : Int)) :: (AV.esl :: []))) :: []))) :: [])))) 4 ?_ (fun _ => ?_))
          · conv => whnf
            refine Or.inl ?_
            conv => whnf
            refine brn_i (fun hb => ?_) (fun hb => ?_)
            · replace h1 := cond_t h1 hb
              conv => whnf
              obtain rfl := Option.some.inj h1
              exact end_i trivial [(0, 0), (1, 1), (2, 2), (3, 3)] rfl rfl rfl
            · replace h1 := cond_f h1 hb
              conv => whnf
              obtain rfl := Option.some.inj h1
              exact end_i trivial [(0, 0), (1, 1), (2, 2), (3, 3)] rfl rfl rfl
          · conv => whnf
            refine Or.inl ?_
            conv => whnf
            refine brn_i (fun hb => ?_) (fun hb => ?_)
            · replace k1 := cond_t k1 hb
              conv => whnf
              refine Or.inl ?_
              conv => whnf
              obtain ⟨y_14, hy, k1⟩ := bind_e k1
              refine ⟨_, _, (jobs_no_FC F (30 : Int) y_14 hy), Or.inr ⟨[], rfl, ?_⟩⟩
              conv => whnf
              cases (Option.some.inj k1)
            · replace k1 := cond_f k1 hb
              conv => whnf
              obtain ⟨y_15, hy, k1⟩ := bind_e k1
              refine opt_i (api_Job.c y_15) (getE rfl hy) ?_
              conv => whnf
              obtain ⟨y_16, hy, k1⟩ := bind_e k1
              refine opt_i (api_Job.c y_16) (getE (by first | (simp; done) | rfl | (rw [List.map_append]; rfl)) hy) ?_
              conv => whnf
              refine And.intro (by kernel_rfl) ?_
              conv => whnf
              obtain rfl := Sum.inr.inj (Option.some.inj k1)
              exact endG_i [(0, 0), (1, 1), (2, 92)] rfl (cons2 rfl (cons2 (congrArg (fun X => some (AO.rows true X)) (by first | (simp; done) | rfl | (rw [List.map_append]; rfl))) (cons2 (congrArg (fun X => some (AO.rows true X)) (by first | (simp; done) | rfl | (rw [List.map_append]; rfl))) rfl))) rfl


end Go.T
