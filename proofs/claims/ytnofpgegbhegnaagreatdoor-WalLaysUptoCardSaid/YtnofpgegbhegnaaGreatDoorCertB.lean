/-
  CertWa: the program's functions compute them. Printed by a program.
-/
import Derived.Test.YtnofpgegbhegnaaGreatDoorCertA
import Derived.Test.YtnofpgegbhegnaaGreatDoorProg
import Derived.KernelRfl
import Derived.Test.YtnofpgegbhegnaaGreatDoorLib
set_option linter.unusedVariables false
set_option maxRecDepth 200000
set_option maxHeartbeats 4000000
namespace Go.T
open Go Go.Ab Go.Proofs
theorem matinslaw10_WalAgain_FC {ml : Gv} (F : Nat) (script : (List matinslaw10_Do)) (rec : (List Int)) (r : Bool) (h : matinslaw10_WalAgain F script rec = some r) : FC Tryz.prog (GM ml) 4 [] [(AV.sl (List.map matinslaw10_Do.c script)), (AV.sl (List.map (cInt IntKind.u8) rec))] (.bool r) [] := by
  refine FC_of 2000 Tryz.func4 rfl (by kernel_rfl) mixed (by show 2 ≤ 169; decide) ?_
  unfold matinslaw10_WalAgain at h
  conv => whnf
  refine Or.inl ?_
  conv => whnf
  obtain ⟨y_0, hy, h⟩ := bind_e h
  refine ⟨_, _, (matinslaw10_awake_FC F y_0 hy), Or.inl ⟨rfl, rfl, ?_⟩⟩
  conv => whnf
  refine Or.inl ?_
  conv => whnf
  refine brn_i (fun hb => ?_) (fun hb => ?_)
  · replace h := cond_t h hb
    conv => whnf
    obtain rfl := Option.some.inj h
    exact rfl
  · replace h := cond_f h hb
    conv => whnf
    refine Or.inl ?_
    conv => whnf
    obtain ⟨y_1, hy, h⟩ := bind_e h
    refine ⟨_, _, (disk_New_FC0 F y_1 hy), Or.inr ⟨[], rfl, ?_⟩⟩
    conv => whnf
    obtain ⟨o2, h2, k2⟩ := bind_e h
    refine Or.inr (joins_i True ((1, (AV.sl (List.map (cInt IntKind.u8) rec))) :: ((5, (AV.ptr 0 0 0)) :: [])) ((0, (AO.rows false (((AV.mapo 1) :: ((AV.osw 2 2) :: ((AV.int IntKind.i64 o2.1) :: []))) :: []))) :: ((1, (AO.fmap 1 (@encF (@List UInt8) Int (fun (k_13 : (@List UInt8)) => (AV.str k_13)) (cInt IntKind.u8) o2.2.1) none)) :: ((2, (AO.rows true (List.map disk_write.c o2.2.2))) :: []))) 3 ?_ (fun _ => ?_))
    · conv => whnf
      refine Or.inl ?_
      conv => whnf
      refine loops_i (α := (Nat × Int × Int × (List ((List UInt8) × (List Int))) × (List disk_write))) (fun xq => ((0, (AV.sl (List.map matinslaw10_Do.c script))) :: ((1, (AV.sl (List.map (cInt IntKind.u8) rec))) :: ((5, (AV.ptr 0 0 0)) :: ((6, (AV.int IntKind.i64 xq.2.1)) :: []))))) (fun xq => ((0, (AO.rows false (((AV.mapo 1) :: ((AV.osw 2 2) :: ((AV.int IntKind.i64 xq.2.2.1) :: []))) :: []))) :: ((1, (AO.fmap 1 (@encF (@List UInt8) Int (fun (k_13 : (@List UInt8)) => (AV.str k_13)) (cInt IntKind.u8) xq.2.2.2.1) none)) :: ((2, (AO.rows true (List.map disk_write.c xq.2.2.2.2))) :: [])))) 3 (fun xq => matinslaw10_WalAgain_l0 F script xq.1 xq.2.1 xq.2.2.1 xq.2.2.2.1 xq.2.2.2.2 = some o2) (fun xq => xq.1) (F, (0 : Int), y_1.1, y_1.2, []) [(0, 32), (1, 33), (2, 34)] h2 rfl (cons2 rfl (cons2 rfl (cons2 (congrArg (fun X => some (AO.rows true X)) (by first | (simp; done) | rfl | (rw [List.map_append]; rfl) | (simp [outR]; done) | (simp only [outR, Sum.elim_inr, id, List.map_append, List.map_map]; rfl))) rfl))) rfl ?_
      rintro ⟨n_26, i_27, c_28, fs_29, l_30⟩ h2
      replace h2 : matinslaw10_WalAgain_l0 F script n_26 i_27 c_28 fs_29 l_30 = some o2 := h2
      cases n_26 with
      | zero => rw [matinslaw10_WalAgain_l0.eq_1] at h2; cases h2
      | succ n_26 =>
        rw [matinslaw10_WalAgain_l0.eq_2] at h2
        conv => whnf
        obtain ⟨t32_31, h4, k4⟩ := bind_e h2
        refine Or.inr (joins_i True ((0, (AV.sl (List.map matinslaw10_Do.c script))) :: ((1, (AV.sl (List.map (cInt IntKind.u8) rec))) :: ((5, (AV.ptr 0 0 0)) :: ((6, (AV.int IntKind.i64 i_27)) :: ((32, (AV.bool t32_31)) :: []))))) ((0, (AO.rows false (((AV.mapo 1) :: ((AV.osw 2 2) :: ((AV.int IntKind.i64 c_28) :: []))) :: []))) :: ((1, (AO.fmap 1 (@encF (@List UInt8) Int (fun (k_13 : (@List UInt8)) => (AV.str k_13)) (cInt IntKind.u8) fs_29) none)) :: ((2, (AO.rows true (List.map disk_write.c l_30))) :: []))) 3 ?_ (fun _ => ?_))
        · conv => whnf
          refine Or.inl ?_
          conv => whnf
          refine brn_i (fun hb => ?_) (fun hb => ?_)
          · replace h4 := cond_t h4 (by first | exact hb | (simp; done) | simpa using hb | simpa [chunk] using hb | (simp [chunk] at hb ⊢; omega))
            conv => whnf
            obtain rfl := Option.some.inj h4
            exact end_i trivial [(0, 0), (1, 1), (2, 2)] rfl rfl rfl
          · replace h4 := cond_f h4 (by first | exact hb | (simp; done) | simpa using hb | simpa [chunk] using hb | (simp [chunk] at hb ⊢; omega))
            conv => whnf
            obtain rfl := Option.some.inj h4
            exact end_i trivial [(0, 0), (1, 1), (2, 2)] rfl rfl rfl
        · conv => whnf
          refine Or.inl ?_
          conv => whnf
          refine brn_i (fun hb => ?_) (fun hb => ?_)
          · replace k4 := cond_t k4 hb
            conv => whnf
            refine Or.inl ?_
            conv => whnf
            obtain ⟨hg, k4⟩ := grd_e k4
            refine And.intro hg ?_
            conv => whnf
            obtain ⟨y_35, hy, k4⟩ := bind_e k4
            refine opt_i (matinslaw10_Do.c y_35) (getE rfl hy) ?_
            conv => whnf
            obtain ⟨hg, k4⟩ := grd_e k4
            refine And.intro hg ?_
            conv => whnf
            obtain ⟨y_36, hy, k4⟩ := bind_e k4
            refine opt_i (matinslaw10_Do.c y_36) (getE rfl hy) ?_
            conv => whnf
            obtain ⟨y_37, hy, k4⟩ := bind_e k4
            refine Or.inr (callG_i [0, 1, 2] (__disk_Disk__Append_FC0 F y_35.Name y_36.Rec c_28 fs_29 l_30 y_37 hy) rfl rfl rfl rfl ?_)
            conv => whnf
            refine And.intro (by kernel_rfl) ?_
            conv => whnf
            exact round_i (n_26, (IntKind.wrap IntKind.i64 (i_27 + (1 : Int))), y_37.2.1, y_37.2.2.1, y_37.2.2.2) [(0, 0), (1, 1), (2, 94)] k4 (Nat.lt_succ_self _) rfl rfl rfl
          · replace k4 := cond_f k4 hb
            conv => whnf
            obtain rfl := Option.some.inj k4
            exact end_i trivial [(0, 0), (1, 1), (2, 2)] rfl rfl rfl
    · obtain ⟨c_16, fs_17, l_18⟩ := o2
      conv => whnf
      obtain ⟨y_38, hy, k2⟩ := bind_e k2
      rcases y_38 with y_38 | y_38
      · replace k2 := elim_l k2
        refine Or.inr (callG_i [0, 1, 2] (wal_Open_FC0 F c_16 fs_17 l_18 y_38 hy) rfl rfl rfl rfl ?_)
        conv => whnf
        refine Or.inl ?_
        conv => whnf
        refine brn_i (fun hb => ?_) (fun hb => ?_)
        · replace k2 := cond_t k2 hb
          conv => whnf
          refine Or.inl ?_
          conv => whnf
          refine brn_i (fun hb => ?_) (fun hb => ?_)
          · replace k2 := cond_t k2 hb
            conv => whnf
            obtain rfl := Option.some.inj k2
            exact rfl
          · replace k2 := cond_f k2 hb
            conv => whnf
            obtain rfl := Option.some.inj k2
            exact rfl
        · replace k2 := cond_f k2 hb
          conv => whnf
          obtain ⟨y_39, hy, k2⟩ := bind_e k2
          rcases y_39 with y_39 | y_39
          · replace k2 := elim_l k2
            refine Or.inr (callG_i [0, 1, 15] (wal_Open_FC0 F y_38.2.1 y_38.2.2.1 y_38.2.2.2.2 y_39 hy) rfl rfl rfl rfl ?_)
            conv => whnf
            obtain ⟨o3, h3, k3⟩ := bind_e k2
            refine Or.inr (joins_i True ((1, (AV.sl (List.map (cInt IntKind.u8) rec))) :: ((5, (AV.ptr 0 0 0)) :: ((8, (AV.osw 1 1)) :: ((10, (AV.con (Value.pointer none))) :: ((79, (AV.bool true)) :: []))))) ((0, (AO.rows false (((AV.mapo 2) :: ((AV.osw 3 2) :: ((AV.int IntKind.i64 y_39.2.1) :: []))) :: []))) :: ((1, (AO.rows true (List.map (cSl (cInt IntKind.u8)) y_38.2.2.2.1))) :: ((2, (AO.fmap 1 (@encF (@List UInt8) Int (fun (k_13 : (@List UInt8)) => (AV.str k_13)) (cInt IntKind.u8) y_39.2.2.1) none)) :: ((3, (AO.rows true (List.map disk_write.c y_39.2.2.2.2))) :: [])))) 4 ?_ (fun _ => ?_))
            · conv => whnf
              refine Or.inl ?_
              conv => whnf
              refine brn_i (fun hb => ?_) (fun hb => ?_)
              · replace h3 := cond_t h3 hb
                conv => whnf
                obtain rfl := Option.some.inj h3
                exact end_i trivial [(0, 0), (1, 14), (2, 1), (3, 103)] rfl rfl rfl
              · replace h3 := cond_f h3 hb
                conv => whnf
                obtain rfl := Option.some.inj h3
                exact end_i trivial [(0, 0), (1, 14), (2, 1), (3, 103)] rfl rfl rfl
            · conv => whnf
              refine Or.inl ?_
              conv => whnf
              obtain rfl := Option.some.inj k3
              exact rfl
          · replace k2 := elim_r k2
            refine Or.inr (callG_i [0, 1, 15] (wal_Open_FC1 F y_38.2.1 y_38.2.2.1 y_38.2.2.2.2 y_39 hy) rfl rfl rfl rfl ?_)
            conv => whnf
            obtain ⟨t79_41, h4, k4⟩ := bind_e k2
            refine Or.inr (joins_i True ((1, (AV.sl (List.map (cInt IntKind.u8) rec))) :: ((5, (AV.ptr 0 0 0)) :: ((8, (AV.osw 1 1)) :: ((10, (AV.ptr 2 0 0)) :: ((79, (AV.bool t79_41)) :: []))))) ((0, (AO.rows false (((AV.mapo 3) :: ((AV.osw 4 2) :: ((AV.int IntKind.i64 y_39.2.2.1) :: []))) :: []))) :: ((1, (AO.rows true (List.map (cSl (cInt IntKind.u8)) y_38.2.2.2.1))) :: ((2, (AO.rows false (((AV.ptr 0 0 0) :: ((AV.str y_39.2.2.2.2.1) :: ((AV.int IntKind.i64 y_39.2.2.2.2.2.1) :: ((AV.int IntKind.i64 y_39.2.2.2.2.2.2.1) :: [])))) :: []))) :: ((3, (AO.fmap 1 (@encF (@List UInt8) Int (fun (k_13 : (@List UInt8)) => (AV.str k_13)) (cInt IntKind.u8) y_39.2.2.2.1) none)) :: ((4, (AO.rows true (List.map disk_write.c y_39.2.2.2.2.2.2.2))) :: []))))) 5 ?_ (fun _ => ?_))
            · conv => whnf
              refine Or.inl ?_
              conv => whnf
              refine brn_i (fun hb => ?_) (fun hb => ?_)
              · replace h4 := cond_t h4 hb
                conv => whnf
                obtain rfl := Option.some.inj h4
                exact end_i trivial [(0, 0), (1, 14), (2, 102), (3, 1), (4, 103)] rfl rfl rfl
              · replace h4 := cond_f h4 hb
                conv => whnf
                refine Or.inl ?_
                conv => whnf
                obtain ⟨y_42, hy, h4⟩ := bind_e h4
                refine ⟨_, _, (matinsref10_Lists_FC F y_38.2.2.2.1 y_39.1 y_42 hy), Or.inl ⟨rfl, rfl, ?_⟩⟩
                conv => whnf
                obtain rfl := Option.some.inj h4
                exact end_i trivial [(0, 0), (1, 14), (2, 102), (3, 1), (4, 103)] rfl rfl rfl
            · conv => whnf
              refine Or.inl ?_
              conv => whnf
              refine brn_i (fun hb => ?_) (fun hb => ?_)
              · replace k4 := cond_t k4 hb
                conv => whnf
                obtain rfl := Option.some.inj k4
                exact rfl
              · replace k4 := cond_f k4 hb
                conv => whnf
                obtain ⟨y_43, hy, k4⟩ := bind_e k4
                refine Or.inr (callG_i [2, 0, 3, 4] (__wal_Wal__File_FC0 F y_39.2.2.2.2.1 y_39.2.2.2.2.2.1 y_39.2.2.2.2.2.2.1 y_39.2.2.1 y_39.2.2.2.1 y_39.2.2.2.2.2.2.2 y_43 hy) rfl rfl rfl rfl ?_)
                conv => whnf
                obtain ⟨y_44, hy, k4⟩ := bind_e k4
                rcases y_44 with y_44 | y_44
                · replace k4 := elim_l k4
                  refine Or.inr (callG_i [0, 3, 4] (__disk_Disk__Read_FC0 F y_43 y_39.2.2.1 y_39.2.2.2.1 y_39.2.2.2.2.2.2.2 y_44 hy) rfl rfl rfl rfl ?_)
                  conv => whnf
                  obtain ⟨y_45, hy, k4⟩ := bind_e k4
                  refine Or.inr (callG_i [2, 0, 3, 4] (__wal_Wal__Append_i1_FC0 F rec y_39.2.2.2.2.1 y_39.2.2.2.2.2.1 y_39.2.2.2.2.2.2.1 y_39.2.2.1 y_39.2.2.2.1 y_39.2.2.2.2.2.2.2 y_45 hy) rfl rfl rfl rfl ?_)
                  conv => whnf
                  obtain ⟨y_46, hy, k4⟩ := bind_e k4
                  rcases y_46 with y_46 | y_46
                  · replace k4 := elim_l k4
                    refine Or.inr (callG_i [0, 3, 113] (wal_Open_FC0 F y_45.2.2.2.2.1 y_45.2.2.2.2.2.1 y_45.2.2.2.2.2.2 y_46 hy) rfl rfl rfl rfl ?_)
                    conv => whnf
                    obtain ⟨o5, h5, k5⟩ := bind_e k4
                    refine Or.inr (joins_i True ((1, (AV.sl (List.map (cInt IntKind.u8) rec))) :: ((5, (AV.ptr 0 0 0)) :: ((8, (AV.osw 1 1)) :: ((13, (AV.str y_43)) :: ((14, (AV.osw 2 1)) :: ((16, (AV.int IntKind.i64 y_45.1)) :: ((18, (AV.osw 3 1)) :: ((108, (AV.bool true)) :: [])))))))) ((0, (AO.rows false (((AV.mapo 4) :: ((AV.osw 5 2) :: ((AV.int IntKind.i64 y_46.2.1) :: []))) :: []))) :: ((1, (AO.rows true (List.map (cSl (cInt IntKind.u8)) y_38.2.2.2.1))) :: ((2, (AO.rows true (List.map (cInt IntKind.u8) y_44.2))) :: ((3, (AO.rows true (List.map (cSl (cInt IntKind.u8)) y_46.2.2.2.1))) :: ((4, (AO.fmap 1 (@encF (@List UInt8) Int (fun (k_13 : (@List UInt8)) => (AV.str k_13)) (cInt IntKind.u8) y_46.2.2.1) none)) :: ((5, (AO.rows true (List.map disk_write.c y_46.2.2.2.2))) :: [])))))) 6 ?_ (fun _ => ?_))
                    · conv => whnf
                      refine Or.inl ?_
                      conv => whnf
                      refine brn_i (fun hb => ?_) (fun hb => ?_)
                      · replace h5 := cond_t h5 hb
                        conv => whnf
                        obtain rfl := Option.some.inj h5
                        exact end_i trivial [(0, 0), (1, 1), (2, 48), (3, 136), (4, 3), (5, 137)] rfl rfl rfl
                      · replace h5 := cond_f h5 hb
                        conv => whnf
                        obtain rfl := Option.some.inj h5
                        exact end_i trivial [(0, 0), (1, 1), (2, 48), (3, 136), (4, 3), (5, 137)] rfl rfl rfl
                    · conv => whnf
                      refine Or.inl ?_
                      conv => whnf
                      obtain rfl := Option.some.inj k5
                      exact rfl
                  · replace k4 := elim_r k4
                    refine Or.inr (callG_i [0, 3, 113] (wal_Open_FC1 F y_45.2.2.2.2.1 y_45.2.2.2.2.2.1 y_45.2.2.2.2.2.2 y_46 hy) rfl rfl rfl rfl ?_)
                    conv => whnf
                    obtain ⟨t108_48, h6, k6⟩ := bind_e k4
                    refine Or.inr (joins_i True ((1, (AV.sl (List.map (cInt IntKind.u8) rec))) :: ((5, (AV.ptr 0 0 0)) :: ((8, (AV.osw 1 1)) :: ((13, (AV.str y_43)) :: ((14, (AV.osw 2 1)) :: ((16, (AV.int IntKind.i64 y_45.1)) :: ((18, (AV.sl (List.map (cSl (cInt IntKind.u8)) y_46.1))) :: ((108, (AV.bool t108_48)) :: [])))))))) ((0, (AO.rows false (((AV.mapo 3) :: ((AV.osw 4 2) :: ((AV.int IntKind.i64 y_46.2.2.1) :: []))) :: []))) :: ((1, (AO.rows true (List.map (cSl (cInt IntKind.u8)) y_38.2.2.2.1))) :: ((2, (AO.rows true (List.map (cInt IntKind.u8) y_44.2))) :: ((3, (AO.fmap 1 (@encF (@List UInt8) Int (fun (k_13 : (@List UInt8)) => (AV.str k_13)) (cInt IntKind.u8) y_46.2.2.2.1) none)) :: ((4, (AO.rows true (List.map disk_write.c y_46.2.2.2.2.2.2.2))) :: []))))) 5 ?_ (fun _ => ?_))
                    · conv => whnf
                      refine Or.inl ?_
                      conv => whnf
                      refine brn_i (fun hb => ?_) (fun hb => ?_)
                      · replace h6 := cond_t h6 hb
                        conv => whnf
                        obtain rfl := Option.some.inj h6
                        exact end_i trivial [(0, 0), (1, 1), (2, 48), (3, 3), (4, 137)] rfl rfl rfl
                      · replace h6 := cond_f h6 hb
                        conv => whnf
                        obtain ⟨y_49, hy, h6⟩ := bind_e h6
                        refine Or.inr (callG_i [136, 0, 3, 137] (__wal_Wal__File_FC0 F y_46.2.2.2.2.1 y_46.2.2.2.2.2.1 y_46.2.2.2.2.2.2.1 y_46.2.2.1 y_46.2.2.2.1 y_46.2.2.2.2.2.2.2 y_49 hy) rfl rfl rfl rfl ?_)
                        conv => whnf
                        obtain rfl := Option.some.inj h6
                        exact end_i trivial [(0, 0), (1, 1), (2, 48), (3, 3), (4, 137)] rfl rfl rfl
                    · conv => whnf
                      refine Or.inl ?_
                      conv => whnf
                      refine brn_i (fun hb => ?_) (fun hb => ?_)
                      · replace k6 := cond_t k6 hb
                        conv => whnf
                        obtain rfl := Option.some.inj k6
                        exact rfl
                      · replace k6 := cond_f k6 hb
                        conv => whnf
                        obtain ⟨y_50, hy, k6⟩ := bind_e k6
                        rcases y_50 with y_50 | y_50
                        · replace k6 := elim_l k6
                          refine Or.inr (callG_i [0, 3, 4] (__disk_Disk__Read_FC0 F y_43 y_46.2.2.1 y_46.2.2.2.1 y_46.2.2.2.2.2.2.2 y_50 hy) rfl rfl rfl rfl ?_)
                          conv => whnf
                          refine Or.inl ?_
                          conv => whnf
                          refine brn_i (fun hb => ?_) (fun hb => ?_)
                          · replace k6 := cond_t k6 hb
                            conv => whnf
                            refine Or.inl ?_
                            conv => whnf
                            refine Or.inl ?_
                            conv => whnf
                            obtain ⟨y_51, hy, k6⟩ := bind_e k6
                            refine ⟨_, _, (matinsref10_Lists_FC F y_46.1 y_38.2.2.2.1 y_51 hy), Or.inl ⟨rfl, rfl, ?_⟩⟩
                            conv => whnf
                            refine brn_i (fun hb => ?_) (fun hb => ?_)
                            · replace k6 := cond_t k6 hb
                              conv => whnf
                              obtain ⟨hg, k6⟩ := bytes_e k6
                              refine ⟨_, bytes_eq2 (by first | (simp; done) | rfl | (rw [List.map_append]; rfl)) hg, ?_⟩
                              conv => whnf
                              obtain ⟨hg, k6⟩ := bytes_e k6
                              refine ⟨_, bytes_eq2 (by first | (simp; done) | rfl | (rw [List.map_append]; rfl)) hg, ?_⟩
                              conv => whnf
                              obtain rfl := Option.some.inj k6
                              exact rfl
                            · replace k6 := cond_f k6 hb
                              conv => whnf
                              obtain rfl := Option.some.inj k6
                              exact rfl
                          · replace k6 := cond_f k6 hb
                            conv => whnf
                            refine Or.inl ?_
                            conv => whnf
                            refine brn_i (fun hb => ?_) (fun hb => ?_)
                            · replace k6 := cond_t k6 (by first | exact hb | (simp; done) | simpa using hb | simpa [chunk] using hb | (simp [chunk] at hb ⊢; omega))
                              conv => whnf
                              refine And.intro trivial ?_
                              conv => whnf
                              refine And.intro (by omega) ?_
                              conv => whnf
                              obtain ⟨hg, k6⟩ := grd_e k6
                              refine And.intro (by first | exact hg | (simp; done) | simpa using hg | simpa [chunk] using hg | (simp [chunk] at hg ⊢; omega)) ?_
                              conv => whnf
                              obtain ⟨hg, k6⟩ := grd_e k6
                              refine And.intro (by first | exact hg | (simp; done) | simpa using hg | simpa [chunk] using hg | (simp [chunk] at hg ⊢; omega)) ?_
                              conv => whnf
                              refine Or.inl ?_
                              conv => whnf
                              obtain ⟨y_52, hy, k6⟩ := bind_e k6
                              refine ⟨_, _, (FC_arg2 (cons2 (congrArg AV.sl (by first | (simp; done) | rfl | (rw [List.map_append]; rfl) | (simp [outR]; done) | (simp only [outR, Sum.elim_inr, id, List.map_append, List.map_map]; rfl))) rfl) (matinsref10_Lists_FC F (List.take (Int.toNat (@Nat.cast Int instNatCastInt (List.length (List.map (cSl (cInt IntKind.u8)) y_38.2.2.2.1)))) y_46.1) y_38.2.2.2.1 y_52 hy)), Or.inl ⟨rfl, rfl, ?_⟩⟩
                              conv => whnf
                              refine brn_i (fun hb => ?_) (fun hb => ?_)
                              · replace k6 := cond_t k6 hb
                                conv => whnf
                                refine And.intro (by omega) ?_
                                conv => whnf
                                obtain ⟨y_53, hy, k6⟩ := bind_e k6
                                refine opt_i ((cSl (cInt IntKind.u8)) y_53) (getE rfl hy) ?_
                                conv => whnf
                                obtain ⟨hg, k6⟩ := bytes_e k6
                                refine ⟨_, bytes_eq2 (by first | (simp; done) | rfl | (rw [List.map_append]; rfl)) hg, ?_⟩
                                conv => whnf
                                obtain ⟨hg, k6⟩ := bytes_e k6
                                refine ⟨_, bytes_eq2 (by first | (simp; done) | rfl | (rw [List.map_append]; rfl)) hg, ?_⟩
                                conv => whnf
                                refine brn_i (fun hb => ?_) (fun hb => ?_)
                                · replace k6 := cond_t k6 hb
                                  conv => whnf
                                  refine brn_i (fun hb => ?_) (fun hb => ?_)
                                  · replace k6 := cond_t k6 (by first | exact hb | (simp; done) | simpa using hb | simpa [chunk] using hb | (simp [chunk] at hb ⊢; omega))
                                    conv => whnf
                                    refine And.intro (LenAll.map (fun _ => rfl)) ?_
                                    conv => whnf
                                    refine Or.inr ?_
                                    conv => whnf
                                    refine ⟨_, _, rfl, rfl, rfl, rfl, ?_⟩
                                    conv => whnf
                                    refine And.intro (by omega) ?_
                                    conv => whnf
                                    obtain ⟨hg, k6⟩ := grd_e k6
                                    refine And.intro (by first | exact hg | (simp; done) | simpa using hg | simpa [chunk] using hg | (simp [chunk] at hg ⊢; omega)) ?_
                                    conv => whnf
                                    obtain ⟨hg, k6⟩ := bytes_e k6
                                    refine ⟨_, bytes_eq2 (by first | (simp; done) | rfl | (rw [List.map_append]; rfl)) hg, ?_⟩
                                    conv => whnf
                                    obtain ⟨hg, k6⟩ := bytes_e k6
                                    refine ⟨_, bytes_eq2 (by first | (simp; done) | rfl | (rw [List.map_append]; rfl)) hg, ?_⟩
                                    conv => whnf
                                    refine And.intro (by kernel_rfl) ?_
                                    conv => whnf
                                    obtain rfl := Option.some.inj k6
                                    exact by first | (simp; done) | rfl
                                  · replace k6 := cond_f k6 (by first | exact hb | (simp; done) | simpa using hb | simpa [chunk] using hb | (simp [chunk] at hb ⊢; omega))
                                    conv => whnf
                                    refine And.intro (by kernel_rfl) ?_
                                    conv => whnf
                                    obtain rfl := Option.some.inj k6
                                    exact rfl
                                · replace k6 := cond_f k6 hb
                                  conv => whnf
                                  refine And.intro (by kernel_rfl) ?_
                                  conv => whnf
                                  obtain rfl := Option.some.inj k6
                                  exact rfl
                              · replace k6 := cond_f k6 hb
                                conv => whnf
                                refine And.intro (by kernel_rfl) ?_
                                conv => whnf
                                obtain rfl := Option.some.inj k6
                                exact rfl
                            · replace k6 := cond_f k6 (by first | exact hb | (simp; done) | simpa using hb | simpa [chunk] using hb | (simp [chunk] at hb ⊢; omega))
                              conv => whnf
                              refine And.intro (by kernel_rfl) ?_
                              conv => whnf
                              obtain rfl := Option.some.inj k6
                              exact rfl
                        · replace k6 := elim_r k6
                          refine Or.inr (callG_i [0, 3, 4] (__disk_Disk__Read_FC1 F y_43 y_46.2.2.1 y_46.2.2.2.1 y_46.2.2.2.2.2.2.2 y_50 hy) rfl rfl rfl rfl ?_)
                          conv => whnf
                          refine Or.inl ?_
                          conv => whnf
                          refine brn_i (fun hb => ?_) (fun hb => ?_)
                          · replace k6 := cond_t k6 hb
                            conv => whnf
                            refine Or.inl ?_
                            conv => whnf
                            refine Or.inl ?_
                            conv => whnf
                            obtain ⟨y_54, hy, k6⟩ := bind_e k6
                            refine ⟨_, _, (matinsref10_Lists_FC F y_46.1 y_38.2.2.2.1 y_54 hy), Or.inl ⟨rfl, rfl, ?_⟩⟩
                            conv => whnf
                            refine brn_i (fun hb => ?_) (fun hb => ?_)
                            · replace k6 := cond_t k6 hb
                              conv => whnf
                              obtain ⟨hg, k6⟩ := bytes_e k6
                              refine ⟨_, bytes_eq2 (by first | (simp; done) | rfl | (rw [List.map_append]; rfl)) hg, ?_⟩
                              conv => whnf
                              obtain ⟨hg, k6⟩ := bytes_e k6
                              refine ⟨_, bytes_eq2 (by first | (simp; done) | rfl | (rw [List.map_append]; rfl)) hg, ?_⟩
                              conv => whnf
                              obtain rfl := Option.some.inj k6
                              exact rfl
                            · replace k6 := cond_f k6 hb
                              conv => whnf
                              obtain rfl := Option.some.inj k6
                              exact rfl
                          · replace k6 := cond_f k6 hb
                            conv => whnf
                            refine Or.inl ?_
                            conv => whnf
                            refine brn_i (fun hb => ?_) (fun hb => ?_)
                            · replace k6 := cond_t k6 (by first | exact hb | (simp; done) | simpa using hb | simpa [chunk] using hb | (simp [chunk] at hb ⊢; omega))
                              conv => whnf
                              refine And.intro trivial ?_
                              conv => whnf
                              refine And.intro (by omega) ?_
                              conv => whnf
                              obtain ⟨hg, k6⟩ := grd_e k6
                              refine And.intro (by first | exact hg | (simp; done) | simpa using hg | simpa [chunk] using hg | (simp [chunk] at hg ⊢; omega)) ?_
                              conv => whnf
                              obtain ⟨hg, k6⟩ := grd_e k6
                              refine And.intro (by first | exact hg | (simp; done) | simpa using hg | simpa [chunk] using hg | (simp [chunk] at hg ⊢; omega)) ?_
                              conv => whnf
                              refine Or.inl ?_
                              conv => whnf
                              obtain ⟨y_55, hy, k6⟩ := bind_e k6
                              refine ⟨_, _, (FC_arg2 (cons2 (congrArg AV.sl (by first | (simp; done) | rfl | (rw [List.map_append]; rfl) | (simp [outR]; done) | (simp only [outR, Sum.elim_inr, id, List.map_append, List.map_map]; rfl))) rfl) (matinsref10_Lists_FC F (List.take (Int.toNat (@Nat.cast Int instNatCastInt (List.length (List.map (cSl (cInt IntKind.u8)) y_38.2.2.2.1)))) y_46.1) y_38.2.2.2.1 y_55 hy)), Or.inl ⟨rfl, rfl, ?_⟩⟩
                              conv => whnf
                              refine brn_i (fun hb => ?_) (fun hb => ?_)
                              · replace k6 := cond_t k6 hb
                                conv => whnf
                                refine And.intro (by omega) ?_
                                conv => whnf
                                obtain ⟨y_56, hy, k6⟩ := bind_e k6
                                refine opt_i ((cSl (cInt IntKind.u8)) y_56) (getE rfl hy) ?_
                                conv => whnf
                                obtain ⟨hg, k6⟩ := bytes_e k6
                                refine ⟨_, bytes_eq2 (by first | (simp; done) | rfl | (rw [List.map_append]; rfl)) hg, ?_⟩
                                conv => whnf
                                obtain ⟨hg, k6⟩ := bytes_e k6
                                refine ⟨_, bytes_eq2 (by first | (simp; done) | rfl | (rw [List.map_append]; rfl)) hg, ?_⟩
                                conv => whnf
                                refine brn_i (fun hb => ?_) (fun hb => ?_)
                                · replace k6 := cond_t k6 hb
                                  conv => whnf
                                  refine brn_i (fun hb => ?_) (fun hb => ?_)
                                  · replace k6 := cond_t k6 (by first | exact hb | (simp; done) | simpa using hb | simpa [chunk] using hb | (simp [chunk] at hb ⊢; omega))
                                    conv => whnf
                                    refine And.intro trivial ?_
                                    conv => whnf
                                    refine And.intro (by omega) ?_
                                    conv => whnf
                                    obtain ⟨hg, k6⟩ := grd_e k6
                                    refine And.intro (by first | exact hg | (simp; done) | simpa using hg | simpa [chunk] using hg | (simp [chunk] at hg ⊢; omega)) ?_
                                    conv => whnf
                                    obtain ⟨hg, k6⟩ := grd_e k6
                                    refine And.intro (by first | exact hg | (simp; done) | simpa using hg | simpa [chunk] using hg | (simp [chunk] at hg ⊢; omega)) ?_
                                    conv => whnf
                                    obtain ⟨hg, k6⟩ := bytes_e k6
                                    refine ⟨_, bytes_eq2 (by first | (simp; done) | rfl | (rw [List.map_append]; rfl)) hg, ?_⟩
                                    conv => whnf
                                    obtain ⟨hg, k6⟩ := bytes_e k6
                                    refine ⟨_, bytes_eq2 (by first | (simp; done) | rfl | (rw [List.map_append]; rfl)) hg, ?_⟩
                                    conv => whnf
                                    refine And.intro (by kernel_rfl) ?_
                                    conv => whnf
                                    obtain rfl := Option.some.inj k6
                                    exact by first | (simp; done) | rfl
                                  · replace k6 := cond_f k6 (by first | exact hb | (simp; done) | simpa using hb | simpa [chunk] using hb | (simp [chunk] at hb ⊢; omega))
                                    conv => whnf
                                    refine And.intro (by kernel_rfl) ?_
                                    conv => whnf
                                    obtain rfl := Option.some.inj k6
                                    exact rfl
                                · replace k6 := cond_f k6 hb
                                  conv => whnf
                                  refine And.intro (by kernel_rfl) ?_
                                  conv => whnf
                                  obtain rfl := Option.some.inj k6
                                  exact rfl
                              · replace k6 := cond_f k6 hb
                                conv => whnf
                                refine And.intro (by kernel_rfl) ?_
                                conv => whnf
                                obtain rfl := Option.some.inj k6
                                exact rfl
                            · replace k6 := cond_f k6 (by first | exact hb | (simp; done) | simpa using hb | simpa [chunk] using hb | (simp [chunk] at hb ⊢; omega))
                              conv => whnf
                              refine And.intro (by kernel_rfl) ?_
                              conv => whnf
                              obtain rfl := Option.some.inj k6
                              exact rfl
                · replace k4 := elim_r k4
                  refine Or.inr (callG_i [0, 3, 4] (__disk_Disk__Read_FC1 F y_43 y_39.2.2.1 y_39.2.2.2.1 y_39.2.2.2.2.2.2.2 y_44 hy) rfl rfl rfl rfl ?_)
                  conv => whnf
                  obtain ⟨y_57, hy, k4⟩ := bind_e k4
                  refine Or.inr (callG_i [2, 0, 3, 4] (__wal_Wal__Append_i1_FC0 F rec y_39.2.2.2.2.1 y_39.2.2.2.2.2.1 y_39.2.2.2.2.2.2.1 y_39.2.2.1 y_39.2.2.2.1 y_39.2.2.2.2.2.2.2 y_57 hy) rfl rfl rfl rfl ?_)
                  conv => whnf
                  obtain ⟨y_58, hy, k4⟩ := bind_e k4
                  rcases y_58 with y_58 | y_58
                  · replace k4 := elim_l k4
                    refine Or.inr (callG_i [0, 3, 113] (wal_Open_FC0 F y_57.2.2.2.2.1 y_57.2.2.2.2.2.1 y_57.2.2.2.2.2.2 y_58 hy) rfl rfl rfl rfl ?_)
                    conv => whnf
                    obtain ⟨o7, h7, k7⟩ := bind_e k4
                    refine Or.inr (joins_i True ((1, (AV.sl (List.map (cInt IntKind.u8) rec))) :: ((5, (AV.ptr 0 0 0)) :: ((8, (AV.osw 1 1)) :: ((13, (AV.str y_43)) :: ((14, (AV.sl (List.map (cInt IntKind.u8) y_44.1))) :: ((16, (AV.int IntKind.i64 y_57.1)) :: ((18, (AV.osw 2 1)) :: ((108, (AV.bool true)) :: [])))))))) ((0, (AO.rows false (((AV.mapo 3) :: ((AV.osw 4 2) :: ((AV.int IntKind.i64 y_58.2.1) :: []))) :: []))) :: ((1, (AO.rows true (List.map (cSl (cInt IntKind.u8)) y_38.2.2.2.1))) :: ((2, (AO.rows true (List.map (cSl (cInt IntKind.u8)) y_58.2.2.2.1))) :: ((3, (AO.fmap 1 (@encF (@List UInt8) Int (fun (k_13 : (@List UInt8)) => (AV.str k_13)) (cInt IntKind.u8) y_58.2.2.1) none)) :: ((4, (AO.rows true (List.map disk_write.c y_58.2.2.2.2))) :: []))))) 5 ?_ (fun _ => ?_))
                    · conv => whnf
                      refine Or.inl ?_
                      conv => whnf
                      refine brn_i (fun hb => ?_) (fun hb => ?_)
                      · replace h7 := cond_t h7 hb
                        conv => whnf
                        obtain rfl := Option.some.inj h7
                        exact end_i trivial [(0, 0), (1, 1), (2, 136), (3, 3), (4, 137)] rfl rfl rfl
                      · replace h7 := cond_f h7 hb
                        conv => whnf
                        obtain rfl := Option.some.inj h7
                        exact end_i trivial [(0, 0), (1, 1), (2, 136), (3, 3), (4, 137)] rfl rfl rfl
                    · conv => whnf
                      refine Or.inl ?_
                      conv => whnf
                      obtain rfl := Option.some.inj k7
                      exact rfl
                  · replace k4 := elim_r k4
                    refine Or.inr (callG_i [0, 3, 113] (wal_Open_FC1 F y_57.2.2.2.2.1 y_57.2.2.2.2.2.1 y_57.2.2.2.2.2.2 y_58 hy) rfl rfl rfl rfl ?_)
                    conv => whnf
                    obtain ⟨t108_60, h8, k8⟩ := bind_e k4
                    refine Or.inr (joins_i True ((1, (AV.sl (List.map (cInt IntKind.u8) rec))) :: ((5, (AV.ptr 0 0 0)) :: ((8, (AV.osw 1 1)) :: ((13, (AV.str y_43)) :: ((14, (AV.sl (List.map (cInt IntKind.u8) y_44.1))) :: ((16, (AV.int IntKind.i64 y_57.1)) :: ((18, (AV.sl (List.map (cSl (cInt IntKind.u8)) y_58.1))) :: ((108, (AV.bool t108_60)) :: [])))))))) ((0, (AO.rows false (((AV.mapo 2) :: ((AV.osw 3 2) :: ((AV.int IntKind.i64 y_58.2.2.1) :: []))) :: []))) :: ((1, (AO.rows true (List.map (cSl (cInt IntKind.u8)) y_38.2.2.2.1))) :: ((2, (AO.fmap 1 (@encF (@List UInt8) Int (fun (k_13 : (@List UInt8)) => (AV.str k_13)) (cInt IntKind.u8) y_58.2.2.2.1) none)) :: ((3, (AO.rows true (List.map disk_write.c y_58.2.2.2.2.2.2.2))) :: [])))) 4 ?_ (fun _ => ?_))
                    · conv => whnf
                      refine Or.inl ?_
                      conv => whnf
                      refine brn_i (fun hb => ?_) (fun hb => ?_)
                      · replace h8 := cond_t h8 hb
                        conv => whnf
                        obtain rfl := Option.some.inj h8
                        exact end_i trivial [(0, 0), (1, 1), (2, 3), (3, 137)] rfl rfl rfl
                      · replace h8 := cond_f h8 hb
                        conv => whnf
                        obtain ⟨y_61, hy, h8⟩ := bind_e h8
                        refine Or.inr (callG_i [136, 0, 3, 137] (__wal_Wal__File_FC0 F y_58.2.2.2.2.1 y_58.2.2.2.2.2.1 y_58.2.2.2.2.2.2.1 y_58.2.2.1 y_58.2.2.2.1 y_58.2.2.2.2.2.2.2 y_61 hy) rfl rfl rfl rfl ?_)
                        conv => whnf
                        obtain rfl := Option.some.inj h8
                        exact end_i trivial [(0, 0), (1, 1), (2, 3), (3, 137)] rfl rfl rfl
                    · conv => whnf
                      refine Or.inl ?_
                      conv => whnf
                      refine brn_i (fun hb => ?_) (fun hb => ?_)
                      · replace k8 := cond_t k8 hb
                        conv => whnf
                        obtain rfl := Option.some.inj k8
                        exact rfl
                      · replace k8 := cond_f k8 hb
                        conv => whnf
                        obtain ⟨y_62, hy, k8⟩ := bind_e k8
                        rcases y_62 with y_62 | y_62
                        · replace k8 := elim_l k8
                          refine Or.inr (callG_i [0, 2, 3] (__disk_Disk__Read_FC0 F y_43 y_58.2.2.1 y_58.2.2.2.1 y_58.2.2.2.2.2.2.2 y_62 hy) rfl rfl rfl rfl ?_)
                          conv => whnf
                          refine Or.inl ?_
                          conv => whnf
                          refine brn_i (fun hb => ?_) (fun hb => ?_)
                          · replace k8 := cond_t k8 hb
                            conv => whnf
                            refine Or.inl ?_
                            conv => whnf
                            refine Or.inl ?_
                            conv => whnf
                            obtain ⟨y_63, hy, k8⟩ := bind_e k8
                            refine ⟨_, _, (matinsref10_Lists_FC F y_58.1 y_38.2.2.2.1 y_63 hy), Or.inl ⟨rfl, rfl, ?_⟩⟩
                            conv => whnf
                            refine brn_i (fun hb => ?_) (fun hb => ?_)
                            · replace k8 := cond_t k8 hb
                              conv => whnf
                              obtain ⟨hg, k8⟩ := bytes_e k8
                              refine ⟨_, bytes_eq2 (by first | (simp; done) | rfl | (rw [List.map_append]; rfl)) hg, ?_⟩
                              conv => whnf
                              obtain ⟨hg, k8⟩ := bytes_e k8
                              refine ⟨_, bytes_eq2 (by first | (simp; done) | rfl | (rw [List.map_append]; rfl)) hg, ?_⟩
                              conv => whnf
                              obtain rfl := Option.some.inj k8
                              exact rfl
                            · replace k8 := cond_f k8 hb
                              conv => whnf
                              obtain rfl := Option.some.inj k8
                              exact rfl
                          · replace k8 := cond_f k8 hb
                            conv => whnf
                            refine Or.inl ?_
                            conv => whnf
                            refine brn_i (fun hb => ?_) (fun hb => ?_)
                            · replace k8 := cond_t k8 (by first | exact hb | (simp; done) | simpa using hb | simpa [chunk] using hb | (simp [chunk] at hb ⊢; omega))
                              conv => whnf
                              refine And.intro trivial ?_
                              conv => whnf
                              refine And.intro (by omega) ?_
                              conv => whnf
                              obtain ⟨hg, k8⟩ := grd_e k8
                              refine And.intro (by first | exact hg | (simp; done) | simpa using hg | simpa [chunk] using hg | (simp [chunk] at hg ⊢; omega)) ?_
                              conv => whnf
                              obtain ⟨hg, k8⟩ := grd_e k8
                              refine And.intro (by first | exact hg | (simp; done) | simpa using hg | simpa [chunk] using hg | (simp [chunk] at hg ⊢; omega)) ?_
                              conv => whnf
                              refine Or.inl ?_
                              conv => whnf
                              obtain ⟨y_64, hy, k8⟩ := bind_e k8
                              refine ⟨_, _, (FC_arg2 (cons2 (congrArg AV.sl (by first | (simp; done) | rfl | (rw [List.map_append]; rfl) | (simp [outR]; done) | (simp only [outR, Sum.elim_inr, id, List.map_append, List.map_map]; rfl))) rfl) (matinsref10_Lists_FC F (List.take (Int.toNat (@Nat.cast Int instNatCastInt (List.length (List.map (cSl (cInt IntKind.u8)) y_38.2.2.2.1)))) y_58.1) y_38.2.2.2.1 y_64 hy)), Or.inl ⟨rfl, rfl, ?_⟩⟩
                              conv => whnf
                              refine brn_i (fun hb => ?_) (fun hb => ?_)
                              · replace k8 := cond_t k8 hb
                                conv => whnf
                                refine And.intro (by omega) ?_
                                conv => whnf
                                obtain ⟨y_65, hy, k8⟩ := bind_e k8
                                refine opt_i ((cSl (cInt IntKind.u8)) y_65) (getE rfl hy) ?_
                                conv => whnf
                                obtain ⟨hg, k8⟩ := bytes_e k8
                                refine ⟨_, bytes_eq2 (by first | (simp; done) | rfl | (rw [List.map_append]; rfl)) hg, ?_⟩
                                conv => whnf
                                obtain ⟨hg, k8⟩ := bytes_e k8
                                refine ⟨_, bytes_eq2 (by first | (simp; done) | rfl | (rw [List.map_append]; rfl)) hg, ?_⟩
                                conv => whnf
                                refine brn_i (fun hb => ?_) (fun hb => ?_)
                                · replace k8 := cond_t k8 hb
                                  conv => whnf
                                  refine brn_i (fun hb => ?_) (fun hb => ?_)
                                  · replace k8 := cond_t k8 (by first | exact hb | (simp; done) | simpa using hb | simpa [chunk] using hb | (simp [chunk] at hb ⊢; omega))
                                    conv => whnf
                                    refine And.intro (LenAll.map (fun _ => rfl)) ?_
                                    conv => whnf
                                    refine Or.inr ?_
                                    conv => whnf
                                    refine ⟨_, _, rfl, rfl, rfl, rfl, ?_⟩
                                    conv => whnf
                                    refine And.intro (by omega) ?_
                                    conv => whnf
                                    obtain ⟨hg, k8⟩ := grd_e k8
                                    refine And.intro (by first | exact hg | (simp; done) | simpa using hg | simpa [chunk] using hg | (simp [chunk] at hg ⊢; omega)) ?_
                                    conv => whnf
                                    obtain ⟨hg, k8⟩ := bytes_e k8
                                    refine ⟨_, bytes_eq2 (by first | (simp; done) | rfl | (rw [List.map_append]; rfl)) hg, ?_⟩
                                    conv => whnf
                                    obtain ⟨hg, k8⟩ := bytes_e k8
                                    refine ⟨_, bytes_eq2 (by first | (simp; done) | rfl | (rw [List.map_append]; rfl)) hg, ?_⟩
                                    conv => whnf
                                    refine And.intro (by kernel_rfl) ?_
                                    conv => whnf
                                    obtain rfl := Option.some.inj k8
                                    exact by first | (simp; done) | rfl
                                  · replace k8 := cond_f k8 (by first | exact hb | (simp; done) | simpa using hb | simpa [chunk] using hb | (simp [chunk] at hb ⊢; omega))
                                    conv => whnf
                                    refine And.intro (by kernel_rfl) ?_
                                    conv => whnf
                                    obtain rfl := Option.some.inj k8
                                    exact rfl
                                · replace k8 := cond_f k8 hb
                                  conv => whnf
                                  refine And.intro (by kernel_rfl) ?_
                                  conv => whnf
                                  obtain rfl := Option.some.inj k8
                                  exact rfl
                              · replace k8 := cond_f k8 hb
                                conv => whnf
                                refine And.intro (by kernel_rfl) ?_
                                conv => whnf
                                obtain rfl := Option.some.inj k8
                                exact rfl
                            · replace k8 := cond_f k8 (by first | exact hb | (simp; done) | simpa using hb | simpa [chunk] using hb | (simp [chunk] at hb ⊢; omega))
                              conv => whnf
                              refine And.intro (by kernel_rfl) ?_
                              conv => whnf
                              obtain rfl := Option.some.inj k8
                              exact rfl
                        · replace k8 := elim_r k8
                          refine Or.inr (callG_i [0, 2, 3] (__disk_Disk__Read_FC1 F y_43 y_58.2.2.1 y_58.2.2.2.1 y_58.2.2.2.2.2.2.2 y_62 hy) rfl rfl rfl rfl ?_)
                          conv => whnf
                          refine Or.inl ?_
                          conv => whnf
                          refine brn_i (fun hb => ?_) (fun hb => ?_)
                          · replace k8 := cond_t k8 hb
                            conv => whnf
                            refine Or.inl ?_
                            conv => whnf
                            refine Or.inl ?_
                            conv => whnf
                            obtain ⟨y_66, hy, k8⟩ := bind_e k8
                            refine ⟨_, _, (matinsref10_Lists_FC F y_58.1 y_38.2.2.2.1 y_66 hy), Or.inl ⟨rfl, rfl, ?_⟩⟩
                            conv => whnf
                            refine brn_i (fun hb => ?_) (fun hb => ?_)
                            · replace k8 := cond_t k8 hb
                              conv => whnf
                              obtain ⟨hg, k8⟩ := bytes_e k8
                              refine ⟨_, bytes_eq2 (by first | (simp; done) | rfl | (rw [List.map_append]; rfl)) hg, ?_⟩
                              conv => whnf
                              obtain ⟨hg, k8⟩ := bytes_e k8
                              refine ⟨_, bytes_eq2 (by first | (simp; done) | rfl | (rw [List.map_append]; rfl)) hg, ?_⟩
                              conv => whnf
                              obtain rfl := Option.some.inj k8
                              exact rfl
                            · replace k8 := cond_f k8 hb
                              conv => whnf
                              obtain rfl := Option.some.inj k8
                              exact rfl
                          · replace k8 := cond_f k8 hb
                            conv => whnf
                            refine Or.inl ?_
                            conv => whnf
                            refine brn_i (fun hb => ?_) (fun hb => ?_)
                            · replace k8 := cond_t k8 (by first | exact hb | (simp; done) | simpa using hb | simpa [chunk] using hb | (simp [chunk] at hb ⊢; omega))
                              conv => whnf
                              refine And.intro trivial ?_
                              conv => whnf
                              refine And.intro (by omega) ?_
                              conv => whnf
                              obtain ⟨hg, k8⟩ := grd_e k8
                              refine And.intro (by first | exact hg | (simp; done) | simpa using hg | simpa [chunk] using hg | (simp [chunk] at hg ⊢; omega)) ?_
                              conv => whnf
                              obtain ⟨hg, k8⟩ := grd_e k8
                              refine And.intro (by first | exact hg | (simp; done) | simpa using hg | simpa [chunk] using hg | (simp [chunk] at hg ⊢; omega)) ?_
                              conv => whnf
                              refine Or.inl ?_
                              conv => whnf
                              obtain ⟨y_67, hy, k8⟩ := bind_e k8
                              refine ⟨_, _, (FC_arg2 (cons2 (congrArg AV.sl (by first | (simp; done) | rfl | (rw [List.map_append]; rfl) | (simp [outR]; done) | (simp only [outR, Sum.elim_inr, id, List.map_append, List.map_map]; rfl))) rfl) (matinsref10_Lists_FC F (List.take (Int.toNat (@Nat.cast Int instNatCastInt (List.length (List.map (cSl (cInt IntKind.u8)) y_38.2.2.2.1)))) y_58.1) y_38.2.2.2.1 y_67 hy)), Or.inl ⟨rfl, rfl, ?_⟩⟩
                              conv => whnf
                              refine brn_i (fun hb => ?_) (fun hb => ?_)
                              · replace k8 := cond_t k8 hb
                                conv => whnf
                                refine And.intro (by omega) ?_
                                conv => whnf
                                obtain ⟨y_68, hy, k8⟩ := bind_e k8
                                refine opt_i ((cSl (cInt IntKind.u8)) y_68) (getE rfl hy) ?_
                                conv => whnf
                                obtain ⟨hg, k8⟩ := bytes_e k8
                                refine ⟨_, bytes_eq2 (by first | (simp; done) | rfl | (rw [List.map_append]; rfl)) hg, ?_⟩
                                conv => whnf
                                obtain ⟨hg, k8⟩ := bytes_e k8
                                refine ⟨_, bytes_eq2 (by first | (simp; done) | rfl | (rw [List.map_append]; rfl)) hg, ?_⟩
                                conv => whnf
                                refine brn_i (fun hb => ?_) (fun hb => ?_)
                                · replace k8 := cond_t k8 hb
                                  conv => whnf
                                  refine brn_i (fun hb => ?_) (fun hb => ?_)
                                  · replace k8 := cond_t k8 (by first | exact hb | (simp; done) | simpa using hb | simpa [chunk] using hb | (simp [chunk] at hb ⊢; omega))
                                    conv => whnf
                                    refine And.intro trivial ?_
                                    conv => whnf
                                    refine And.intro (by omega) ?_
                                    conv => whnf
                                    obtain ⟨hg, k8⟩ := grd_e k8
                                    refine And.intro (by first | exact hg | (simp; done) | simpa using hg | simpa [chunk] using hg | (simp [chunk] at hg ⊢; omega)) ?_
                                    conv => whnf
                                    obtain ⟨hg, k8⟩ := grd_e k8
                                    refine And.intro (by first | exact hg | (simp; done) | simpa using hg | simpa [chunk] using hg | (simp [chunk] at hg ⊢; omega)) ?_
                                    conv => whnf
                                    obtain ⟨hg, k8⟩ := bytes_e k8
                                    refine ⟨_, bytes_eq2 (by first | (simp; done) | rfl | (rw [List.map_append]; rfl)) hg, ?_⟩
                                    conv => whnf
                                    obtain ⟨hg, k8⟩ := bytes_e k8
                                    refine ⟨_, bytes_eq2 (by first | (simp; done) | rfl | (rw [List.map_append]; rfl)) hg, ?_⟩
                                    conv => whnf
                                    refine And.intro (by kernel_rfl) ?_
                                    conv => whnf
                                    obtain rfl := Option.some.inj k8
                                    exact by first | (simp; done) | rfl
                                  · replace k8 := cond_f k8 (by first | exact hb | (simp; done) | simpa using hb | simpa [chunk] using hb | (simp [chunk] at hb ⊢; omega))
                                    conv => whnf
                                    refine And.intro (by kernel_rfl) ?_
                                    conv => whnf
                                    obtain rfl := Option.some.inj k8
                                    exact rfl
                                · replace k8 := cond_f k8 hb
                                  conv => whnf
                                  refine And.intro (by kernel_rfl) ?_
                                  conv => whnf
                                  obtain rfl := Option.some.inj k8
                                  exact rfl
                              · replace k8 := cond_f k8 hb
                                conv => whnf
                                refine And.intro (by kernel_rfl) ?_
                                conv => whnf
                                obtain rfl := Option.some.inj k8
                                exact rfl
                            · replace k8 := cond_f k8 (by first | exact hb | (simp; done) | simpa using hb | simpa [chunk] using hb | (simp [chunk] at hb ⊢; omega))
                              conv => whnf
                              refine And.intro (by kernel_rfl) ?_
                              conv => whnf
                              obtain rfl := Option.some.inj k8
                              exact rfl
      · replace k2 := elim_r k2
        refine Or.inr (callG_i [0, 1, 2] (wal_Open_FC1 F c_16 fs_17 l_18 y_38 hy) rfl rfl rfl rfl ?_)
        conv => whnf
        refine Or.inl ?_
        conv => whnf
        refine brn_i (fun hb => ?_) (fun hb => ?_)
        · replace k2 := cond_t k2 hb
          conv => whnf
          refine Or.inl ?_
          conv => whnf
          refine brn_i (fun hb => ?_) (fun hb => ?_)
          · replace k2 := cond_t k2 hb
            conv => whnf
            obtain rfl := Option.some.inj k2
            exact rfl
          · replace k2 := cond_f k2 hb
            conv => whnf
            obtain rfl := Option.some.inj k2
            exact rfl
        · replace k2 := cond_f k2 hb
          conv => whnf
          obtain ⟨y_69, hy, k2⟩ := bind_e k2
          rcases y_69 with y_69 | y_69
          · replace k2 := elim_l k2
            refine Or.inr (callG_i [0, 1, 15] (wal_Open_FC0 F y_38.2.2.1 y_38.2.2.2.1 y_38.2.2.2.2.2.2.2 y_69 hy) rfl rfl rfl rfl ?_)
            conv => whnf
            obtain ⟨o9, h9, k9⟩ := bind_e k2
            refine Or.inr (joins_i True ((1, (AV.sl (List.map (cInt IntKind.u8) rec))) :: ((5, (AV.ptr 0 0 0)) :: ((8, (AV.sl (List.map (cSl (cInt IntKind.u8)) y_38.1))) :: ((10, (AV.con (Value.pointer none))) :: ((79, (AV.bool true)) :: []))))) ((0, (AO.rows false (((AV.mapo 1) :: ((AV.osw 2 2) :: ((AV.int IntKind.i64 y_69.2.1) :: []))) :: []))) :: ((1, (AO.fmap 1 (@encF (@List UInt8) Int (fun (k_13 : (@List UInt8)) => (AV.str k_13)) (cInt IntKind.u8) y_69.2.2.1) none)) :: ((2, (AO.rows true (List.map disk_write.c y_69.2.2.2.2))) :: []))) 3 ?_ (fun _ => ?_))
            · conv => whnf
              refine Or.inl ?_
              conv => whnf
              refine brn_i (fun hb => ?_) (fun hb => ?_)
              · replace h9 := cond_t h9 hb
                conv => whnf
                obtain rfl := Option.some.inj h9
                exact end_i trivial [(0, 0), (1, 1), (2, 103)] rfl rfl rfl
              · replace h9 := cond_f h9 hb
                conv => whnf
                obtain rfl := Option.some.inj h9
                exact end_i trivial [(0, 0), (1, 1), (2, 103)] rfl rfl rfl
            · conv => whnf
              refine Or.inl ?_
              conv => whnf
              obtain rfl := Option.some.inj k9
              exact rfl
          · replace k2 := elim_r k2
            refine Or.inr (callG_i [0, 1, 15] (wal_Open_FC1 F y_38.2.2.1 y_38.2.2.2.1 y_38.2.2.2.2.2.2.2 y_69 hy) rfl rfl rfl rfl ?_)
            conv => whnf
            obtain ⟨t79_71, h10, k10⟩ := bind_e k2
            refine Or.inr (joins_i True ((1, (AV.sl (List.map (cInt IntKind.u8) rec))) :: ((5, (AV.ptr 0 0 0)) :: ((8, (AV.sl (List.map (cSl (cInt IntKind.u8)) y_38.1))) :: ((10, (AV.ptr 1 0 0)) :: ((79, (AV.bool t79_71)) :: []))))) ((0, (AO.rows false (((AV.mapo 2) :: ((AV.osw 3 2) :: ((AV.int IntKind.i64 y_69.2.2.1) :: []))) :: []))) :: ((1, (AO.rows false (((AV.ptr 0 0 0) :: ((AV.str y_69.2.2.2.2.1) :: ((AV.int IntKind.i64 y_69.2.2.2.2.2.1) :: ((AV.int IntKind.i64 y_69.2.2.2.2.2.2.1) :: [])))) :: []))) :: ((2, (AO.fmap 1 (@encF (@List UInt8) Int (fun (k_13 : (@List UInt8)) => (AV.str k_13)) (cInt IntKind.u8) y_69.2.2.2.1) none)) :: ((3, (AO.rows true (List.map disk_write.c y_69.2.2.2.2.2.2.2))) :: [])))) 4 ?_ (fun _ => ?_))
            · conv => whnf
              refine Or.inl ?_
              conv => whnf
              refine brn_i (fun hb => ?_) (fun hb => ?_)
              · replace h10 := cond_t h10 hb
                conv => whnf
                obtain rfl := Option.some.inj h10
                exact end_i trivial [(0, 0), (1, 102), (2, 1), (3, 103)] rfl rfl rfl
              · replace h10 := cond_f h10 hb
                conv => whnf
                refine Or.inl ?_
                conv => whnf
                obtain ⟨y_72, hy, h10⟩ := bind_e h10
                refine ⟨_, _, (matinsref10_Lists_FC F y_38.1 y_69.1 y_72 hy), Or.inl ⟨rfl, rfl, ?_⟩⟩
                conv => whnf
                obtain rfl := Option.some.inj h10
                exact end_i trivial [(0, 0), (1, 102), (2, 1), (3, 103)] rfl rfl rfl
            · conv => whnf
              refine Or.inl ?_
              conv => whnf
              refine brn_i (fun hb => ?_) (fun hb => ?_)
              · replace k10 := cond_t k10 hb
                conv => whnf
                obtain rfl := Option.some.inj k10
                exact rfl
              · replace k10 := cond_f k10 hb
                conv => whnf
                obtain ⟨y_73, hy, k10⟩ := bind_e k10
                refine Or.inr (callG_i [1, 0, 2, 3] (__wal_Wal__File_FC0 F y_69.2.2.2.2.1 y_69.2.2.2.2.2.1 y_69.2.2.2.2.2.2.1 y_69.2.2.1 y_69.2.2.2.1 y_69.2.2.2.2.2.2.2 y_73 hy) rfl rfl rfl rfl ?_)
                conv => whnf
                obtain ⟨y_74, hy, k10⟩ := bind_e k10
                rcases y_74 with y_74 | y_74
                · replace k10 := elim_l k10
                  refine Or.inr (callG_i [0, 2, 3] (__disk_Disk__Read_FC0 F y_73 y_69.2.2.1 y_69.2.2.2.1 y_69.2.2.2.2.2.2.2 y_74 hy) rfl rfl rfl rfl ?_)
                  conv => whnf
                  obtain ⟨y_75, hy, k10⟩ := bind_e k10
                  refine Or.inr (callG_i [1, 0, 2, 3] (__wal_Wal__Append_i1_FC0 F rec y_69.2.2.2.2.1 y_69.2.2.2.2.2.1 y_69.2.2.2.2.2.2.1 y_69.2.2.1 y_69.2.2.2.1 y_69.2.2.2.2.2.2.2 y_75 hy) rfl rfl rfl rfl ?_)
                  conv => whnf
                  obtain ⟨y_76, hy, k10⟩ := bind_e k10
                  rcases y_76 with y_76 | y_76
                  · replace k10 := elim_l k10
                    refine Or.inr (callG_i [0, 2, 112] (wal_Open_FC0 F y_75.2.2.2.2.1 y_75.2.2.2.2.2.1 y_75.2.2.2.2.2.2 y_76 hy) rfl rfl rfl rfl ?_)
                    conv => whnf
                    obtain ⟨o11, h11, k11⟩ := bind_e k10
                    refine Or.inr (joins_i True ((1, (AV.sl (List.map (cInt IntKind.u8) rec))) :: ((5, (AV.ptr 0 0 0)) :: ((8, (AV.sl (List.map (cSl (cInt IntKind.u8)) y_38.1))) :: ((13, (AV.str y_73)) :: ((14, (AV.osw 1 1)) :: ((16, (AV.int IntKind.i64 y_75.1)) :: ((18, (AV.osw 2 1)) :: ((108, (AV.bool true)) :: [])))))))) ((0, (AO.rows false (((AV.mapo 3) :: ((AV.osw 4 2) :: ((AV.int IntKind.i64 y_76.2.1) :: []))) :: []))) :: ((1, (AO.rows true (List.map (cInt IntKind.u8) y_74.2))) :: ((2, (AO.rows true (List.map (cSl (cInt IntKind.u8)) y_76.2.2.2.1))) :: ((3, (AO.fmap 1 (@encF (@List UInt8) Int (fun (k_13 : (@List UInt8)) => (AV.str k_13)) (cInt IntKind.u8) y_76.2.2.1) none)) :: ((4, (AO.rows true (List.map disk_write.c y_76.2.2.2.2))) :: []))))) 5 ?_ (fun _ => ?_))
                    · conv => whnf
                      refine Or.inl ?_
                      conv => whnf
                      refine brn_i (fun hb => ?_) (fun hb => ?_)
                      · replace h11 := cond_t h11 hb
                        conv => whnf
                        obtain rfl := Option.some.inj h11
                        exact end_i trivial [(0, 0), (1, 47), (2, 135), (3, 2), (4, 136)] rfl rfl rfl
                      · replace h11 := cond_f h11 hb
                        conv => whnf
                        obtain rfl := Option.some.inj h11
                        exact end_i trivial [(0, 0), (1, 47), (2, 135), (3, 2), (4, 136)] rfl rfl rfl
                    · conv => whnf
                      refine Or.inl ?_
                      conv => whnf
                      obtain rfl := Option.some.inj k11
                      exact rfl
                  · replace k10 := elim_r k10
                    refine Or.inr (callG_i [0, 2, 112] (wal_Open_FC1 F y_75.2.2.2.2.1 y_75.2.2.2.2.2.1 y_75.2.2.2.2.2.2 y_76 hy) rfl rfl rfl rfl ?_)
                    conv => whnf
                    obtain ⟨t108_78, h12, k12⟩ := bind_e k10
                    refine Or.inr (joins_i True ((1, (AV.sl (List.map (cInt IntKind.u8) rec))) :: ((5, (AV.ptr 0 0 0)) :: ((8, (AV.sl (List.map (cSl (cInt IntKind.u8)) y_38.1))) :: ((13, (AV.str y_73)) :: ((14, (AV.osw 1 1)) :: ((16, (AV.int IntKind.i64 y_75.1)) :: ((18, (AV.sl (List.map (cSl (cInt IntKind.u8)) y_76.1))) :: ((108, (AV.bool t108_78)) :: [])))))))) ((0, (AO.rows false (((AV.mapo 2) :: ((AV.osw 3 2) :: ((AV.int IntKind.i64 y_76.2.2.1) :: []))) :: []))) :: ((1, (AO.rows true (List.map (cInt IntKind.u8) y_74.2))) :: ((2, (AO.fmap 1 (@encF (@List UInt8) Int (fun (k_13 : (@List UInt8)) => (AV.str k_13)) (cInt IntKind.u8) y_76.2.2.2.1) none)) :: ((3, (AO.rows true (List.map disk_write.c y_76.2.2.2.2.2.2.2))) :: [])))) 4 ?_ (fun _ => ?_))
                    · conv => whnf
                      refine Or.inl ?_
                      conv => whnf
                      refine brn_i (fun hb => ?_) (fun hb => ?_)
                      · replace h12 := cond_t h12 hb
                        conv => whnf
                        obtain rfl := Option.some.inj h12
                        exact end_i trivial [(0, 0), (1, 47), (2, 2), (3, 136)] rfl rfl rfl
                      · replace h12 := cond_f h12 hb
                        conv => whnf
                        obtain ⟨y_79, hy, h12⟩ := bind_e h12
                        refine Or.inr (callG_i [135, 0, 2, 136] (__wal_Wal__File_FC0 F y_76.2.2.2.2.1 y_76.2.2.2.2.2.1 y_76.2.2.2.2.2.2.1 y_76.2.2.1 y_76.2.2.2.1 y_76.2.2.2.2.2.2.2 y_79 hy) rfl rfl rfl rfl ?_)
                        conv => whnf
                        obtain rfl := Option.some.inj h12
                        exact end_i trivial [(0, 0), (1, 47), (2, 2), (3, 136)] rfl rfl rfl
                    · conv => whnf
                      refine Or.inl ?_
                      conv => whnf
                      refine brn_i (fun hb => ?_) (fun hb => ?_)
                      · replace k12 := cond_t k12 hb
                        conv => whnf
                        obtain rfl := Option.some.inj k12
                        exact rfl
                      · replace k12 := cond_f k12 hb
                        conv => whnf
                        obtain ⟨y_80, hy, k12⟩ := bind_e k12
                        rcases y_80 with y_80 | y_80
                        · replace k12 := elim_l k12
                          refine Or.inr (callG_i [0, 2, 3] (__disk_Disk__Read_FC0 F y_73 y_76.2.2.1 y_76.2.2.2.1 y_76.2.2.2.2.2.2.2 y_80 hy) rfl rfl rfl rfl ?_)
                          conv => whnf
                          refine Or.inl ?_
                          conv => whnf
                          refine brn_i (fun hb => ?_) (fun hb => ?_)
                          · replace k12 := cond_t k12 hb
                            conv => whnf
                            refine Or.inl ?_
                            conv => whnf
                            refine Or.inl ?_
                            conv => whnf
                            obtain ⟨y_81, hy, k12⟩ := bind_e k12
                            refine ⟨_, _, (matinsref10_Lists_FC F y_76.1 y_38.1 y_81 hy), Or.inl ⟨rfl, rfl, ?_⟩⟩
                            conv => whnf
                            refine brn_i (fun hb => ?_) (fun hb => ?_)
                            · replace k12 := cond_t k12 hb
                              conv => whnf
                              obtain ⟨hg, k12⟩ := bytes_e k12
                              refine ⟨_, bytes_eq2 (by first | (simp; done) | rfl | (rw [List.map_append]; rfl)) hg, ?_⟩
                              conv => whnf
                              obtain ⟨hg, k12⟩ := bytes_e k12
                              refine ⟨_, bytes_eq2 (by first | (simp; done) | rfl | (rw [List.map_append]; rfl)) hg, ?_⟩
                              conv => whnf
                              obtain rfl := Option.some.inj k12
                              exact rfl
                            · replace k12 := cond_f k12 hb
                              conv => whnf
                              obtain rfl := Option.some.inj k12
                              exact rfl
                          · replace k12 := cond_f k12 hb
                            conv => whnf
                            refine Or.inl ?_
                            conv => whnf
                            refine brn_i (fun hb => ?_) (fun hb => ?_)
                            · replace k12 := cond_t k12 (by first | exact hb | (simp; done) | simpa using hb | simpa [chunk] using hb | (simp [chunk] at hb ⊢; omega))
                              conv => whnf
                              refine And.intro trivial ?_
                              conv => whnf
                              refine And.intro (by omega) ?_
                              conv => whnf
                              obtain ⟨hg, k12⟩ := grd_e k12
                              refine And.intro (by first | exact hg | (simp; done) | simpa using hg | simpa [chunk] using hg | (simp [chunk] at hg ⊢; omega)) ?_
                              conv => whnf
                              obtain ⟨hg, k12⟩ := grd_e k12
                              refine And.intro (by first | exact hg | (simp; done) | simpa using hg | simpa [chunk] using hg | (simp [chunk] at hg ⊢; omega)) ?_
                              conv => whnf
                              refine Or.inl ?_
                              conv => whnf
                              obtain ⟨y_82, hy, k12⟩ := bind_e k12
                              refine ⟨_, _, (FC_arg2 (cons2 (congrArg AV.sl (by first | (simp; done) | rfl | (rw [List.map_append]; rfl) | (simp [outR]; done) | (simp only [outR, Sum.elim_inr, id, List.map_append, List.map_map]; rfl))) rfl) (matinsref10_Lists_FC F (List.take (Int.toNat (@Nat.cast Int instNatCastInt (List.length (List.map (cSl (cInt IntKind.u8)) y_38.1)))) y_76.1) y_38.1 y_82 hy)), Or.inl ⟨rfl, rfl, ?_⟩⟩
                              conv => whnf
                              refine brn_i (fun hb => ?_) (fun hb => ?_)
                              · replace k12 := cond_t k12 hb
                                conv => whnf
                                refine And.intro (by omega) ?_
                                conv => whnf
                                obtain ⟨y_83, hy, k12⟩ := bind_e k12
                                refine opt_i ((cSl (cInt IntKind.u8)) y_83) (getE rfl hy) ?_
                                conv => whnf
                                obtain ⟨hg, k12⟩ := bytes_e k12
                                refine ⟨_, bytes_eq2 (by first | (simp; done) | rfl | (rw [List.map_append]; rfl)) hg, ?_⟩
                                conv => whnf
                                obtain ⟨hg, k12⟩ := bytes_e k12
                                refine ⟨_, bytes_eq2 (by first | (simp; done) | rfl | (rw [List.map_append]; rfl)) hg, ?_⟩
                                conv => whnf
                                refine brn_i (fun hb => ?_) (fun hb => ?_)
                                · replace k12 := cond_t k12 hb
                                  conv => whnf
                                  refine brn_i (fun hb => ?_) (fun hb => ?_)
                                  · replace k12 := cond_t k12 (by first | exact hb | (simp; done) | simpa using hb | simpa [chunk] using hb | (simp [chunk] at hb ⊢; omega))
                                    conv => whnf
                                    refine And.intro (LenAll.map (fun _ => rfl)) ?_
                                    conv => whnf
                                    refine Or.inr ?_
                                    conv => whnf
                                    refine ⟨_, _, rfl, rfl, rfl, rfl, ?_⟩
                                    conv => whnf
                                    refine And.intro (by omega) ?_
                                    conv => whnf
                                    obtain ⟨hg, k12⟩ := grd_e k12
                                    refine And.intro (by first | exact hg | (simp; done) | simpa using hg | simpa [chunk] using hg | (simp [chunk] at hg ⊢; omega)) ?_
                                    conv => whnf
                                    obtain ⟨hg, k12⟩ := bytes_e k12
                                    refine ⟨_, bytes_eq2 (by first | (simp; done) | rfl | (rw [List.map_append]; rfl)) hg, ?_⟩
                                    conv => whnf
                                    obtain ⟨hg, k12⟩ := bytes_e k12
                                    refine ⟨_, bytes_eq2 (by first | (simp; done) | rfl | (rw [List.map_append]; rfl)) hg, ?_⟩
                                    conv => whnf
                                    refine And.intro (by kernel_rfl) ?_
                                    conv => whnf
                                    obtain rfl := Option.some.inj k12
                                    exact by first | (simp; done) | rfl
                                  · replace k12 := cond_f k12 (by first | exact hb | (simp; done) | simpa using hb | simpa [chunk] using hb | (simp [chunk] at hb ⊢; omega))
                                    conv => whnf
                                    refine And.intro (by kernel_rfl) ?_
                                    conv => whnf
                                    obtain rfl := Option.some.inj k12
                                    exact rfl
                                · replace k12 := cond_f k12 hb
                                  conv => whnf
                                  refine And.intro (by kernel_rfl) ?_
                                  conv => whnf
                                  obtain rfl := Option.some.inj k12
                                  exact rfl
                              · replace k12 := cond_f k12 hb
                                conv => whnf
                                refine And.intro (by kernel_rfl) ?_
                                conv => whnf
                                obtain rfl := Option.some.inj k12
                                exact rfl
                            · replace k12 := cond_f k12 (by first | exact hb | (simp; done) | simpa using hb | simpa [chunk] using hb | (simp [chunk] at hb ⊢; omega))
                              conv => whnf
                              refine And.intro (by kernel_rfl) ?_
                              conv => whnf
                              obtain rfl := Option.some.inj k12
                              exact rfl
                        · replace k12 := elim_r k12
                          refine Or.inr (callG_i [0, 2, 3] (__disk_Disk__Read_FC1 F y_73 y_76.2.2.1 y_76.2.2.2.1 y_76.2.2.2.2.2.2.2 y_80 hy) rfl rfl rfl rfl ?_)
                          conv => whnf
                          refine Or.inl ?_
                          conv => whnf
                          refine brn_i (fun hb => ?_) (fun hb => ?_)
                          · replace k12 := cond_t k12 hb
                            conv => whnf
                            refine Or.inl ?_
                            conv => whnf
                            refine Or.inl ?_
                            conv => whnf
                            obtain ⟨y_84, hy, k12⟩ := bind_e k12
                            refine ⟨_, _, (matinsref10_Lists_FC F y_76.1 y_38.1 y_84 hy), Or.inl ⟨rfl, rfl, ?_⟩⟩
                            conv => whnf
                            refine brn_i (fun hb => ?_) (fun hb => ?_)
                            · replace k12 := cond_t k12 hb
                              conv => whnf
                              obtain ⟨hg, k12⟩ := bytes_e k12
                              refine ⟨_, bytes_eq2 (by first | (simp; done) | rfl | (rw [List.map_append]; rfl)) hg, ?_⟩
                              conv => whnf
                              obtain ⟨hg, k12⟩ := bytes_e k12
                              refine ⟨_, bytes_eq2 (by first | (simp; done) | rfl | (rw [List.map_append]; rfl)) hg, ?_⟩
                              conv => whnf
                              obtain rfl := Option.some.inj k12
                              exact rfl
                            · replace k12 := cond_f k12 hb
                              conv => whnf
                              obtain rfl := Option.some.inj k12
                              exact rfl
                          · replace k12 := cond_f k12 hb
                            conv => whnf
                            refine Or.inl ?_
                            conv => whnf
                            refine brn_i (fun hb => ?_) (fun hb => ?_)
                            · replace k12 := cond_t k12 (by first | exact hb | (simp; done) | simpa using hb | simpa [chunk] using hb | (simp [chunk] at hb ⊢; omega))
                              conv => whnf
                              refine And.intro trivial ?_
                              conv => whnf
                              refine And.intro (by omega) ?_
                              conv => whnf
                              obtain ⟨hg, k12⟩ := grd_e k12
                              refine And.intro (by first | exact hg | (simp; done) | simpa using hg | simpa [chunk] using hg | (simp [chunk] at hg ⊢; omega)) ?_
                              conv => whnf
                              obtain ⟨hg, k12⟩ := grd_e k12
                              refine And.intro (by first | exact hg | (simp; done) | simpa using hg | simpa [chunk] using hg | (simp [chunk] at hg ⊢; omega)) ?_
                              conv => whnf
                              refine Or.inl ?_
                              conv => whnf
                              obtain ⟨y_85, hy, k12⟩ := bind_e k12
                              refine ⟨_, _, (FC_arg2 (cons2 (congrArg AV.sl (by first | (simp; done) | rfl | (rw [List.map_append]; rfl) | (simp [outR]; done) | (simp only [outR, Sum.elim_inr, id, List.map_append, List.map_map]; rfl))) rfl) (matinsref10_Lists_FC F (List.take (Int.toNat (@Nat.cast Int instNatCastInt (List.length (List.map (cSl (cInt IntKind.u8)) y_38.1)))) y_76.1) y_38.1 y_85 hy)), Or.inl ⟨rfl, rfl, ?_⟩⟩
                              conv => whnf
                              refine brn_i (fun hb => ?_) (fun hb => ?_)
                              · replace k12 := cond_t k12 hb
                                conv => whnf
                                refine And.intro (by omega) ?_
                                conv => whnf
                                obtain ⟨y_86, hy, k12⟩ := bind_e k12
                                refine opt_i ((cSl (cInt IntKind.u8)) y_86) (getE rfl hy) ?_
                                conv => whnf
                                obtain ⟨hg, k12⟩ := bytes_e k12
                                refine ⟨_, bytes_eq2 (by first | (simp; done) | rfl | (rw [List.map_append]; rfl)) hg, ?_⟩
                                conv => whnf
                                obtain ⟨hg, k12⟩ := bytes_e k12
                                refine ⟨_, bytes_eq2 (by first | (simp; done) | rfl | (rw [List.map_append]; rfl)) hg, ?_⟩
                                conv => whnf
                                refine brn_i (fun hb => ?_) (fun hb => ?_)
                                · replace k12 := cond_t k12 hb
                                  conv => whnf
                                  refine brn_i (fun hb => ?_) (fun hb => ?_)
                                  · replace k12 := cond_t k12 (by first | exact hb | (simp; done) | simpa using hb | simpa [chunk] using hb | (simp [chunk] at hb ⊢; omega))
                                    conv => whnf
                                    refine And.intro trivial ?_
                                    conv => whnf
                                    refine And.intro (by omega) ?_
                                    conv => whnf
                                    obtain ⟨hg, k12⟩ := grd_e k12
                                    refine And.intro (by first | exact hg | (simp; done) | simpa using hg | simpa [chunk] using hg | (simp [chunk] at hg ⊢; omega)) ?_
                                    conv => whnf
                                    obtain ⟨hg, k12⟩ := grd_e k12
                                    refine And.intro (by first | exact hg | (simp; done) | simpa using hg | simpa [chunk] using hg | (simp [chunk] at hg ⊢; omega)) ?_
                                    conv => whnf
                                    obtain ⟨hg, k12⟩ := bytes_e k12
                                    refine ⟨_, bytes_eq2 (by first | (simp; done) | rfl | (rw [List.map_append]; rfl)) hg, ?_⟩
                                    conv => whnf
                                    obtain ⟨hg, k12⟩ := bytes_e k12
                                    refine ⟨_, bytes_eq2 (by first | (simp; done) | rfl | (rw [List.map_append]; rfl)) hg, ?_⟩
                                    conv => whnf
                                    refine And.intro (by kernel_rfl) ?_
                                    conv => whnf
                                    obtain rfl := Option.some.inj k12
                                    exact by first | (simp; done) | rfl
                                  · replace k12 := cond_f k12 (by first | exact hb | (simp; done) | simpa using hb | simpa [chunk] using hb | (simp [chunk] at hb ⊢; omega))
                                    conv => whnf
                                    refine And.intro (by kernel_rfl) ?_
                                    conv => whnf
                                    obtain rfl := Option.some.inj k12
                                    exact rfl
                                · replace k12 := cond_f k12 hb
                                  conv => whnf
                                  refine And.intro (by kernel_rfl) ?_
                                  conv => whnf
                                  obtain rfl := Option.some.inj k12
                                  exact rfl
                              · replace k12 := cond_f k12 hb
                                conv => whnf
                                refine And.intro (by kernel_rfl) ?_
                                conv => whnf
                                obtain rfl := Option.some.inj k12
                                exact rfl
                            · replace k12 := cond_f k12 (by first | exact hb | (simp; done) | simpa using hb | simpa [chunk] using hb | (simp [chunk] at hb ⊢; omega))
                              conv => whnf
                              refine And.intro (by kernel_rfl) ?_
                              conv => whnf
                              obtain rfl := Option.some.inj k12
                              exact rfl
                · replace k10 := elim_r k10
                  refine Or.inr (callG_i [0, 2, 3] (__disk_Disk__Read_FC1 F y_73 y_69.2.2.1 y_69.2.2.2.1 y_69.2.2.2.2.2.2.2 y_74 hy) rfl rfl rfl rfl ?_)
                  conv => whnf
                  obtain ⟨y_87, hy, k10⟩ := bind_e k10
                  refine Or.inr (callG_i [1, 0, 2, 3] (__wal_Wal__Append_i1_FC0 F rec y_69.2.2.2.2.1 y_69.2.2.2.2.2.1 y_69.2.2.2.2.2.2.1 y_69.2.2.1 y_69.2.2.2.1 y_69.2.2.2.2.2.2.2 y_87 hy) rfl rfl rfl rfl ?_)
                  conv => whnf
                  obtain ⟨y_88, hy, k10⟩ := bind_e k10
                  rcases y_88 with y_88 | y_88
                  · replace k10 := elim_l k10
                    refine Or.inr (callG_i [0, 2, 112] (wal_Open_FC0 F y_87.2.2.2.2.1 y_87.2.2.2.2.2.1 y_87.2.2.2.2.2.2 y_88 hy) rfl rfl rfl rfl ?_)
                    conv => whnf
                    obtain ⟨o13, h13, k13⟩ := bind_e k10
                    refine Or.inr (joins_i True ((1, (AV.sl (List.map (cInt IntKind.u8) rec))) :: ((5, (AV.ptr 0 0 0)) :: ((8, (AV.sl (List.map (cSl (cInt IntKind.u8)) y_38.1))) :: ((13, (AV.str y_73)) :: ((14, (AV.sl (List.map (cInt IntKind.u8) y_74.1))) :: ((16, (AV.int IntKind.i64 y_87.1)) :: ((18, (AV.osw 1 1)) :: ((108, (AV.bool true)) :: [])))))))) ((0, (AO.rows false (((AV.mapo 2) :: ((AV.osw 3 2) :: ((AV.int IntKind.i64 y_88.2.1) :: []))) :: []))) :: ((1, (AO.rows true (List.map (cSl (cInt IntKind.u8)) y_88.2.2.2.1))) :: ((2, (AO.fmap 1 (@encF (@List UInt8) Int (fun (k_13 : (@List UInt8)) => (AV.str k_13)) (cInt IntKind.u8) y_88.2.2.1) none)) :: ((3, (AO.rows true (List.map disk_write.c y_88.2.2.2.2))) :: [])))) 4 ?_ (fun _ => ?_))
                    · conv => whnf
                      refine Or.inl ?_
                      conv => whnf
                      refine brn_i (fun hb => ?_) (fun hb => ?_)
                      · replace h13 := cond_t h13 hb
                        conv => whnf
                        obtain rfl := Option.some.inj h13
                        exact end_i trivial [(0, 0), (1, 135), (2, 2), (3, 136)] rfl rfl rfl
                      · replace h13 := cond_f h13 hb
                        conv => whnf
                        obtain rfl := Option.some.inj h13
                        exact end_i trivial [(0, 0), (1, 135), (2, 2), (3, 136)] rfl rfl rfl
                    · conv => whnf
                      refine Or.inl ?_
                      conv => whnf
                      obtain rfl := Option.some.inj k13
                      exact rfl
                  · replace k10 := elim_r k10
                    refine Or.inr (callG_i [0, 2, 112] (wal_Open_FC1 F y_87.2.2.2.2.1 y_87.2.2.2.2.2.1 y_87.2.2.2.2.2.2 y_88 hy) rfl rfl rfl rfl ?_)
                    conv => whnf
                    obtain ⟨t108_90, h14, k14⟩ := bind_e k10
                    refine Or.inr (joins_i True ((1, (AV.sl (List.map (cInt IntKind.u8) rec))) :: ((5, (AV.ptr 0 0 0)) :: ((8, (AV.sl (List.map (cSl (cInt IntKind.u8)) y_38.1))) :: ((13, (AV.str y_73)) :: ((14, (AV.sl (List.map (cInt IntKind.u8) y_74.1))) :: ((16, (AV.int IntKind.i64 y_87.1)) :: ((18, (AV.sl (List.map (cSl (cInt IntKind.u8)) y_88.1))) :: ((108, (AV.bool t108_90)) :: [])))))))) ((0, (AO.rows false (((AV.mapo 1) :: ((AV.osw 2 2) :: ((AV.int IntKind.i64 y_88.2.2.1) :: []))) :: []))) :: ((1, (AO.fmap 1 (@encF (@List UInt8) Int (fun (k_13 : (@List UInt8)) => (AV.str k_13)) (cInt IntKind.u8) y_88.2.2.2.1) none)) :: ((2, (AO.rows true (List.map disk_write.c y_88.2.2.2.2.2.2.2))) :: []))) 3 ?_ (fun _ => ?_))
                    · conv => whnf
                      refine Or.inl ?_
                      conv => whnf
                      refine brn_i (fun hb => ?_) (fun hb => ?_)
                      · replace h14 := cond_t h14 hb
                        conv => whnf
                        obtain rfl := Option.some.inj h14
                        exact end_i trivial [(0, 0), (1, 2), (2, 136)] rfl rfl rfl
                      · replace h14 := cond_f h14 hb
                        conv => whnf
                        obtain ⟨y_91, hy, h14⟩ := bind_e h14
                        refine Or.inr (callG_i [135, 0, 2, 136] (__wal_Wal__File_FC0 F y_88.2.2.2.2.1 y_88.2.2.2.2.2.1 y_88.2.2.2.2.2.2.1 y_88.2.2.1 y_88.2.2.2.1 y_88.2.2.2.2.2.2.2 y_91 hy) rfl rfl rfl rfl ?_)
                        conv => whnf
                        obtain rfl := Option.some.inj h14
                        exact end_i trivial [(0, 0), (1, 2), (2, 136)] rfl rfl rfl
                    · conv => whnf
                      refine Or.inl ?_
                      conv => whnf
                      refine brn_i (fun hb => ?_) (fun hb => ?_)
                      · replace k14 := cond_t k14 hb
                        conv => whnf
                        obtain rfl := Option.some.inj k14
                        exact rfl
                      · replace k14 := cond_f k14 hb
                        conv => whnf
                        obtain ⟨y_92, hy, k14⟩ := bind_e k14
                        rcases y_92 with y_92 | y_92
                        · replace k14 := elim_l k14
                          refine Or.inr (callG_i [0, 1, 2] (__disk_Disk__Read_FC0 F y_73 y_88.2.2.1 y_88.2.2.2.1 y_88.2.2.2.2.2.2.2 y_92 hy) rfl rfl rfl rfl ?_)
                          conv => whnf
                          refine Or.inl ?_
                          conv => whnf
                          refine brn_i (fun hb => ?_) (fun hb => ?_)
                          · replace k14 := cond_t k14 hb
                            conv => whnf
                            refine Or.inl ?_
                            conv => whnf
                            refine Or.inl ?_
                            conv => whnf
                            obtain ⟨y_93, hy, k14⟩ := bind_e k14
                            refine ⟨_, _, (matinsref10_Lists_FC F y_88.1 y_38.1 y_93 hy), Or.inl ⟨rfl, rfl, ?_⟩⟩
                            conv => whnf
                            refine brn_i (fun hb => ?_) (fun hb => ?_)
                            · replace k14 := cond_t k14 hb
                              conv => whnf
                              obtain ⟨hg, k14⟩ := bytes_e k14
                              refine ⟨_, bytes_eq2 (by first | (simp; done) | rfl | (rw [List.map_append]; rfl)) hg, ?_⟩
                              conv => whnf
                              obtain ⟨hg, k14⟩ := bytes_e k14
                              refine ⟨_, bytes_eq2 (by first | (simp; done) | rfl | (rw [List.map_append]; rfl)) hg, ?_⟩
                              conv => whnf
                              obtain rfl := Option.some.inj k14
                              exact rfl
                            · replace k14 := cond_f k14 hb
                              conv => whnf
                              obtain rfl := Option.some.inj k14
                              exact rfl
                          · replace k14 := cond_f k14 hb
                            conv => whnf
                            refine Or.inl ?_
                            conv => whnf
                            refine brn_i (fun hb => ?_) (fun hb => ?_)
                            · replace k14 := cond_t k14 (by first | exact hb | (simp; done) | simpa using hb | simpa [chunk] using hb | (simp [chunk] at hb ⊢; omega))
                              conv => whnf
                              refine And.intro trivial ?_
                              conv => whnf
                              refine And.intro (by omega) ?_
                              conv => whnf
                              obtain ⟨hg, k14⟩ := grd_e k14
                              refine And.intro (by first | exact hg | (simp; done) | simpa using hg | simpa [chunk] using hg | (simp [chunk] at hg ⊢; omega)) ?_
                              conv => whnf
                              obtain ⟨hg, k14⟩ := grd_e k14
                              refine And.intro (by first | exact hg | (simp; done) | simpa using hg | simpa [chunk] using hg | (simp [chunk] at hg ⊢; omega)) ?_
                              conv => whnf
                              refine Or.inl ?_
                              conv => whnf
                              obtain ⟨y_94, hy, k14⟩ := bind_e k14
                              refine ⟨_, _, (FC_arg2 (cons2 (congrArg AV.sl (by first | (simp; done) | rfl | (rw [List.map_append]; rfl) | (simp [outR]; done) | (simp only [outR, Sum.elim_inr, id, List.map_append, List.map_map]; rfl))) rfl) (matinsref10_Lists_FC F (List.take (Int.toNat (@Nat.cast Int instNatCastInt (List.length (List.map (cSl (cInt IntKind.u8)) y_38.1)))) y_88.1) y_38.1 y_94 hy)), Or.inl ⟨rfl, rfl, ?_⟩⟩
                              conv => whnf
                              refine brn_i (fun hb => ?_) (fun hb => ?_)
                              · replace k14 := cond_t k14 hb
                                conv => whnf
                                refine And.intro (by omega) ?_
                                conv => whnf
                                obtain ⟨y_95, hy, k14⟩ := bind_e k14
                                refine opt_i ((cSl (cInt IntKind.u8)) y_95) (getE rfl hy) ?_
                                conv => whnf
                                obtain ⟨hg, k14⟩ := bytes_e k14
                                refine ⟨_, bytes_eq2 (by first | (simp; done) | rfl | (rw [List.map_append]; rfl)) hg, ?_⟩
                                conv => whnf
                                obtain ⟨hg, k14⟩ := bytes_e k14
                                refine ⟨_, bytes_eq2 (by first | (simp; done) | rfl | (rw [List.map_append]; rfl)) hg, ?_⟩
                                conv => whnf
                                refine brn_i (fun hb => ?_) (fun hb => ?_)
                                · replace k14 := cond_t k14 hb
                                  conv => whnf
                                  refine brn_i (fun hb => ?_) (fun hb => ?_)
                                  · replace k14 := cond_t k14 (by first | exact hb | (simp; done) | simpa using hb | simpa [chunk] using hb | (simp [chunk] at hb ⊢; omega))
                                    conv => whnf
                                    refine And.intro (LenAll.map (fun _ => rfl)) ?_
                                    conv => whnf
                                    refine Or.inr ?_
                                    conv => whnf
                                    refine ⟨_, _, rfl, rfl, rfl, rfl, ?_⟩
                                    conv => whnf
                                    refine And.intro (by omega) ?_
                                    conv => whnf
                                    obtain ⟨hg, k14⟩ := grd_e k14
                                    refine And.intro (by first | exact hg | (simp; done) | simpa using hg | simpa [chunk] using hg | (simp [chunk] at hg ⊢; omega)) ?_
                                    conv => whnf
                                    obtain ⟨hg, k14⟩ := bytes_e k14
                                    refine ⟨_, bytes_eq2 (by first | (simp; done) | rfl | (rw [List.map_append]; rfl)) hg, ?_⟩
                                    conv => whnf
                                    obtain ⟨hg, k14⟩ := bytes_e k14
                                    refine ⟨_, bytes_eq2 (by first | (simp; done) | rfl | (rw [List.map_append]; rfl)) hg, ?_⟩
                                    conv => whnf
                                    refine And.intro (by kernel_rfl) ?_
                                    conv => whnf
                                    obtain rfl := Option.some.inj k14
                                    exact by first | (simp; done) | rfl
                                  · replace k14 := cond_f k14 (by first | exact hb | (simp; done) | simpa using hb | simpa [chunk] using hb | (simp [chunk] at hb ⊢; omega))
                                    conv => whnf
                                    refine And.intro (by kernel_rfl) ?_
                                    conv => whnf
                                    obtain rfl := Option.some.inj k14
                                    exact rfl
                                · replace k14 := cond_f k14 hb
                                  conv => whnf
                                  refine And.intro (by kernel_rfl) ?_
                                  conv => whnf
                                  obtain rfl := Option.some.inj k14
                                  exact rfl
                              · replace k14 := cond_f k14 hb
                                conv => whnf
                                refine And.intro (by kernel_rfl) ?_
                                conv => whnf
                                obtain rfl := Option.some.inj k14
                                exact rfl
                            · replace k14 := cond_f k14 (by first | exact hb | (simp; done) | simpa using hb | simpa [chunk] using hb | (simp [chunk] at hb ⊢; omega))
                              conv => whnf
                              refine And.intro (by kernel_rfl) ?_
                              conv => whnf
                              obtain rfl := Option.some.inj k14
                              exact rfl
                        · replace k14 := elim_r k14
                          refine Or.inr (callG_i [0, 1, 2] (__disk_Disk__Read_FC1 F y_73 y_88.2.2.1 y_88.2.2.2.1 y_88.2.2.2.2.2.2.2 y_92 hy) rfl rfl rfl rfl ?_)
                          conv => whnf
                          refine Or.inl ?_
                          conv => whnf
                          refine brn_i (fun hb => ?_) (fun hb => ?_)
                          · replace k14 := cond_t k14 hb
                            conv => whnf
                            refine Or.inl ?_
                            conv => whnf
                            refine Or.inl ?_
                            conv => whnf
                            obtain ⟨y_96, hy, k14⟩ := bind_e k14
                            refine ⟨_, _, (matinsref10_Lists_FC F y_88.1 y_38.1 y_96 hy), Or.inl ⟨rfl, rfl, ?_⟩⟩
                            conv => whnf
                            refine brn_i (fun hb => ?_) (fun hb => ?_)
                            · replace k14 := cond_t k14 hb
                              conv => whnf
                              obtain ⟨hg, k14⟩ := bytes_e k14
                              refine ⟨_, bytes_eq2 (by first | (simp; done) | rfl | (rw [List.map_append]; rfl)) hg, ?_⟩
                              conv => whnf
                              obtain ⟨hg, k14⟩ := bytes_e k14
                              refine ⟨_, bytes_eq2 (by first | (simp; done) | rfl | (rw [List.map_append]; rfl)) hg, ?_⟩
                              conv => whnf
                              obtain rfl := Option.some.inj k14
                              exact rfl
                            · replace k14 := cond_f k14 hb
                              conv => whnf
                              obtain rfl := Option.some.inj k14
                              exact rfl
                          · replace k14 := cond_f k14 hb
                            conv => whnf
                            refine Or.inl ?_
                            conv => whnf
                            refine brn_i (fun hb => ?_) (fun hb => ?_)
                            · replace k14 := cond_t k14 (by first | exact hb | (simp; done) | simpa using hb | simpa [chunk] using hb | (simp [chunk] at hb ⊢; omega))
                              conv => whnf
                              refine And.intro trivial ?_
                              conv => whnf
                              refine And.intro (by omega) ?_
                              conv => whnf
                              obtain ⟨hg, k14⟩ := grd_e k14
                              refine And.intro (by first | exact hg | (simp; done) | simpa using hg | simpa [chunk] using hg | (simp [chunk] at hg ⊢; omega)) ?_
                              conv => whnf
                              obtain ⟨hg, k14⟩ := grd_e k14
                              refine And.intro (by first | exact hg | (simp; done) | simpa using hg | simpa [chunk] using hg | (simp [chunk] at hg ⊢; omega)) ?_
                              conv => whnf
                              refine Or.inl ?_
                              conv => whnf
                              obtain ⟨y_97, hy, k14⟩ := bind_e k14
                              refine ⟨_, _, (FC_arg2 (cons2 (congrArg AV.sl (by first | (simp; done) | rfl | (rw [List.map_append]; rfl) | (simp [outR]; done) | (simp only [outR, Sum.elim_inr, id, List.map_append, List.map_map]; rfl))) rfl) (matinsref10_Lists_FC F (List.take (Int.toNat (@Nat.cast Int instNatCastInt (List.length (List.map (cSl (cInt IntKind.u8)) y_38.1)))) y_88.1) y_38.1 y_97 hy)), Or.inl ⟨rfl, rfl, ?_⟩⟩
                              conv => whnf
                              refine brn_i (fun hb => ?_) (fun hb => ?_)
                              · replace k14 := cond_t k14 hb
                                conv => whnf
                                refine And.intro (by omega) ?_
                                conv => whnf
                                obtain ⟨y_98, hy, k14⟩ := bind_e k14
                                refine opt_i ((cSl (cInt IntKind.u8)) y_98) (getE rfl hy) ?_
                                conv => whnf
                                obtain ⟨hg, k14⟩ := bytes_e k14
                                refine ⟨_, bytes_eq2 (by first | (simp; done) | rfl | (rw [List.map_append]; rfl)) hg, ?_⟩
                                conv => whnf
                                obtain ⟨hg, k14⟩ := bytes_e k14
                                refine ⟨_, bytes_eq2 (by first | (simp; done) | rfl | (rw [List.map_append]; rfl)) hg, ?_⟩
                                conv => whnf
                                refine brn_i (fun hb => ?_) (fun hb => ?_)
                                · replace k14 := cond_t k14 hb
                                  conv => whnf
                                  refine brn_i (fun hb => ?_) (fun hb => ?_)
                                  · replace k14 := cond_t k14 (by first | exact hb | (simp; done) | simpa using hb | simpa [chunk] using hb | (simp [chunk] at hb ⊢; omega))
                                    conv => whnf
                                    refine And.intro trivial ?_
                                    conv => whnf
                                    refine And.intro (by omega) ?_
                                    conv => whnf
                                    obtain ⟨hg, k14⟩ := grd_e k14
                                    refine And.intro (by first | exact hg | (simp; done) | simpa using hg | simpa [chunk] using hg | (simp [chunk] at hg ⊢; omega)) ?_
                                    conv => whnf
                                    obtain ⟨hg, k14⟩ := grd_e k14
                                    refine And.intro (by first | exact hg | (simp; done) | simpa using hg | simpa [chunk] using hg | (simp [chunk] at hg ⊢; omega)) ?_
                                    conv => whnf
                                    obtain ⟨hg, k14⟩ := bytes_e k14
                                    refine ⟨_, bytes_eq2 (by first | (simp; done) | rfl | (rw [List.map_append]; rfl)) hg, ?_⟩
                                    conv => whnf
                                    obtain ⟨hg, k14⟩ := bytes_e k14
                                    refine ⟨_, bytes_eq2 (by first | (simp; done) | rfl | (rw [List.map_append]; rfl)) hg, ?_⟩
                                    conv => whnf
                                    refine And.intro (by kernel_rfl) ?_
                                    conv => whnf
                                    obtain rfl := Option.some.inj k14
                                    exact by first | (simp; done) | rfl
                                  · replace k14 := cond_f k14 (by first | exact hb | (simp; done) | simpa using hb | simpa [chunk] using hb | (simp [chunk] at hb ⊢; omega))
                                    conv => whnf
                                    refine And.intro (by kernel_rfl) ?_
                                    conv => whnf
                                    obtain rfl := Option.some.inj k14
                                    exact rfl
                                · replace k14 := cond_f k14 hb
                                  conv => whnf
                                  refine And.intro (by kernel_rfl) ?_
                                  conv => whnf
                                  obtain rfl := Option.some.inj k14
                                  exact rfl
                              · replace k14 := cond_f k14 hb
                                conv => whnf
                                refine And.intro (by kernel_rfl) ?_
                                conv => whnf
                                obtain rfl := Option.some.inj k14
                                exact rfl
                            · replace k14 := cond_f k14 (by first | exact hb | (simp; done) | simpa using hb | simpa [chunk] using hb | (simp [chunk] at hb ⊢; omega))
                              conv => whnf
                              refine And.intro (by kernel_rfl) ?_
                              conv => whnf
                              obtain rfl := Option.some.inj k14
                              exact rfl

theorem matinslaw10_WalLays_FC {ml : Gv} (F : Nat) (script : (List matinslaw10_Do)) (recs : (List (List Int))) (keep : Int) (torn : Int) (r : Bool) (h : matinslaw10_WalLays F script recs keep torn = some r) : FC Tryz.prog (GM ml) 5 [] [(AV.sl (List.map matinslaw10_Do.c script)), (AV.sl (List.map (cSl (cInt IntKind.u8)) recs)), (AV.int IntKind.i64 keep), (AV.int IntKind.i64 torn)] (.bool r) [] := by
  refine FC_of 2000 Tryz.func5 rfl (by kernel_rfl) mixed (by show 4 ≤ 111; decide) ?_
  unfold matinslaw10_WalLays at h
  conv => whnf
  refine Or.inl ?_
  conv => whnf
  obtain ⟨y_0, hy, h⟩ := bind_e h
  refine ⟨_, _, (matinslaw10_awake_FC F y_0 hy), Or.inl ⟨rfl, rfl, ?_⟩⟩
  conv => whnf
  refine Or.inl ?_
  conv => whnf
  refine brn_i (fun hb => ?_) (fun hb => ?_)
  · replace h := cond_t h hb
    conv => whnf
    obtain rfl := Option.some.inj h
    exact rfl
  · replace h := cond_f h hb
    conv => whnf
    refine Or.inl ?_
    conv => whnf
    obtain ⟨y_1, hy, h⟩ := bind_e h
    refine ⟨_, _, (disk_New_FC0 F y_1 hy), Or.inr ⟨[], rfl, ?_⟩⟩
    conv => whnf
    obtain ⟨y_2, hy, h⟩ := bind_e h
    rcases y_2 with y_2 | y_2
    · replace h := elim_l h
      refine Or.inr (callG_i [32, 33, 34] (wal_Open_FC0 F y_1.1 y_1.2 [] y_2 hy) rfl rfl (cons2 rfl (cons2 rfl (cons2 (congrArg (fun X => some (AO.rows true X)) (by first | (simp; done) | rfl | (rw [List.map_append]; rfl) | (simp [outR]; done) | (simp only [outR, Sum.elim_inr, id, List.map_append, List.map_map]; rfl))) rfl))) rfl ?_)
      conv => whnf
      obtain ⟨o0, h0, k0⟩ := bind_e h
      refine Or.inr (joins_i True ((0, (AV.sl (List.map matinslaw10_Do.c script))) :: ((1, (AV.sl (List.map (cSl (cInt IntKind.u8)) recs))) :: ((2, (AV.int IntKind.i64 keep)) :: ((3, (AV.int IntKind.i64 torn)) :: ((9, (AV.ptr 0 0 0)) :: ((10, (AV.con (Value.pointer none))) :: ((38, (AV.bool true)) :: []))))))) ((0, (AO.rows false (((AV.mapo 1) :: ((AV.osw 2 2) :: ((AV.int IntKind.i64 y_2.2.1) :: []))) :: []))) :: ((1, (AO.fmap 1 (@encF (@List UInt8) Int (fun (k_13 : (@List UInt8)) => (AV.str k_13)) (cInt IntKind.u8) y_2.2.2.1) none)) :: ((2, (AO.rows true (List.map disk_write.c y_2.2.2.2.2))) :: []))) 3 ?_ (fun _ => ?_))
      · conv => whnf
        refine Or.inl ?_
        conv => whnf
        refine brn_i (fun hb => ?_) (fun hb => ?_)
        · replace h0 := cond_t h0 hb
          conv => whnf
          obtain rfl := Option.some.inj h0
          exact end_i trivial [(0, 32), (1, 33), (2, 60)] rfl rfl rfl
        · replace h0 := cond_f h0 hb
          conv => whnf
          obtain rfl := Option.some.inj h0
          exact end_i trivial [(0, 32), (1, 33), (2, 60)] rfl rfl rfl
      · conv => whnf
        refine Or.inl ?_
        conv => whnf
        obtain rfl := Option.some.inj k0
        exact rfl
    · replace h := elim_r h
      refine Or.inr (callG_i [32, 33, 34] (wal_Open_FC1 F y_1.1 y_1.2 [] y_2 hy) rfl rfl (cons2 rfl (cons2 rfl (cons2 (congrArg (fun X => some (AO.rows true X)) (by first | (simp; done) | rfl | (rw [List.map_append]; rfl) | (simp [outR]; done) | (simp only [outR, Sum.elim_inr, id, List.map_append, List.map_map]; rfl))) rfl))) rfl ?_)
      conv => whnf
      obtain ⟨t38_3, h1, k1⟩ := bind_e h
      refine Or.inr (joins_i True ((0, (AV.sl (List.map matinslaw10_Do.c script))) :: ((1, (AV.sl (List.map (cSl (cInt IntKind.u8)) recs))) :: ((2, (AV.int IntKind.i64 keep)) :: ((3, (AV.int IntKind.i64 torn)) :: ((9, (AV.ptr 0 0 0)) :: ((10, (AV.ptr 1 0 0)) :: ((38, (AV.bool t38_3)) :: []))))))) ((0, (AO.rows false (((AV.mapo 2) :: ((AV.osw 3 2) :: ((AV.int IntKind.i64 y_2.2.2.1) :: []))) :: []))) :: ((1, (AO.rows false (((AV.ptr 0 0 0) :: ((AV.str y_2.2.2.2.2.1) :: ((AV.int IntKind.i64 y_2.2.2.2.2.2.1) :: ((AV.int IntKind.i64 y_2.2.2.2.2.2.2.1) :: [])))) :: []))) :: ((2, (AO.fmap 1 (@encF (@List UInt8) Int (fun (k_14 : (@List UInt8)) => (AV.str k_14)) (cInt IntKind.u8) y_2.2.2.2.1) none)) :: ((3, (AO.rows true (List.map disk_write.c y_2.2.2.2.2.2.2.2))) :: [])))) 4 ?_ (fun _ => ?_))
      · conv => whnf
        refine Or.inl ?_
        conv => whnf
        refine brn_i (fun hb => ?_) (fun hb => ?_)
        · replace h1 := cond_t h1 hb
          conv => whnf
          obtain rfl := Option.some.inj h1
          exact end_i trivial [(0, 32), (1, 59), (2, 33), (3, 60)] rfl rfl rfl
        · replace h1 := cond_f h1 hb
          conv => whnf
          obtain rfl := Option.some.inj h1
          exact end_i trivial [(0, 32), (1, 59), (2, 33), (3, 60)] rfl rfl rfl
      · conv => whnf
        refine Or.inl ?_
        conv => whnf
        refine brn_i (fun hb => ?_) (fun hb => ?_)
        · replace k1 := cond_t k1 hb
          conv => whnf
          obtain rfl := Option.some.inj k1
          exact rfl
        · replace k1 := cond_f k1 hb
          conv => whnf
          obtain ⟨o6, h6, k6⟩ := bind_e k1
          refine Or.inr (joins_i True ((1, (AV.sl (List.map (cSl (cInt IntKind.u8)) recs))) :: ((2, (AV.int IntKind.i64 keep)) :: ((3, (AV.int IntKind.i64 torn)) :: ((9, (AV.ptr 0 0 0)) :: ((10, (AV.ptr 1 0 0)) :: []))))) ((0, (AO.rows false (((AV.mapo 2) :: ((AV.osw 3 2) :: ((AV.int IntKind.i64 o6.1) :: []))) :: []))) :: ((1, (AO.rows false (((AV.ptr 0 0 0) :: ((AV.str o6.2.1) :: ((AV.int IntKind.i64 o6.2.2.1) :: ((AV.int IntKind.i64 o6.2.2.2.1) :: [])))) :: []))) :: ((2, (AO.fmap 1 (@encF (@List UInt8) Int (fun (k_14 : (@List UInt8)) => (AV.str k_14)) (cInt IntKind.u8) o6.2.2.2.2.1) none)) :: ((3, (AO.rows true (List.map disk_write.c o6.2.2.2.2.2))) :: [])))) 4 ?_ (fun _ => ?_))
          · conv => whnf
            refine Or.inl ?_
            conv => whnf
            refine loops_i (α := (Nat × Int × Int × (List UInt8) × Int × Int × (List ((List UInt8) × (List Int))) × (List disk_write))) (fun xq => ((0, (AV.sl (List.map matinslaw10_Do.c script))) :: ((1, (AV.sl (List.map (cSl (cInt IntKind.u8)) recs))) :: ((2, (AV.int IntKind.i64 keep)) :: ((3, (AV.int IntKind.i64 torn)) :: ((9, (AV.ptr 0 0 0)) :: ((10, (AV.ptr 1 0 0)) :: ((13, (AV.int IntKind.i64 xq.2.1)) :: [])))))))) (fun xq => ((0, (AO.rows false (((AV.mapo 2) :: ((AV.osw 3 2) :: ((AV.int IntKind.i64 xq.2.2.1) :: []))) :: []))) :: ((1, (AO.rows false (((AV.ptr 0 0 0) :: ((AV.str xq.2.2.2.1) :: ((AV.int IntKind.i64 xq.2.2.2.2.1) :: ((AV.int IntKind.i64 xq.2.2.2.2.2.1) :: [])))) :: []))) :: ((2, (AO.fmap 1 (@encF (@List UInt8) Int (fun (k_14 : (@List UInt8)) => (AV.str k_14)) (cInt IntKind.u8) xq.2.2.2.2.2.2.1) none)) :: ((3, (AO.rows true (List.map disk_write.c xq.2.2.2.2.2.2.2))) :: []))))) 4 (fun xq => matinslaw10_WalLays_l0 F script xq.1 xq.2.1 xq.2.2.1 xq.2.2.2.1 xq.2.2.2.2.1 xq.2.2.2.2.2.1 xq.2.2.2.2.2.2.1 xq.2.2.2.2.2.2.2 = some o6) (fun xq => xq.1) (F, (0 : Int), y_2.2.2.1, y_2.2.2.2.2.1, y_2.2.2.2.2.2.1, y_2.2.2.2.2.2.2.1, y_2.2.2.2.1, y_2.2.2.2.2.2.2.2) [(0, 0), (1, 1), (2, 2), (3, 3)] h6 rfl rfl rfl ?_
            rintro ⟨n_40, i_41, c_42, c_43, c_44, c_45, fs_46, l_47⟩ h6
            replace h6 : matinslaw10_WalLays_l0 F script n_40 i_41 c_42 c_43 c_44 c_45 fs_46 l_47 = some o6 := h6
            cases n_40 with
            | zero => rw [matinslaw10_WalLays_l0.eq_1] at h6; cases h6
            | succ n_40 =>
              rw [matinslaw10_WalLays_l0.eq_2] at h6
              conv => whnf
              obtain ⟨t49_48, h9, k9⟩ := bind_e h6
              refine Or.inr (joins_i True ((0, (AV.sl (List.map matinslaw10_Do.c script))) :: ((1, (AV.sl (List.map (cSl (cInt IntKind.u8)) recs))) :: ((2, (AV.int IntKind.i64 keep)) :: ((3, (AV.int IntKind.i64 torn)) :: ((9, (AV.ptr 0 0 0)) :: ((10, (AV.ptr 1 0 0)) :: ((13, (AV.int IntKind.i64 i_41)) :: ((49, (AV.bool t49_48)) :: [])))))))) ((0, (AO.rows false (((AV.mapo 2) :: ((AV.osw 3 2) :: ((AV.int IntKind.i64 c_42) :: []))) :: []))) :: ((1, (AO.rows false (((AV.ptr 0 0 0) :: ((AV.str c_43) :: ((AV.int IntKind.i64 c_44) :: ((AV.int IntKind.i64 c_45) :: [])))) :: []))) :: ((2, (AO.fmap 1 (@encF (@List UInt8) Int (fun (k_14 : (@List UInt8)) => (AV.str k_14)) (cInt IntKind.u8) fs_46) none)) :: ((3, (AO.rows true (List.map disk_write.c l_47))) :: [])))) 4 ?_ (fun _ => ?_))
              · conv => whnf
                refine Or.inl ?_
                conv => whnf
                refine brn_i (fun hb => ?_) (fun hb => ?_)
                · replace h9 := cond_t h9 (by first | exact hb | (simp; done) | simpa using hb | simpa [chunk] using hb | (simp [chunk] at hb ⊢; omega))
                  conv => whnf
                  obtain rfl := Option.some.inj h9
                  exact end_i trivial [(0, 0), (1, 1), (2, 2), (3, 3)] rfl rfl rfl
                · replace h9 := cond_f h9 (by first | exact hb | (simp; done) | simpa using hb | simpa [chunk] using hb | (simp [chunk] at hb ⊢; omega))
                  conv => whnf
                  obtain rfl := Option.some.inj h9
                  exact end_i trivial [(0, 0), (1, 1), (2, 2), (3, 3)] rfl rfl rfl
              · conv => whnf
                refine Or.inl ?_
                conv => whnf
                refine brn_i (fun hb => ?_) (fun hb => ?_)
                · replace k9 := cond_t k9 hb
                  conv => whnf
                  obtain ⟨o10, h10, k10⟩ := bind_e k9
                  refine Or.inr (joins_i True ((0, (AV.sl (List.map matinslaw10_Do.c script))) :: ((1, (AV.sl (List.map (cSl (cInt IntKind.u8)) recs))) :: ((2, (AV.int IntKind.i64 keep)) :: ((3, (AV.int IntKind.i64 torn)) :: ((9, (AV.ptr 0 0 0)) :: ((10, (AV.ptr 1 0 0)) :: ((13, (AV.int IntKind.i64 i_41)) :: []))))))) ((0, (AO.rows false (((AV.mapo 2) :: ((AV.osw 3 2) :: ((AV.int IntKind.i64 o10.1) :: []))) :: []))) :: ((1, (AO.rows false (((AV.ptr 0 0 0) :: ((AV.str o10.2.1) :: ((AV.int IntKind.i64 o10.2.2.1) :: ((AV.int IntKind.i64 o10.2.2.2.1) :: [])))) :: []))) :: ((2, (AO.fmap 1 (@encF (@List UInt8) Int (fun (k_14 : (@List UInt8)) => (AV.str k_14)) (cInt IntKind.u8) o10.2.2.2.2.1) none)) :: ((3, (AO.rows true (List.map disk_write.c o10.2.2.2.2.2))) :: [])))) 4 ?_ (fun _ => ?_))
                  · conv => whnf
                    refine Or.inl ?_
                    conv => whnf
                    obtain ⟨hg, h10⟩ := grd_e h10
                    refine And.intro hg ?_
                    conv => whnf
                    obtain ⟨y_58, hy, h10⟩ := bind_e h10
                    refine opt_i (matinslaw10_Do.c y_58) (getE rfl hy) ?_
                    conv => whnf
                    refine Or.inl ?_
                    conv => whnf
                    refine brn_i (fun hb => ?_) (fun hb => ?_)
                    · replace h10 := cond_t h10 hb
                      conv => whnf
                      obtain ⟨hg, h10⟩ := grd_e h10
                      refine And.intro hg ?_
                      conv => whnf
                      obtain ⟨y_59, hy, h10⟩ := bind_e h10
                      refine opt_i (matinslaw10_Do.c y_59) (getE rfl hy) ?_
                      conv => whnf
                      obtain ⟨y_60, hy, h10⟩ := bind_e h10
                      refine Or.inr (callG_i [1, 0, 2, 3] (__wal_Wal__Append_i1_FC0 F y_59.Rec c_43 c_44 c_45 c_42 fs_46 l_47 y_60 hy) rfl rfl rfl rfl ?_)
                      conv => whnf
                      obtain rfl := Option.some.inj h10
                      exact end_i trivial [(0, 0), (1, 1), (2, 2), (3, 104)] rfl rfl rfl
                    · replace h10 := cond_f h10 hb
                      conv => whnf
                      obtain rfl := Option.some.inj h10
                      exact end_i trivial [(0, 0), (1, 1), (2, 2), (3, 3)] rfl rfl rfl
                  · obtain ⟨c_52, c_53, c_54, c_55, fs_56, l_57⟩ := o10
                    conv => whnf
                    exact round_i (n_40, (IntKind.wrap IntKind.i64 (i_41 + (1 : Int))), c_52, c_53, c_54, c_55, fs_56, l_57) [(0, 0), (1, 1), (2, 2), (3, 3)] k10 (Nat.lt_succ_self _) rfl rfl rfl
                · replace k9 := cond_f k9 hb
                  conv => whnf
                  obtain rfl := Option.some.inj k9
                  exact end_i trivial [(0, 0), (1, 1), (2, 2), (3, 3)] rfl rfl rfl
          · obtain ⟨c_24, c_25, c_26, c_27, fs_28, l_29⟩ := o6
            conv => whnf
            obtain ⟨y_61, hy, k6⟩ := bind_e k6
            refine Or.inr (callG_i [1, 0, 2, 3] (__wal_Wal__Reset_FC0 F recs c_25 c_26 c_27 c_24 fs_28 l_29 y_61 hy) rfl rfl rfl rfl ?_)
            conv => whnf
            refine Or.inl ?_
            conv => whnf
            refine brn_i (fun hb => ?_) (fun hb => ?_)
            · replace k6 := cond_t k6 hb
              conv => whnf
              refine Or.inl ?_
              conv => whnf
              refine brn_i (fun hb => ?_) (fun hb => ?_)
              · replace k6 := cond_t k6 hb
                conv => whnf
                obtain rfl := Option.some.inj k6
                exact rfl
              · replace k6 := cond_f k6 hb
                conv => whnf
                obtain rfl := Option.some.inj k6
                exact rfl
            · replace k6 := cond_f k6 hb
              conv => whnf
              obtain ⟨y_62, hy, k6⟩ := bind_e k6
              refine Or.inr (callG_i [1, 0, 2, 24] (__wal_Wal__Count_FC0 F y_61.2.1 y_61.2.2.1 y_61.2.2.2.1 y_61.2.2.2.2.1 y_61.2.2.2.2.2.1 y_61.2.2.2.2.2.2 y_62 hy) rfl rfl rfl rfl ?_)
              conv => whnf
              obtain ⟨y_63, hy, k6⟩ := bind_e k6
              refine Or.inr (callG_i [0, 2, 24] (__disk_Disk__Crash_FC0 F keep torn y_61.2.2.2.2.1 y_61.2.2.2.2.2.1 y_61.2.2.2.2.2.2 y_63 hy) rfl rfl rfl rfl ?_)
              conv => whnf
              obtain ⟨y_64, hy, k6⟩ := bind_e k6
              rcases y_64 with y_64 | y_64
              · replace k6 := elim_l k6
                refine Or.inr (callG_i [0, 2, 103] (wal_Open_FC0 F y_63.1 y_63.2 [] y_64 hy) rfl rfl (cons2 rfl (cons2 rfl (cons2 (congrArg (fun X => some (AO.rows true X)) (by first | (simp; done) | rfl | (rw [List.map_append]; rfl) | (simp [outR]; done) | (simp only [outR, Sum.elim_inr, id, List.map_append, List.map_map]; rfl))) rfl))) rfl ?_)
                conv => whnf
                refine Or.inl ?_
                conv => whnf
                refine brn_i (fun hb => ?_) (fun hb => ?_)
                · replace k6 := cond_t k6 hb
                  conv => whnf
                  obtain rfl := Option.some.inj k6
                  exact rfl
                · replace k6 := cond_f k6 hb
                  conv => whnf
                  obtain rfl := Option.some.inj k6
                  exact rfl
              · replace k6 := elim_r k6
                refine Or.inr (callG_i [0, 2, 103] (wal_Open_FC1 F y_63.1 y_63.2 [] y_64 hy) rfl rfl (cons2 rfl (cons2 rfl (cons2 (congrArg (fun X => some (AO.rows true X)) (by first | (simp; done) | rfl | (rw [List.map_append]; rfl) | (simp [outR]; done) | (simp only [outR, Sum.elim_inr, id, List.map_append, List.map_map]; rfl))) rfl))) rfl ?_)
                conv => whnf
                refine Or.inl ?_
                conv => whnf
                refine brn_i (fun hb => ?_) (fun hb => ?_)
                · replace k6 := cond_t k6 hb
                  conv => whnf
                  refine brn_i (fun hb => ?_) (fun hb => ?_)
                  · replace k6 := cond_t k6 (by first | exact hb | (simp; done) | simpa using hb | simpa [chunk] using hb | (simp [chunk] at hb ⊢; omega))
                    conv => whnf
                    refine Or.inl ?_
                    conv => whnf
                    obtain ⟨y_65, hy, k6⟩ := bind_e k6
                    refine ⟨_, _, (matinsref10_Lists_FC F y_64.1 recs y_65 hy), Or.inl ⟨rfl, rfl, ?_⟩⟩
                    conv => whnf
                    refine brn_i (fun hb => ?_) (fun hb => ?_)
                    · replace k6 := cond_t k6 hb
                      conv => whnf
                      obtain ⟨y_66, hy, k6⟩ := bind_e k6
                      refine Or.inr (callG_i [0, 2, 120] (__disk_Disk__Names_FC0 F y_64.2.2.1 y_64.2.2.2.1 y_64.2.2.2.2.2.2.2 y_66 hy) rfl rfl rfl rfl ?_)
                      conv => whnf
                      obtain rfl := Option.some.inj k6
                      exact rfl
                    · replace k6 := cond_f k6 hb
                      conv => whnf
                      obtain rfl := Option.some.inj k6
                      exact rfl
                  · replace k6 := cond_f k6 (by first | exact hb | (simp; done) | simpa using hb | simpa [chunk] using hb | (simp [chunk] at hb ⊢; omega))
                    conv => whnf
                    obtain rfl := Option.some.inj k6
                    exact rfl
                · replace k6 := cond_f k6 hb
                  conv => whnf
                  obtain rfl := Option.some.inj k6
                  exact rfl


end Go.T
