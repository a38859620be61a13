/-
  CertWa: the program's functions compute them. Printed by a program.
-/
import Derived.Test.YtnofpgegbhegnaaGreatDoorSem
import Derived.Test.YtnofpgegbhegnaaGreatDoorProg
import Derived.KernelRfl
import Derived.Test.YtnofpgegbhegnaaGreatDoorLib
set_option linter.unusedVariables false
set_option maxRecDepth 200000
set_option maxHeartbeats 4000000
namespace Go.T
open Go Go.Ab Go.Proofs
theorem mixed : Tryz.prog.follows .mixedOrders = true := by kernel_rfl
theorem disk_New_FC0 {ml : Gv} (F : Nat) (r : (Int × (List ((List UInt8) × (List Int))))) (h : disk_New F = some r) : FC Tryz.prog (GM ml) 7 [] [] (AV.ptr 0 0 0) ((0, (AO.rows false (((AV.mapo 1) :: ((AV.osw 2 2) :: ((AV.int IntKind.i64 r.1) :: []))) :: []))) :: ((1, (AO.fmap 1 (@encF (@List UInt8) Int (fun (k_10 : (@List UInt8)) => (AV.str k_10)) (cInt IntKind.u8) r.2) none)) :: ((2, (AO.rows true [])) :: []))) := by
  refine FC_void (os := ((0, (AO.rows false (((AV.mapo 1) :: (AV.esl :: ((AV.int IntKind.i64 r.1) :: []))) :: []))) :: ((1, (AO.fmap 1 (@encF (@List UInt8) Int (fun (k_10 : (@List UInt8)) => (AV.str k_10)) (cInt IntKind.u8) r.2) none)) :: []))) 0 0 1 2 ?_ (by show 0 ≤ W; decide) rfl rfl rfl rfl (endG_i [(0, 0), (1, 1), (2, 8)] rfl rfl rfl)
  refine FC_ofG 2000 Tryz.func7 rfl (by kernel_rfl) mixed (by show 0 ≤ 4; decide) (by show 0 ≤ W; decide) rfl ?_
  unfold disk_New at h
  conv => whnf
  refine Or.inr ?_
  conv => whnf
  refine ⟨1, ?_⟩
  conv => whnf
  obtain rfl := Option.some.inj h
  exact endG_i [(0, 32), (1, 16)] rfl rfl rfl

theorem __disk_Disk__Names_FC0 {ml : Gv} (F : Nat) (c : Int) (fs : (List ((List UInt8) × (List Int)))) (l : (List disk_write)) (r : (List (List UInt8))) (h : __disk_Disk__Names F c fs l = some r) : FC Tryz.prog (GM ml) 18 ((0, (AO.rows false (((AV.mapo 1) :: ((AV.osw 2 2) :: ((AV.int IntKind.i64 c) :: []))) :: []))) :: ((1, (AO.fmap 1 (@encF (@List UInt8) Int (fun (k_10 : (@List UInt8)) => (AV.str k_10)) (cInt IntKind.u8) fs) none)) :: ((2, (AO.rows true (List.map disk_write.c l))) :: []))) [(AV.ptr 0 0 0)] (AV.sl (List.map cStr r)) ((0, (AO.rows false (((AV.mapo 1) :: ((AV.osw 2 2) :: ((AV.int IntKind.i64 c) :: []))) :: []))) :: ((1, (AO.fmap 1 (@encF (@List UInt8) Int (fun (k_10 : (@List UInt8)) => (AV.str k_10)) (cInt IntKind.u8) fs) none)) :: ((2, (AO.rows true (List.map disk_write.c l))) :: []))) := by
  unfold __disk_Disk__Names at h
  obtain ⟨hg, h⟩ := grd_e h
  obtain rfl := Option.some.inj h
  exact names_FC fs _ _ hg rfl (by show 3 ≤ W; decide)

theorem wal_number_FC0 {ml : Gv} (F : Nat) (name : (List UInt8)) (r : Int) (h : wal_number F name = some r) : FC Tryz.prog (GM ml) 19 [] [(AV.str name)] (AV.int IntKind.i64 r) [] := by
  unfold wal_number at h
  obtain ⟨hg, h⟩ := grd_e h
  obtain rfl := Option.some.inj h
  exact number_FC name hg

theorem math_bits_Len64_FC {ml : Gv} (F : Nat) (x : Int) (r : Int) (h : math_bits_Len64 F x = some r) : FC Tryz.prog (GM ml) 57 [] [(AV.int IntKind.u64 x)] (.int IntKind.i64 r) [] := by
  refine FC_of 2000 Tryz.func57 rfl (by kernel_rfl) mixed (by show 1 ≤ 25; decide) ?_
  unfold math_bits_Len64 at h
  conv => whnf
  obtain ⟨o0, h0, k0⟩ := bind_e h
  refine Or.inr (joins_i True ((0, (AV.int IntKind.u64 o0.1)) :: ((2, (AV.int IntKind.i64 o0.2)) :: [])) [] 0 ?_ (fun _ => ?_))
  · conv => whnf
    refine Or.inl ?_
    conv => whnf
    refine brn_i (fun hb => ?_) (fun hb => ?_)
    · replace h0 := cond_t h0 hb
      conv => whnf
      refine And.intro (by decide) ?_
      conv => whnf
      obtain rfl := Option.some.inj h0
      exact end_i trivial [] rfl rfl rfl
    · replace h0 := cond_f h0 hb
      conv => whnf
      obtain rfl := Option.some.inj h0
      exact end_i trivial [] rfl rfl rfl
  · obtain ⟨x_0, n_1⟩ := o0
    conv => whnf
    obtain ⟨o1, h1, k1⟩ := bind_e k0
    refine Or.inr (joins_i True ((0, (AV.int IntKind.u64 o1.1)) :: ((2, (AV.int IntKind.i64 o1.2)) :: [])) [] 0 ?_ (fun _ => ?_))
    · conv => whnf
      refine Or.inl ?_
      conv => whnf
      refine brn_i (fun hb => ?_) (fun hb => ?_)
      · replace h1 := cond_t h1 hb
        conv => whnf
        refine And.intro (by decide) ?_
        conv => whnf
        obtain rfl := Option.some.inj h1
        exact end_i trivial [] rfl rfl rfl
      · replace h1 := cond_f h1 hb
        conv => whnf
        obtain rfl := Option.some.inj h1
        exact end_i trivial [] rfl rfl rfl
    · obtain ⟨x_2, n_3⟩ := o1
      conv => whnf
      obtain ⟨o2, h2, k2⟩ := bind_e k1
      refine Or.inr (joins_i True ((0, (AV.int IntKind.u64 o2.1)) :: ((2, (AV.int IntKind.i64 o2.2)) :: [])) [] 0 ?_ (fun _ => ?_))
      · conv => whnf
        refine Or.inl ?_
        conv => whnf
        refine brn_i (fun hb => ?_) (fun hb => ?_)
        · replace h2 := cond_t h2 hb
          conv => whnf
          refine And.intro (by decide) ?_
          conv => whnf
          obtain rfl := Option.some.inj h2
          exact end_i trivial [] rfl rfl rfl
        · replace h2 := cond_f h2 hb
          conv => whnf
          obtain rfl := Option.some.inj h2
          exact end_i trivial [] rfl rfl rfl
      · obtain ⟨x_4, n_5⟩ := o2
        conv => whnf
        obtain ⟨hg, k2⟩ := grd_e k2
        refine And.intro hg ?_
        conv => whnf
        obtain ⟨y_6, hy, k2⟩ := bind_e k2
        refine opt_i y_6 hy ?_
        conv => whnf
        obtain rfl := Option.some.inj k2
        exact rfl

theorem math_bits_Len_FC {ml : Gv} (F : Nat) (x : Int) (r : Int) (h : math_bits_Len F x = some r) : FC Tryz.prog (GM ml) 35 [] [(AV.int IntKind.u64 x)] (.int IntKind.i64 r) [] := by
  refine FC_of 2000 Tryz.func35 rfl (by kernel_rfl) mixed (by show 1 ≤ 8; decide) ?_
  unfold math_bits_Len at h
  conv => whnf
  refine Or.inl ?_
  conv => whnf
  refine Or.inl ?_
  conv => whnf
  obtain ⟨y_0, hy, h⟩ := bind_e h
  refine ⟨_, _, (math_bits_Len64_FC F x y_0 hy), Or.inl ⟨rfl, rfl, ?_⟩⟩
  conv => whnf
  obtain rfl := Option.some.inj h
  exact rfl

theorem slices_Sort___int_int__FC {ml : Gv} (F : Nat) (x : (List Int)) (r : Unit) (h : slices_Sort___int_int_ F x = some r) : FC Tryz.prog (GM ml) 20 [] [(AV.sl (List.map (cInt IntKind.i64) x))] (.tup []) [] := by
  refine FC_of 2000 Tryz.func20 rfl (by kernel_rfl) mixed (by show 1 ≤ 11; decide) ?_
  unfold slices_Sort___int_int_ at h
  conv => whnf
  refine Or.inl ?_
  conv => whnf
  obtain ⟨y_0, hy, h⟩ := bind_e h
  refine ⟨_, _, (math_bits_Len_FC F (IntKind.wrap IntKind.u64 (@Nat.cast Int instNatCastInt (List.length (List.map (cInt IntKind.i64) x)))) y_0 hy), Or.inl ⟨rfl, rfl, ?_⟩⟩
  conv => whnf
  refine Or.inl ?_
  conv => whnf
  cases h

theorem slices_Sort___int_int__i1_FC0 {ml : Gv} (F : Nat) (l : (List Int)) (r : (List Int)) (h : slices_Sort___int_int__i1 F l = some r) : FC Tryz.prog (GM ml) 20 ((0, (AO.rows true (List.map (cInt IntKind.i64) l))) :: []) [(AV.osw 0 1)] (AV.tup []) ((0, (AO.rows true (List.map (cInt IntKind.i64) r))) :: []) := by
  unfold slices_Sort___int_int__i1 at h
  obtain ⟨hg, h⟩ := grd_e h
  obtain rfl := Option.some.inj h
  exact sort_FC l hg

theorem slices_Backward___int_int__FC0 {ml : Gv} (F : Nat) (s : (List Int)) (r : (List Int)) (h : slices_Backward___int_int_ F s = some r) : FC Tryz.prog (GM ml) 21 [] [(AV.sl (List.map (cInt IntKind.i64) s))] (AV.fn 36 ((AV.rp ((AV.sl (List.map (cInt IntKind.i64) r)) :: []) 0) :: [])) [] := by
  unfold slices_Backward___int_int_ at h
  obtain rfl := Option.some.inj h
  exact back_FC s

theorem strconv_Itoa_FC0 {ml : Gv} (F : Nat) (i : Int) (r : (List UInt8)) (h : strconv_Itoa F i = some r) : FC Tryz.prog (GM ml) 22 [] [(AV.int IntKind.i64 i)] (AV.str r) [] := by
  unfold strconv_Itoa at h
  obtain ⟨hg, h⟩ := grd_e h
  obtain rfl := Option.some.inj h
  exact FC_itoa (g := 2) (by kernel_rfl) rfl (by kernel_rfl) (fun n a b w c => Tryz.strconv_Itoa n a b w c) i hg.1 hg.2

theorem __disk_Disk__there_FC0 {ml : Gv} (F : Nat) (name : (List UInt8)) (c : Int) (fs : (List ((List UInt8) × (List Int)))) (l : (List disk_write)) (r : Int) (h : __disk_Disk__there F name c fs l = some r) : FC Tryz.prog (GM ml) 29 ((0, (AO.rows false (((AV.mapo 1) :: ((AV.osw 2 2) :: ((AV.int IntKind.i64 c) :: []))) :: []))) :: ((1, (AO.fmap 1 (@encF (@List UInt8) Int (fun (k_11 : (@List UInt8)) => (AV.str k_11)) (cInt IntKind.u8) fs) none)) :: ((2, (AO.rows true (List.map disk_write.c l))) :: []))) [(AV.ptr 0 0 0), (AV.str name)] (AV.int IntKind.i64 r) ((0, (AO.rows false (((AV.mapo 1) :: ((AV.osw 2 2) :: ((AV.int IntKind.i64 c) :: []))) :: []))) :: ((1, (AO.fmap 1 (@encF (@List UInt8) Int (fun (k_11 : (@List UInt8)) => (AV.str k_11)) (cInt IntKind.u8) fs) none)) :: ((2, (AO.rows true (List.map disk_write.c l))) :: []))) := by
  refine FC_ofG 2000 Tryz.func29 rfl (by kernel_rfl) mixed (by show 2 ≤ 20; decide) (by show 3 ≤ W; decide) rfl ?_
  unfold __disk_Disk__there at h
  conv => whnf
  refine Or.inl ?_
  conv => whnf
  refine And.intro (by kernel_rfl) ?_
  conv => whnf
  refine flook_peek (ek := (fun (k_11 : (@List UInt8)) => (AV.str k_11))) (en := (cInt IntKind.u8)) fs name rfl rfl (keq_str Tryz.underlying9) ⟨31, .esl, by kernel_rfl, by kernel_rfl⟩ ?_
  conv => whnf
  refine Or.inl ?_
  conv => whnf
  refine brn_i (fun hb => ?_) (fun hb => ?_)
  · replace h := cond_t h hb
    conv => whnf
    obtain rfl := Option.some.inj h
    exact endG_i [(0, 0), (1, 1), (2, 2)] rfl rfl rfl
  · replace h := cond_f h hb
    conv => whnf
    obtain rfl := Option.some.inj h
    exact endG_i [(0, 0), (1, 1), (2, 2)] rfl rfl rfl

theorem slices_Clone___byte_byte__FC0 {ml : Gv} (F : Nat) (s r : List Int) (h : slices_Clone___byte_byte_ F s = some r) : FC Tryz.prog (GM ml) 30 [] [(.sl (List.map (cInt IntKind.u8) s))] (.osw 0 1) [(0, .rows true (List.map (cInt IntKind.u8) r))] := by
  unfold slices_Clone___byte_byte_ at h
  obtain ⟨hg, h⟩ := grd_e h
  obtain rfl := Option.some.inj h
  refine FC_ofG 2000 Tryz.func30 rfl (by kernel_rfl) mixed (by show 1 ≤ 8; decide) (by decide) rfl ?_
  conv => whnf
  refine Or.inl ?_
  conv => whnf
  refine And.intro (fun hp => ?_) ?_
  · conv => whnf
    exact endG_i [(0, 32)] rfl (by rw [hp]; rfl) rfl
  · conv => whnf
    refine Or.inl ?_
    conv => whnf
    refine And.intro (LenAll.map (fun _ => rfl)) ?_
    conv => whnf
    refine And.intro LenAll.nil ?_
    conv => whnf
    refine And.intro (show 0 + (List.map (cInt IntKind.u8) s).length ≤ LIM by simpa using hg) ?_
    conv => whnf
    exact endG_i [(0, 48)] rfl rfl rfl

theorem slices_Clone___byte_byte__i1_FC0 {ml : Gv} (F : Nat) (s r : List Int) (h : slices_Clone___byte_byte__i1 F s = some r) : FC Tryz.prog (GM ml) 30 [(0, .rows true (List.map (cInt IntKind.u8) s))] [.osw 0 1] (.osw 1 1) [(0, .rows true (List.map (cInt IntKind.u8) s)), (1, .rows true (List.map (cInt IntKind.u8) r))] := by
  unfold slices_Clone___byte_byte__i1 at h
  obtain ⟨hg, h⟩ := grd_e h
  obtain rfl := Option.some.inj h
  refine FC_ofG 2000 Tryz.func30 rfl (by kernel_rfl) mixed (by show 1 ≤ 8; decide) (by show 1 ≤ W; decide) rfl ?_
  conv => whnf
  refine Or.inl ?_
  conv => whnf
  refine And.intro (fun hp => ?_) ?_
  · conv => whnf
    exact endG_i [(0, 0), (1, 32)] rfl (by rw [hp]; rfl) rfl
  · conv => whnf
    refine Or.inl ?_
    conv => whnf
    refine And.intro (LenAll.map (fun _ => rfl)) ?_
    conv => whnf
    refine And.intro LenAll.nil ?_
    conv => whnf
    refine And.intro (show 0 + (List.map (cInt IntKind.u8) s).length ≤ LIM by simpa using hg) ?_
    conv => whnf
    exact endG_i [(0, 0), (1, 48)] rfl rfl rfl

theorem __disk_Disk__Read_FC0 {ml : Gv} (F : Nat) (name : (List UInt8)) (c : Int) (fs : (List ((List UInt8) × (List Int)))) (l : (List disk_write)) (r : (Int × (List Int))) (h : __disk_Disk__Read F name c fs l = some (Sum.inl r)) : FC Tryz.prog (GM ml) 17 ((0, (AO.rows false (((AV.mapo 1) :: ((AV.osw 2 2) :: ((AV.int IntKind.i64 c) :: []))) :: []))) :: ((1, (AO.fmap 1 (@encF (@List UInt8) Int (fun (k_12 : (@List UInt8)) => (AV.str k_12)) (cInt IntKind.u8) fs) none)) :: ((2, (AO.rows true (List.map disk_write.c l))) :: []))) [(AV.ptr 0 0 0), (AV.str name)] (AV.tup ((AV.osw 3 1) :: ((AV.int IntKind.i64 r.1) :: []))) ((0, (AO.rows false (((AV.mapo 1) :: ((AV.osw 2 2) :: ((AV.int IntKind.i64 c) :: []))) :: []))) :: ((1, (AO.fmap 1 (@encF (@List UInt8) Int (fun (k_12 : (@List UInt8)) => (AV.str k_12)) (cInt IntKind.u8) fs) none)) :: ((2, (AO.rows true (List.map disk_write.c l))) :: ((3, (AO.rows true (List.map (cInt IntKind.u8) r.2))) :: [])))) := by
  refine FC_ofG 2000 Tryz.func17 rfl (by kernel_rfl) mixed (by show 2 ≤ 20; decide) (by show 3 ≤ W; decide) rfl ?_
  unfold __disk_Disk__Read at h
  conv => whnf
  obtain ⟨y_0, hy, h⟩ := bind_e h
  refine Or.inr (callG_i [0, 1, 2] (__disk_Disk__there_FC0 F name c fs l y_0 hy) rfl rfl rfl rfl ?_)
  conv => whnf
  refine Or.inl ?_
  conv => whnf
  refine brn_i (fun hb => ?_) (fun hb => ?_)
  · replace h := cond_t h hb
    conv => whnf
    obtain rfl := Sum.inl.inj (Option.some.inj h)
    exact endG_i [(0, 0), (1, 1), (2, 2), (3, 80)] rfl (cons2 rfl (cons2 rfl (cons2 rfl (cons2 (congrArg (fun X => some (AO.rows true X)) (by first | (simp; done) | rfl | (rw [List.map_append]; rfl) | (simp [outR]; done) | (simp only [outR, Sum.elim_inr, id, List.map_append, List.map_map]; rfl))) rfl)))) rfl
  · replace h := cond_f h hb
    conv => whnf
    refine And.intro (by kernel_rfl) ?_
    conv => whnf
    refine both (b := (Option.isSome (mget name fs))) (fun hb => ?_) (fun hb => ?_)
    · replace h := cond_t h hb
      refine flook_some (ek := (fun (k_12 : (@List UInt8)) => (AV.str k_12))) (en := (cInt IntKind.u8)) fs name rfl rfl (keq_str Tryz.underlying9) hb ?_
      conv => whnf
      obtain ⟨y_1, hy, h⟩ := bind_e h
      refine Or.inr (callG_i [112] (slices_Clone___byte_byte__i1_FC0 F (Option.getD (mget name fs) []) y_1 hy) rfl rfl rfl rfl ?_)
      conv => whnf
      obtain rfl := Sum.inl.inj (Option.some.inj h)
      obtain ⟨kk, hkk⟩ := (mix_some (ek := (fun (k_12 : (@List UInt8)) => (AV.str k_12))) (en := (cInt IntKind.u8)) (q := name) (L := fs) (by assumption)).2
      refine endG_f (.step _ 1 1 _ _ 112 kk _ _ rfl rfl hkk (fun row hr => by obtain ⟨y, _, rfl⟩ := List.mem_map.1 hr; rfl) rfl (.refl _)) ?_
      exact endG_i [(0, 0), (1, 1), (2, 2), (3, 121)] rfl rfl rfl
    · replace h := cond_f h hb
      refine flook_none (ek := (fun (k_12 : (@List UInt8)) => (AV.str k_12))) (en := (cInt IntKind.u8)) fs name .esl rfl rfl (keq_str Tryz.underlying9) hb ⟨31, .esl, by kernel_rfl, by kernel_rfl, .refl _⟩ ?_
      conv => whnf
      refine Or.inl ?_
      conv => whnf
      obtain ⟨y_2, hy, h⟩ := bind_e h
      refine ⟨_, _, (FC_argw (WkL.cons Wk.esl WkL.nil) (FC_close (slices_Clone___byte_byte__FC0 F [] y_2 hy) rfl)), Or.inr ⟨[], rfl, ?_⟩⟩
      conv => whnf
      cases (Option.some.inj h)
theorem __disk_Disk__Read_FC1 {ml : Gv} (F : Nat) (name : (List UInt8)) (c : Int) (fs : (List ((List UInt8) × (List Int)))) (l : (List disk_write)) (r : ((List Int) × Int)) (h : __disk_Disk__Read F name c fs l = some (Sum.inr r)) : FC Tryz.prog (GM ml) 17 ((0, (AO.rows false (((AV.mapo 1) :: ((AV.osw 2 2) :: ((AV.int IntKind.i64 c) :: []))) :: []))) :: ((1, (AO.fmap 1 (@encF (@List UInt8) Int (fun (k_12 : (@List UInt8)) => (AV.str k_12)) (cInt IntKind.u8) fs) none)) :: ((2, (AO.rows true (List.map disk_write.c l))) :: []))) [(AV.ptr 0 0 0), (AV.str name)] (AV.tup ((AV.sl (List.map (cInt IntKind.u8) r.1)) :: ((AV.int IntKind.i64 r.2) :: []))) ((0, (AO.rows false (((AV.mapo 1) :: ((AV.osw 2 2) :: ((AV.int IntKind.i64 c) :: []))) :: []))) :: ((1, (AO.fmap 1 (@encF (@List UInt8) Int (fun (k_12 : (@List UInt8)) => (AV.str k_12)) (cInt IntKind.u8) fs) none)) :: ((2, (AO.rows true (List.map disk_write.c l))) :: []))) := by
  refine FC_ofG 2000 Tryz.func17 rfl (by kernel_rfl) mixed (by show 2 ≤ 20; decide) (by show 3 ≤ W; decide) rfl ?_
  unfold __disk_Disk__Read at h
  conv => whnf
  obtain ⟨y_0, hy, h⟩ := bind_e h
  refine Or.inr (callG_i [0, 1, 2] (__disk_Disk__there_FC0 F name c fs l y_0 hy) rfl rfl rfl rfl ?_)
  conv => whnf
  refine Or.inl ?_
  conv => whnf
  refine brn_i (fun hb => ?_) (fun hb => ?_)
  · replace h := cond_t h hb
    conv => whnf
    cases (Option.some.inj h)
  · replace h := cond_f h hb
    conv => whnf
    refine And.intro (by kernel_rfl) ?_
    conv => whnf
    refine both (b := (Option.isSome (mget name fs))) (fun hb => ?_) (fun hb => ?_)
    · replace h := cond_t h hb
      refine flook_some (ek := (fun (k_12 : (@List UInt8)) => (AV.str k_12))) (en := (cInt IntKind.u8)) fs name rfl rfl (keq_str Tryz.underlying9) hb ?_
      conv => whnf
      obtain ⟨y_1, hy, h⟩ := bind_e h
      refine Or.inr (callG_i [112] (slices_Clone___byte_byte__i1_FC0 F (Option.getD (mget name fs) []) y_1 hy) rfl rfl rfl rfl ?_)
      conv => whnf
      cases (Option.some.inj h)
    · replace h := cond_f h hb
      refine flook_none (ek := (fun (k_12 : (@List UInt8)) => (AV.str k_12))) (en := (cInt IntKind.u8)) fs name .esl rfl rfl (keq_str Tryz.underlying9) hb ⟨31, .esl, by kernel_rfl, by kernel_rfl, .refl _⟩ ?_
      conv => whnf
      refine Or.inl ?_
      conv => whnf
      obtain ⟨y_2, hy, h⟩ := bind_e h
      refine ⟨_, _, (FC_argw (WkL.cons Wk.esl WkL.nil) (FC_close (slices_Clone___byte_byte__FC0 F [] y_2 hy) rfl)), Or.inr ⟨[], rfl, ?_⟩⟩
      conv => whnf
      obtain rfl := Sum.inr.inj (Option.some.inj h)
      exact endG_i [(0, 0), (1, 1), (2, 2)] rfl rfl rfl

theorem code_take_FC {ml : Gv} (F : Nat) (b : (List Int)) (r : (Int × Int × Int)) (h : code_take F b = some r) : FC Tryz.prog (GM ml) 59 [] [(AV.sl (List.map (cInt IntKind.u8) b))] (.tup [(.int IntKind.u64 r.1), (.int IntKind.i64 r.2.1), (.int IntKind.i64 r.2.2)]) [] := by
  refine FC_of 2000 Tryz.func59 rfl (by kernel_rfl) mixed (by show 1 ≤ 43; decide) ?_
  unfold code_take at h
  conv => whnf
  obtain ⟨o2, h2, k2⟩ := bind_e h
  refine Or.inr (joins_i (o2 = Sum.inr (outR o2)) [] [] 0 ?_ (fun hR => ?_))
  · conv => whnf
    refine Or.inl ?_
    conv => whnf
    refine loops_i (α := (Nat × Int × Int)) (fun xq => ((5, (AV.int IntKind.u64 xq.2.1)) :: ((8, (AV.sl (List.map (cInt IntKind.u8) b))) :: ((9, (AV.int IntKind.i64 (@Nat.cast Int instNatCastInt (List.length (List.map (cInt IntKind.u8) b))))) :: ((10, (AV.int IntKind.i64 xq.2.2)) :: []))))) (fun xq => []) 0 (fun xq => code_take_l0 F b xq.1 xq.2.1 xq.2.2 = some o2) (fun xq => xq.1) (F, (0 : Int), (0 : Int)) [] h2 rfl rfl rfl ?_
    rintro ⟨n_10, n_11, t10_12⟩ h2
    replace h2 : code_take_l0 F b n_10 n_11 t10_12 = some o2 := h2
    cases n_10 with
    | zero => rw [code_take_l0.eq_1] at h2; cases h2
    | succ n_10 =>
      rw [code_take_l0.eq_2] at h2
      conv => whnf
      refine Or.inl ?_
      conv => whnf
      refine brn_i (fun hb => ?_) (fun hb => ?_)
      · replace h2 := cond_t h2 (by first | exact hb | (simp; done) | simpa using hb | simpa [chunk] using hb | (simp [chunk] at hb ⊢; omega))
        conv => whnf
        refine Or.inl ?_
        conv => whnf
        obtain ⟨hg, h2⟩ := grd_e h2
        refine And.intro hg ?_
        conv => whnf
        obtain ⟨y_15, hy, h2⟩ := bind_e h2
        refine opt_i ((cInt IntKind.u8) y_15) (getE rfl hy) ?_
        conv => whnf
        obtain ⟨t28_16, h6, k6⟩ := bind_e h2
        refine Or.inr (joins_i True ((5, (AV.int IntKind.u64 n_11)) :: ((6, (AV.int IntKind.i64 t10_12)) :: ((7, (AV.int IntKind.u8 y_15)) :: ((8, (AV.sl (List.map (cInt IntKind.u8) b))) :: ((9, (AV.int IntKind.i64 (@Nat.cast Int instNatCastInt (List.length (List.map (cInt IntKind.u8) b))))) :: ((10, (AV.int IntKind.i64 t10_12)) :: ((28, (AV.bool t28_16)) :: []))))))) [] 0 ?_ (fun _ => ?_))
        · conv => whnf
          refine Or.inl ?_
          conv => whnf
          refine brn_i (fun hb => ?_) (fun hb => ?_)
          · replace h6 := cond_t h6 hb
            conv => whnf
            refine brn_i (fun hb => ?_) (fun hb => ?_)
            · replace h6 := cond_t h6 hb
              conv => whnf
              obtain rfl := Option.some.inj h6
              exact end_i trivial [] rfl rfl rfl
            · replace h6 := cond_f h6 hb
              conv => whnf
              refine brn_i (fun hb => ?_) (fun hb => ?_)
              · replace h6 := cond_t h6 hb
                conv => whnf
                obtain rfl := Option.some.inj h6
                exact end_i trivial [] rfl rfl rfl
              · replace h6 := cond_f h6 hb
                conv => whnf
                obtain rfl := Option.some.inj h6
                exact end_i trivial [] rfl rfl rfl
          · replace h6 := cond_f h6 hb
            conv => whnf
            refine brn_i (fun hb => ?_) (fun hb => ?_)
            · replace h6 := cond_t h6 hb
              conv => whnf
              obtain rfl := Option.some.inj h6
              exact end_i trivial [] rfl rfl rfl
            · replace h6 := cond_f h6 hb
              conv => whnf
              obtain rfl := Option.some.inj h6
              exact end_i trivial [] rfl rfl rfl
        · conv => whnf
          refine Or.inl ?_
          conv => whnf
          refine brn_i (fun hb => ?_) (fun hb => ?_)
          · replace k6 := cond_t k6 hb
            conv => whnf
            obtain rfl := Option.some.inj k6
            obtain rfl := Option.some.inj k2
            exact rfl
          · replace k6 := cond_f k6 hb
            conv => whnf
            obtain ⟨hg, k6⟩ := grd_e k6
            refine And.intro hg ?_
            conv => whnf
            refine Or.inl ?_
            conv => whnf
            refine brn_i (fun hb => ?_) (fun hb => ?_)
            · replace k6 := cond_t k6 hb
              conv => whnf
              obtain rfl := Option.some.inj k6
              obtain rfl := Option.some.inj k2
              exact rfl
            · replace k6 := cond_f k6 hb
              conv => whnf
              exact round_i (n_10, (@ibits BinOp.or IntKind.u64 n_11 (IntKind.wrap IntKind.u64 ((IntKind.wrap IntKind.u64 (@ibits BinOp.and IntKind.u8 y_15 (127 : Int))) * ((2 : Int) ^ (min (Int.toNat (IntKind.wrap IntKind.i64 ((7 : Int) * t10_12))) 64))))), (IntKind.wrap IntKind.i64 (t10_12 + (1 : Int)))) [] k6 (Nat.lt_succ_self _) rfl rfl rfl
      · replace h2 := cond_f h2 (by first | exact hb | (simp; done) | simpa using hb | simpa [chunk] using hb | (simp [chunk] at hb ⊢; omega))
        conv => whnf
        obtain rfl := Option.some.inj h2
        exact end_i rfl [] rfl rfl rfl
  · replace k2 := elim_e hR k2
    generalize outR o2 = v at k2 ⊢
    conv => whnf
    obtain rfl := Option.some.inj k2
    exact rfl

theorem crc_New_FC0 {ml : Gv} (F : Nat) (r : Unit) (h : crc_New F = some r) : FC Tryz.prog (GM ml) 60 [] [] (AV.ptr 0 0 0) ((0, (AO.rows true ((@crow (0 : Int) (0 : Int) (0 : Int) tab0) :: []))) :: []) := by
  exact new_FC

theorem __crc_Table__Sum_FC0 {ml : Gv} (F : Nat) (b : (List Int)) (r : Int) (h : __crc_Table__Sum F b = some r) : FC Tryz.prog (GM ml) 61 ((0, (AO.rows true ((@crow (0 : Int) (0 : Int) (0 : Int) tab0) :: []))) :: []) [(AV.ptr 0 0 0), (AV.sl (List.map (cInt IntKind.u8) b))] (AV.int IntKind.u32 r) [] := by
  unfold __crc_Table__Sum at h
  obtain ⟨hg, h⟩ := grd_e h
  obtain rfl := Option.some.inj h
  exact sum_FC b hg

theorem code_Unframe_FC {ml : Gv} (F : Nat) (b : (List Int)) (r : ((List Int) × Int × Int)) (h : code_Unframe F b = some r) : FC Tryz.prog (GM ml) 38 [] [(AV.sl (List.map (cInt IntKind.u8) b))] (.tup [(.sl (List.map (cInt IntKind.u8) r.1)), (.int IntKind.i64 r.2.1), (.int IntKind.i64 r.2.2)]) [] := by
  refine FC_of 2000 Tryz.func38 rfl (by kernel_rfl) mixed (by show 1 ≤ 73; decide) ?_
  unfold code_Unframe at h
  conv => whnf
  refine Or.inl ?_
  conv => whnf
  obtain ⟨y_0, hy, h⟩ := bind_e h
  refine ⟨_, _, (code_take_FC F b y_0 hy), Or.inl ⟨rfl, rfl, ?_⟩⟩
  conv => whnf
  refine Or.inl ?_
  conv => whnf
  refine brn_i (fun hb => ?_) (fun hb => ?_)
  · replace h := cond_t h hb
    conv => whnf
    obtain rfl := Option.some.inj h
    exact rfl
  · replace h := cond_f h hb
    conv => whnf
    refine Or.inl ?_
    conv => whnf
    refine brn_i (fun hb => ?_) (fun hb => ?_)
    · replace h := cond_t h hb
      conv => whnf
      obtain rfl := Option.some.inj h
      exact rfl
    · replace h := cond_f h hb
      conv => whnf
      refine Or.inl ?_
      conv => whnf
      refine brn_i (fun hb => ?_) (fun hb => ?_)
      · replace h := cond_t h (by first | exact hb | (simp; done) | simpa using hb | simpa [chunk] using hb | (simp [chunk] at hb ⊢; omega))
        conv => whnf
        obtain rfl := Option.some.inj h
        exact rfl
      · replace h := cond_f h (by first | exact hb | (simp; done) | simpa using hb | simpa [chunk] using hb | (simp [chunk] at hb ⊢; omega))
        conv => whnf
        obtain ⟨hg, h⟩ := grd_e h
        refine And.intro hg ?_
        conv => whnf
        obtain ⟨y_1, hy, h⟩ := bind_e h
        refine opt_i ((cInt IntKind.u8) y_1) (getE rfl hy) ?_
        conv => whnf
        obtain ⟨hg, h⟩ := grd_e h
        refine And.intro hg ?_
        conv => whnf
        obtain ⟨y_2, hy, h⟩ := bind_e h
        refine opt_i ((cInt IntKind.u8) y_2) (getE rfl hy) ?_
        conv => whnf
        refine And.intro (by decide) ?_
        conv => whnf
        obtain ⟨hg, h⟩ := grd_e h
        refine And.intro hg ?_
        conv => whnf
        obtain ⟨y_3, hy, h⟩ := bind_e h
        refine opt_i ((cInt IntKind.u8) y_3) (getE rfl hy) ?_
        conv => whnf
        refine And.intro (by decide) ?_
        conv => whnf
        obtain ⟨hg, h⟩ := grd_e h
        refine And.intro hg ?_
        conv => whnf
        obtain ⟨y_4, hy, h⟩ := bind_e h
        refine opt_i ((cInt IntKind.u8) y_4) (getE rfl hy) ?_
        conv => whnf
        refine And.intro (by decide) ?_
        conv => whnf
        refine And.intro (by kernel_rfl) ?_
        conv => whnf
        refine Or.inl ?_
        conv => whnf
        obtain ⟨y_5, hy, h⟩ := bind_e h
        refine ⟨_, _, (crc_New_FC0 F y_5 hy), Or.inr ⟨[], rfl, ?_⟩⟩
        conv => whnf
        refine And.intro trivial ?_
        conv => whnf
        obtain ⟨hg, h⟩ := grd_e h
        refine And.intro hg ?_
        conv => whnf
        obtain ⟨hg, h⟩ := grd_e h
        refine And.intro hg ?_
        conv => whnf
        obtain ⟨hg, h⟩ := grd_e h
        refine And.intro (by first | exact hg | (simp; done) | simpa using hg | simpa [chunk] using hg | (simp [chunk] at hg ⊢; omega)) ?_
        conv => whnf
        obtain ⟨y_6, hy, h⟩ := bind_e h
        refine Or.inr (callG_i [456] (__crc_Table__Sum_FC0 F (List.take (Int.toNat (IntKind.wrap IntKind.i64 (y_0.2.1 + (IntKind.wrap IntKind.i64 y_0.1)))) b) y_6 hy) rfl rfl rfl (cons2 rfl (cons2 (congrArg AV.sl (by first | (simp; done) | rfl | (rw [List.map_append]; rfl) | (simp [outR]; done) | (simp only [outR, Sum.elim_inr, id, List.map_append, List.map_map]; rfl))) rfl)) ?_)
        conv => whnf
        refine And.intro (by kernel_rfl) ?_
        conv => whnf
        refine Or.inl ?_
        conv => whnf
        refine brn_i (fun hb => ?_) (fun hb => ?_)
        · replace h := cond_t h hb
          conv => whnf
          obtain rfl := Option.some.inj h
          exact rfl
        · replace h := cond_f h hb
          conv => whnf
          refine And.intro (LenAll.map (fun _ => rfl)) ?_
          conv => whnf
          obtain ⟨hg, h⟩ := grd_e h
          refine And.intro hg ?_
          conv => whnf
          obtain ⟨hg, h⟩ := grd_e h
          refine And.intro hg ?_
          conv => whnf
          obtain ⟨hg, h⟩ := grd_e h
          refine And.intro hg ?_
          conv => whnf
          obtain ⟨hg, h⟩ := grd_e h
          refine And.intro (by first | exact hg | (simp; done) | simpa using hg | simpa [chunk] using hg | (simp [chunk] at hg ⊢; omega)) ?_
          conv => whnf
          refine Or.inl ?_
          conv => whnf
          obtain ⟨y_7, hy, h⟩ := bind_e h
          refine ⟨_, _, (FC_arg2 (cons2 (congrArg AV.sl (by first | (simp; done) | rfl | (rw [List.map_append]; rfl) | (simp [outR]; done) | (simp only [outR, Sum.elim_inr, id, List.map_append, List.map_map]; rfl))) rfl) (FC_close (slices_Clone___byte_byte__FC0 F (List.drop (Int.toNat y_0.2.1) (List.take (Int.toNat (IntKind.wrap IntKind.i64 (y_0.2.1 + (IntKind.wrap IntKind.i64 y_0.1)))) b)) y_7 hy) rfl)), Or.inr ⟨[], rfl, ?_⟩⟩
          conv => whnf
          obtain rfl := Option.some.inj h
          exact rfl

theorem code_field_FC {ml : Gv} (F : Nat) (kind : Int) (b : (List Int)) (r : (api_Field × Int × Int)) (h : code_field F kind b = some r) : FC Tryz.prog (GM ml) 62 [] [(AV.int IntKind.i64 kind), (AV.sl (List.map (cInt IntKind.u8) b))] (.tup [(.agg (api_Field.c r.1)), (.int IntKind.i64 r.2.1), (.int IntKind.i64 r.2.2)]) [] := by
  refine FC_of 2000 Tryz.func62 rfl (by kernel_rfl) mixed (by show 2 ≤ 81; decide) ?_
  unfold code_field at h
  conv => whnf
  obtain ⟨t22_0, h0, k0⟩ := bind_e h
  refine Or.inr (joins_i True ((0, (AV.int IntKind.i64 kind)) :: ((1, (AV.sl (List.map (cInt IntKind.u8) b))) :: ((4, (AV.ptr 0 0 0)) :: ((7, (AV.ptr 1 0 0)) :: ((22, (AV.bool t22_0)) :: []))))) ((0, (AO.rows false (((AV.int IntKind.i64 (0 : Int)) :: ((AV.int IntKind.i64 (0 : Int)) :: ((AV.str ([] : List UInt8)) :: []))) :: []))) :: ((1, (AO.rows false (((AV.int IntKind.i64 kind) :: ((AV.int IntKind.i64 (0 : Int)) :: ((AV.str ([] : List UInt8)) :: []))) :: []))) :: [])) 2 ?_ (fun _ => ?_))
  · conv => whnf
    refine Or.inl ?_
    conv => whnf
    refine brn_i (fun hb => ?_) (fun hb => ?_)
    · replace h0 := cond_t h0 hb
      conv => whnf
      refine brn_i (fun hb => ?_) (fun hb => ?_)
      · replace h0 := cond_t h0 hb
        conv => whnf
        obtain rfl := Option.some.inj h0
        exact end_i trivial [(0, 8), (1, 48)] rfl rfl rfl
      · replace h0 := cond_f h0 hb
        conv => whnf
        obtain rfl := Option.some.inj h0
        exact end_i trivial [(0, 8), (1, 48)] rfl rfl rfl
    · replace h0 := cond_f h0 hb
      conv => whnf
      obtain rfl := Option.some.inj h0
      exact end_i trivial [(0, 8), (1, 48)] rfl rfl rfl
  · conv => whnf
    refine Or.inl ?_
    conv => whnf
    refine brn_i (fun hb => ?_) (fun hb => ?_)
    · replace k0 := cond_t k0 hb
      conv => whnf
      obtain rfl := Option.some.inj k0
      exact rfl
    · replace k0 := cond_f k0 hb
      conv => whnf
      refine Or.inl ?_
      conv => whnf
      obtain ⟨y_1, hy, k0⟩ := bind_e k0
      refine ⟨_, _, (code_take_FC F b y_1 hy), Or.inl ⟨rfl, rfl, ?_⟩⟩
      conv => whnf
      refine Or.inl ?_
      conv => whnf
      refine brn_i (fun hb => ?_) (fun hb => ?_)
      · replace k0 := cond_t k0 hb
        conv => whnf
        obtain rfl := Option.some.inj k0
        exact rfl
      · replace k0 := cond_f k0 hb
        conv => whnf
        obtain ⟨o1, h1, k1⟩ := bind_e k0
        refine Or.inr (joins_i (o1 = Sum.inr (outR o1)) ((4, (AV.ptr 0 0 0)) :: ((7, (AV.ptr 1 0 0)) :: ((9, (AV.int IntKind.i64 (outR o1).1)) :: []))) ((0, (AO.rows false (((AV.int IntKind.i64 (0 : Int)) :: ((AV.int IntKind.i64 (0 : Int)) :: ((AV.str ([] : List UInt8)) :: []))) :: []))) :: ((1, (AO.rows false (((AV.int IntKind.i64 kind) :: ((AV.int IntKind.i64 (outR o1).2.1) :: ((AV.str (outR o1).2.2) :: []))) :: []))) :: [])) 2 ?_ (fun hR => ?_))
        · conv => whnf
          refine Or.inl ?_
          conv => whnf
          refine Or.inl ?_
          conv => whnf
          refine brn_i (fun hb => ?_) (fun hb => ?_)
          · replace h1 := cond_t h1 hb
            conv => whnf
            refine And.intro (by decide) ?_
            conv => whnf
            refine Or.inl ?_
            conv => whnf
            refine brn_i (fun hb => ?_) (fun hb => ?_)
            · replace h1 := cond_t h1 hb
              conv => whnf
              obtain rfl := Option.some.inj h1
              obtain rfl := Option.some.inj k1
              exact rfl
            · replace h1 := cond_f h1 hb
              conv => whnf
              obtain rfl := Option.some.inj h1
              exact end_i rfl [(0, 0), (1, 1)] rfl rfl rfl
          · replace h1 := cond_f h1 hb
            conv => whnf
            refine Or.inl ?_
            conv => whnf
            refine brn_i (fun hb => ?_) (fun hb => ?_)
            · replace h1 := cond_t h1 hb
              conv => whnf
              refine And.intro (by decide) ?_
              conv => whnf
              obtain rfl := Option.some.inj h1
              exact end_i rfl [(0, 0), (1, 1)] rfl rfl rfl
            · replace h1 := cond_f h1 hb
              conv => whnf
              refine Or.inl ?_
              conv => whnf
              refine brn_i (fun hb => ?_) (fun hb => ?_)
              · replace h1 := cond_t h1 hb
                conv => whnf
                obtain rfl := Option.some.inj h1
                obtain rfl := Option.some.inj k1
                exact rfl
              · replace h1 := cond_f h1 hb
                conv => whnf
                refine Or.inl ?_
                conv => whnf
                refine brn_i (fun hb => ?_) (fun hb => ?_)
                · replace h1 := cond_t h1 (by first | exact hb | (simp; done) | simpa using hb | simpa [chunk] using hb | (simp [chunk] at hb ⊢; omega))
                  conv => whnf
                  obtain rfl := Option.some.inj h1
                  obtain rfl := Option.some.inj k1
                  exact rfl
                · replace h1 := cond_f h1 (by first | exact hb | (simp; done) | simpa using hb | simpa [chunk] using hb | (simp [chunk] at hb ⊢; omega))
                  conv => whnf
                  refine And.intro (LenAll.map (fun _ => rfl)) ?_
                  conv => whnf
                  obtain ⟨hg, h1⟩ := grd_e h1
                  refine And.intro hg ?_
                  conv => whnf
                  obtain ⟨hg, h1⟩ := grd_e h1
                  refine And.intro hg ?_
                  conv => whnf
                  obtain ⟨hg, h1⟩ := grd_e h1
                  refine And.intro hg ?_
                  conv => whnf
                  obtain ⟨hg, h1⟩ := grd_e h1
                  refine And.intro (by first | exact hg | (simp; done) | simpa using hg | simpa [chunk] using hg | (simp [chunk] at hg ⊢; omega)) ?_
                  conv => whnf
                  obtain ⟨hg, h1⟩ := bytes_e h1
                  refine ⟨_, bytes_eq2 (by first | (simp; done) | rfl | (rw [List.map_append]; rfl)) hg, ?_⟩
                  conv => whnf
                  obtain rfl := Option.some.inj h1
                  exact end_i rfl [(0, 0), (1, 1)] rfl rfl rfl
        · replace k1 := elim_e hR k1
          generalize outR o1 = v at k1 ⊢
          obtain ⟨size_2, c_3, c_4⟩ := v
          conv => whnf
          obtain rfl := Option.some.inj k1
          exact rfl

theorem code_Decode_FC0 {ml : Gv} (F : Nat) (kinds : (List Int)) (b : (List Int)) (r : (Int × (List api_Field))) (h : code_Decode F kinds b = some r) : FC Tryz.prog (GM ml) 39 [] [(AV.sl (List.map (cInt IntKind.i64) kinds)), (AV.sl (List.map (cInt IntKind.u8) b))] (AV.tup ((AV.osw 0 3) :: ((AV.int IntKind.i64 r.1) :: []))) ((0, (AO.rows true (List.map api_Field.c r.2))) :: []) := by
  refine FC_ofG 2000 Tryz.func39 rfl (by kernel_rfl) mixed (by show 2 ≤ 40; decide) (by show 0 ≤ W; decide) rfl ?_
  unfold code_Decode at h
  conv => whnf
  obtain ⟨o0, h0, k0⟩ := bind_e h
  refine Or.inr (joins_i (o0 = Sum.inr (outR o0)) ((1, (AV.sl (List.map (cInt IntKind.u8) (outR o0).1))) :: ((6, (AV.osw 0 3)) :: [])) ((0, (AO.rows true (List.map api_Field.c (outR o0).2))) :: []) 1 ?_ (fun hR => ?_))
  · conv => whnf
    refine Or.inl ?_
    conv => whnf
    refine loops_i (α := (Nat × (List Int) × Int × (List api_Field))) (fun xq => ((1, (AV.sl (List.map (cInt IntKind.u8) xq.2.1))) :: ((6, (AV.osw 0 3)) :: ((12, (AV.sl (List.map (cInt IntKind.i64) kinds))) :: ((13, (AV.int IntKind.i64 (@Nat.cast Int instNatCastInt (List.length (List.map (cInt IntKind.i64) kinds))))) :: ((14, (AV.int IntKind.i64 xq.2.2.1)) :: [])))))) (fun xq => ((0, (AO.rows true (List.map api_Field.c xq.2.2.2))) :: [])) 1 (fun xq => code_Decode_l0 F kinds xq.1 xq.2.1 xq.2.2.1 xq.2.2.2 = some o0) (fun xq => xq.1) (F, b, (0 : Int), []) [(0, 24)] h0 rfl (cons2 (congrArg (fun X => some (AO.rows true X)) (by first | (simp; done) | rfl | (rw [List.map_append]; rfl) | (simp [outR]; done) | (simp only [outR, Sum.elim_inr, id, List.map_append, List.map_map]; rfl))) rfl) rfl ?_
    rintro ⟨n_14, b_15, t14_16, l_17⟩ h0
    replace h0 : code_Decode_l0 F kinds n_14 b_15 t14_16 l_17 = some o0 := h0
    cases n_14 with
    | zero => rw [code_Decode_l0.eq_1] at h0; cases h0
    | succ n_14 =>
      rw [code_Decode_l0.eq_2] at h0
      conv => whnf
      refine Or.inl ?_
      conv => whnf
      refine brn_i (fun hb => ?_) (fun hb => ?_)
      · replace h0 := cond_t h0 (by first | exact hb | (simp; done) | simpa using hb | simpa [chunk] using hb | (simp [chunk] at hb ⊢; omega))
        conv => whnf
        refine Or.inl ?_
        conv => whnf
        obtain ⟨hg, h0⟩ := grd_e h0
        refine And.intro hg ?_
        conv => whnf
        obtain ⟨y_20, hy, h0⟩ := bind_e h0
        refine opt_i ((cInt IntKind.i64) y_20) (getE rfl hy) ?_
        conv => whnf
        refine Or.inl ?_
        conv => whnf
        obtain ⟨y_21, hy, h0⟩ := bind_e h0
        refine ⟨_, _, (code_field_FC F y_20 b_15 y_21 hy), Or.inl ⟨rfl, rfl, ?_⟩⟩
        conv => whnf
        refine Or.inl ?_
        conv => whnf
        refine brn_i (fun hb => ?_) (fun hb => ?_)
        · replace h0 := cond_t h0 hb
          conv => whnf
          obtain rfl := Option.some.inj h0
          obtain rfl := Option.some.inj k0
          exact endG_i [(0, 145)] rfl (cons2 (congrArg (fun X => some (AO.rows true X)) (by first | (simp; done) | rfl | (rw [List.map_append]; rfl) | (simp [outR]; done) | (simp only [outR, Sum.elim_inr, id, List.map_append, List.map_map]; rfl))) rfl) rfl
        · replace h0 := cond_f h0 hb
          conv => whnf
          refine Or.inl ?_
          conv => whnf
          refine And.intro (LenAll.cons rfl LenAll.nil) ?_
          conv => whnf
          refine And.intro (LenAll.map (fun _ => rfl)) ?_
          conv => whnf
          obtain ⟨hg, h0⟩ := grd_e h0
          refine And.intro (by first | exact hg | (simp; done) | simpa using hg | simpa [chunk] using hg | (simp [chunk] at hg ⊢; omega)) ?_
          conv => whnf
          refine And.intro (LenAll.map (fun _ => rfl)) ?_
          conv => whnf
          obtain ⟨hg, h0⟩ := grd_e h0
          refine And.intro hg ?_
          conv => whnf
          obtain ⟨hg, h0⟩ := grd_e h0
          refine And.intro (by first | exact hg | (simp; done) | simpa using hg | simpa [chunk] using hg | (simp [chunk] at hg ⊢; omega)) ?_
          conv => whnf
          obtain ⟨hg, h0⟩ := grd_e h0
          refine And.intro (by first | exact hg | (simp; done) | simpa using hg | simpa [chunk] using hg | (simp [chunk] at hg ⊢; omega)) ?_
          conv => whnf
          exact round_i (n_14, (List.drop (Int.toNat y_21.2.1) b_15), (IntKind.wrap IntKind.i64 (t14_16 + (1 : Int))), (l_17 ++ (y_21.1 :: []))) [(0, 161)] h0 (Nat.lt_succ_self _) (cons2 (congrArg AV.sl (by first | (simp; done) | rfl | (rw [List.map_append]; rfl) | (simp [outR]; done) | (simp only [outR, Sum.elim_inr, id, List.map_append, List.map_map]; rfl))) rfl) (cons2 (congrArg (fun X => some (AO.rows true X)) (by first | (simp; done) | rfl | (rw [List.map_append]; rfl) | (simp [outR]; done) | (simp only [outR, Sum.elim_inr, id, List.map_append, List.map_map]; rfl))) rfl) rfl
      · replace h0 := cond_f h0 (by first | exact hb | (simp; done) | simpa using hb | simpa [chunk] using hb | (simp [chunk] at hb ⊢; omega))
        conv => whnf
        obtain rfl := Option.some.inj h0
        exact end_i rfl [(0, 0)] rfl rfl rfl
  · replace k0 := elim_e hR k0
    generalize outR o0 = v at k0 ⊢
    obtain ⟨b_8, l_9⟩ := v
    conv => whnf
    refine Or.inl ?_
    conv => whnf
    refine brn_i (fun hb => ?_) (fun hb => ?_)
    · replace k0 := cond_t k0 (by first | exact hb | (simp; done) | simpa using hb | simpa [chunk] using hb | (simp [chunk] at hb ⊢; omega))
      conv => whnf
      obtain rfl := Option.some.inj k0
      exact endG_i [(0, 25)] rfl (cons2 (congrArg (fun X => some (AO.rows true X)) (by first | (simp; done) | rfl | (rw [List.map_append]; rfl) | (simp [outR]; done) | (simp only [outR, Sum.elim_inr, id, List.map_append, List.map_map]; rfl))) rfl) rfl
    · replace k0 := cond_f k0 (by first | exact hb | (simp; done) | simpa using hb | simpa [chunk] using hb | (simp [chunk] at hb ⊢; omega))
      conv => whnf
      obtain rfl := Option.some.inj k0
      exact endG_i [(0, 0)] rfl rfl rfl

theorem wal_read_FC0 {ml : Gv} (F : Nat) (b : (List Int)) (r : (Int × Bool × (List (List Int)))) (h : wal_read F b = some r) : FC Tryz.prog (GM ml) 23 [] [(AV.sl (List.map (cInt IntKind.u8) b))] (AV.tup ((AV.osw 0 1) :: ((AV.int IntKind.i64 r.1) :: ((AV.bool r.2.1) :: [])))) ((0, (AO.rows true (List.map (cSl (cInt IntKind.u8)) r.2.2))) :: []) := by
  refine FC_ofG 2000 Tryz.func23 rfl (by kernel_rfl) mixed (by show 1 ≤ 53; decide) (by show 0 ≤ W; decide) rfl ?_
  unfold wal_read at h
  conv => whnf
  refine Or.inl ?_
  conv => whnf
  obtain ⟨y_0, hy, h⟩ := bind_e h
  refine ⟨_, _, (code_Unframe_FC F b y_0 hy), Or.inr ⟨[], rfl, ?_⟩⟩
  conv => whnf
  refine Or.inl ?_
  conv => whnf
  refine brn_i (fun hb => ?_) (fun hb => ?_)
  · replace h := cond_t h hb
    conv => whnf
    obtain rfl := Option.some.inj h
    exact endG_i [(0, 120)] rfl (cons2 (congrArg (fun X => some (AO.rows true X)) (by first | (simp; done) | rfl | (rw [List.map_append]; rfl) | (simp [outR]; done) | (simp only [outR, Sum.elim_inr, id, List.map_append, List.map_map]; rfl))) rfl) rfl
  · replace h := cond_f h hb
    conv => whnf
    refine Or.inl ?_
    conv => whnf
    refine Or.inl ?_
    conv => whnf
    obtain ⟨y_1, hy, h⟩ := bind_e h
    refine ⟨_, _, (FC_arg2 (cons2 (congrArg AV.sl (by first | (simp; done) | rfl | (rw [List.map_append]; rfl) | (simp [outR]; done) | (simp only [outR, Sum.elim_inr, id, List.map_append, List.map_map]; rfl))) rfl) (FC_close (code_Decode_FC0 F ((1 : Int) :: []) y_0.1 y_1 hy) rfl)), Or.inr ⟨[120], rfl, ?_⟩⟩
    conv => whnf
    refine Or.inl ?_
    conv => whnf
    refine brn_i (fun hb => ?_) (fun hb => ?_)
    · replace h := cond_t h hb
      conv => whnf
      obtain rfl := Option.some.inj h
      exact endG_i [(0, 200)] rfl (cons2 (congrArg (fun X => some (AO.rows true X)) (by first | (simp; done) | rfl | (rw [List.map_append]; rfl) | (simp [outR]; done) | (simp only [outR, Sum.elim_inr, id, List.map_append, List.map_map]; rfl))) rfl) rfl
    · replace h := cond_f h hb
      conv => whnf
      refine Or.inl ?_
      conv => whnf
      refine loops_i (α := (Nat × Int × (List (List Int)))) (fun xq => ((0, (AV.sl (List.map (cInt IntKind.u8) b))) :: ((2, (AV.osw 0 1)) :: ((3, (AV.int IntKind.i64 xq.2.1)) :: ((7, (AV.sl (List.map api_Field.c y_1.2))) :: []))))) (fun xq => ((0, (AO.rows true (List.map (cSl (cInt IntKind.u8)) xq.2.2))) :: [])) 1 (fun xq => wal_read_l0 F b y_1 xq.1 xq.2.1 xq.2.2 = some r) (fun xq => xq.1) (F, y_0.2.1, []) [(0, 8)] h rfl (cons2 (congrArg (fun X => some (AO.rows true X)) (by first | (simp; done) | rfl | (rw [List.map_append]; rfl) | (simp [outR]; done) | (simp only [outR, Sum.elim_inr, id, List.map_append, List.map_map]; rfl))) rfl) rfl ?_
      rintro ⟨n_6, size_7, l_8⟩ h
      replace h : wal_read_l0 F b y_1 n_6 size_7 l_8 = some r := h
      cases n_6 with
      | zero => rw [wal_read_l0.eq_1] at h; cases h
      | succ n_6 =>
        rw [wal_read_l0.eq_2] at h
        conv => whnf
        refine Or.inl ?_
        conv => whnf
        refine And.intro (LenAll.map (fun _ => rfl)) ?_
        conv => whnf
        obtain ⟨hg, h⟩ := grd_e h
        refine And.intro hg ?_
        conv => whnf
        obtain ⟨hg, h⟩ := grd_e h
        refine And.intro (by first | exact hg | (simp; done) | simpa using hg | simpa [chunk] using hg | (simp [chunk] at hg ⊢; omega)) ?_
        conv => whnf
        obtain ⟨hg, h⟩ := grd_e h
        refine And.intro (by first | exact hg | (simp; done) | simpa using hg | simpa [chunk] using hg | (simp [chunk] at hg ⊢; omega)) ?_
        conv => whnf
        refine Or.inl ?_
        conv => whnf
        obtain ⟨y_9, hy, h⟩ := bind_e h
        refine ⟨_, _, (FC_arg2 (cons2 (congrArg AV.sl (by first | (simp; done) | rfl | (rw [List.map_append]; rfl) | (simp [outR]; done) | (simp only [outR, Sum.elim_inr, id, List.map_append, List.map_map]; rfl))) rfl) (code_Unframe_FC F (List.drop (Int.toNat size_7) b) y_9 hy)), Or.inr ⟨[], rfl, ?_⟩⟩
        conv => whnf
        refine Or.inl ?_
        conv => whnf
        refine brn_i (fun hb => ?_) (fun hb => ?_)
        · replace h := cond_t h hb
          conv => whnf
          refine And.intro (by decide) ?_
          conv => whnf
          obtain ⟨y_10, hy, h⟩ := bind_e h
          refine opt_i (api_Field.c y_10) (getE rfl hy) ?_
          conv => whnf
          refine And.intro (by kernel_rfl) ?_
          conv => whnf
          obtain rfl := Option.some.inj h
          exact endG_i [(0, 0)] rfl rfl rfl
        · replace h := cond_f h hb
          conv => whnf
          refine Or.inl ?_
          conv => whnf
          refine And.intro (LenAll.cons rfl LenAll.nil) ?_
          conv => whnf
          refine And.intro (LenAll.map (fun _ => rfl)) ?_
          conv => whnf
          obtain ⟨hg, h⟩ := grd_e h
          refine And.intro (by first | exact hg | (simp; done) | simpa using hg | simpa [chunk] using hg | (simp [chunk] at hg ⊢; omega)) ?_
          conv => whnf
          exact round_i (n_6, (IntKind.wrap IntKind.i64 (size_7 + y_9.2.1)), (l_8 ++ (y_9.1 :: []))) [(0, 129)] h (Nat.lt_succ_self _) rfl (cons2 (congrArg (fun X => some (AO.rows true X)) (by first | (simp; done) | rfl | (rw [List.map_append]; rfl) | (simp [outR]; done) | (simp only [outR, Sum.elim_inr, id, List.map_append, List.map_map]; rfl))) rfl) rfl

theorem __disk_Disk__forget_1_FC {ml : Gv} (F : Nat) (w : disk_write) (a1 : (List UInt8)) (r : Bool) (h : __disk_Disk__forget_1 F w a1 = some r) : FC Tryz.prog (GM ml) 64 [] [(AV.agg (disk_write.c w)), (AV.rp (@cStr a1) 0)] (.bool r) [] := by
  refine FC_of 2000 Tryz.func64 rfl (by kernel_rfl) mixed (by show 2 ≤ 8; decide) ?_
  unfold __disk_Disk__forget_1 at h
  conv => whnf
  obtain rfl := Option.some.inj h
  exact rfl

theorem slices_IndexFunc___disk_write_disk_write__FC {ml : Gv} (F : Nat) (s : (List disk_write)) (f0 : (List UInt8)) (r : Int) (h : slices_IndexFunc___disk_write_disk_write_ F s f0 = some r) : FC Tryz.prog (GM ml) 92 [] [(AV.sl (List.map disk_write.c s)), (AV.fn 64 ((AV.rp (@cStr f0) 0) :: []))] (.int IntKind.i64 r) [] := by
  refine FC_of 2000 Tryz.func92 rfl (by kernel_rfl) mixed (by show 2 ≤ 19; decide) ?_
  unfold slices_IndexFunc___disk_write_disk_write_ at h
  conv => whnf
  obtain ⟨o0, h0, k0⟩ := bind_e h
  refine Or.inr (joins_i (o0 = Sum.inr (outR o0)) [] [] 0 ?_ (fun hR => ?_))
  · conv => whnf
    refine Or.inl ?_
    conv => whnf
    refine loops_i (α := (Nat × Int)) (fun xq => ((0, (AV.sl (List.map disk_write.c s))) :: ((1, (AV.fn 64 ((AV.rp ((AV.str f0) :: []) 0) :: []))) :: ((7, (AV.int IntKind.i64 (@Nat.cast Int instNatCastInt (List.length (List.map disk_write.c s))))) :: ((8, (AV.int IntKind.i64 xq.2)) :: []))))) (fun xq => []) 0 (fun xq => slices_IndexFunc___disk_write_disk_write__l0 F s f0 xq.1 xq.2 = some o0) (fun xq => xq.1) (F, (0 : Int)) [] h0 rfl rfl rfl ?_
    rintro ⟨n_12, t8_13⟩ h0
    replace h0 : slices_IndexFunc___disk_write_disk_write__l0 F s f0 n_12 t8_13 = some o0 := h0
    cases n_12 with
    | zero => rw [slices_IndexFunc___disk_write_disk_write__l0.eq_1] at h0; cases h0
    | succ n_12 =>
      rw [slices_IndexFunc___disk_write_disk_write__l0.eq_2] at h0
      conv => whnf
      refine Or.inl ?_
      conv => whnf
      refine brn_i (fun hb => ?_) (fun hb => ?_)
      · replace h0 := cond_t h0 (by first | exact hb | (simp; done) | simpa using hb | simpa [chunk] using hb | (simp [chunk] at hb ⊢; omega))
        conv => whnf
        refine Or.inl ?_
        conv => whnf
        obtain ⟨hg, h0⟩ := grd_e h0
        refine And.intro hg ?_
        conv => whnf
        obtain ⟨y_16, hy, h0⟩ := bind_e h0
        refine opt_i (disk_write.c y_16) (getE rfl hy) ?_
        conv => whnf
        refine Or.inl ?_
        conv => whnf
        obtain ⟨y_17, hy, h0⟩ := bind_e h0
        refine ⟨_, _, (__disk_Disk__forget_1_FC F y_16 f0 y_17 hy), Or.inl ⟨rfl, rfl, ?_⟩⟩
        conv => whnf
        refine Or.inl ?_
        conv => whnf
        refine brn_i (fun hb => ?_) (fun hb => ?_)
        · replace h0 := cond_t h0 hb
          conv => whnf
          obtain rfl := Option.some.inj h0
          obtain rfl := Option.some.inj k0
          exact rfl
        · replace h0 := cond_f h0 hb
          conv => whnf
          exact round_i (n_12, (IntKind.wrap IntKind.i64 (t8_13 + (1 : Int)))) [] h0 (Nat.lt_succ_self _) rfl rfl rfl
      · replace h0 := cond_f h0 (by first | exact hb | (simp; done) | simpa using hb | simpa [chunk] using hb | (simp [chunk] at hb ⊢; omega))
        conv => whnf
        obtain rfl := Option.some.inj h0
        exact end_i rfl [] rfl rfl rfl
  · replace k0 := elim_e hR k0
    generalize outR o0 = v at k0 ⊢
    conv => whnf
    obtain rfl := Option.some.inj k0
    exact rfl

theorem slices_DeleteFunc___disk_write_disk_write__FC {ml : Gv} (F : Nat) (s : (List disk_write)) (del0 : (List UInt8)) (r : (List disk_write)) (h : slices_DeleteFunc___disk_write_disk_write_ F s del0 = some r) : FC Tryz.prog (GM ml) 63 [] [(AV.sl (List.map disk_write.c s)), (AV.fn 64 ((AV.rp (@cStr del0) 0) :: []))] (.sl (List.map disk_write.c r)) [] := by
  refine FC_of 2000 Tryz.func63 rfl (by kernel_rfl) mixed (by show 2 ≤ 42; decide) ?_
  unfold slices_DeleteFunc___disk_write_disk_write_ at h
  conv => whnf
  refine Or.inl ?_
  conv => whnf
  obtain ⟨y_0, hy, h⟩ := bind_e h
  refine ⟨_, _, (slices_IndexFunc___disk_write_disk_write__FC F s del0 y_0 hy), Or.inl ⟨rfl, rfl, ?_⟩⟩
  conv => whnf
  refine Or.inl ?_
  conv => whnf
  refine brn_i (fun hb => ?_) (fun hb => ?_)
  · replace h := cond_t h hb
    conv => whnf
    obtain rfl := Option.some.inj h
    exact rfl
  · replace h := cond_f h hb
    conv => whnf
    obtain ⟨o0, h0, k0⟩ := bind_e h
    refine Or.inr (joins_i True ((0, (AV.sl (List.map disk_write.c s))) :: ((5, (AV.int IntKind.i64 y_0)) :: [])) [] 0 ?_ (fun _ => ?_))
    · conv => whnf
      refine Or.inl ?_
      conv => whnf
      refine loops_i (α := (Nat × Int)) (fun xq => ((0, (AV.sl (List.map disk_write.c s))) :: ((1, (AV.fn 64 ((AV.rp ((AV.str del0) :: []) 0) :: []))) :: ((5, (AV.int IntKind.i64 y_0)) :: ((6, (AV.int IntKind.i64 xq.2)) :: []))))) (fun xq => []) 0 (fun xq => slices_DeleteFunc___disk_write_disk_write__l0 F s del0 y_0 xq.1 xq.2 = some o0) (fun xq => xq.1) (F, (IntKind.wrap IntKind.i64 (y_0 + (1 : Int)))) [] h0 rfl rfl rfl ?_
      rintro ⟨n_22, j_23⟩ h0
      replace h0 : slices_DeleteFunc___disk_write_disk_write__l0 F s del0 y_0 n_22 j_23 = some o0 := h0
      cases n_22 with
      | zero => rw [slices_DeleteFunc___disk_write_disk_write__l0.eq_1] at h0; cases h0
      | succ n_22 =>
        rw [slices_DeleteFunc___disk_write_disk_write__l0.eq_2] at h0
        conv => whnf
        refine Or.inl ?_
        conv => whnf
        refine brn_i (fun hb => ?_) (fun hb => ?_)
        · replace h0 := cond_t h0 (by first | exact hb | (simp; done) | simpa using hb | simpa [chunk] using hb | (simp [chunk] at hb ⊢; omega))
          conv => whnf
          refine Or.inl ?_
          conv => whnf
          obtain ⟨hg, h0⟩ := grd_e h0
          refine And.intro hg ?_
          conv => whnf
          obtain ⟨y_27, hy, h0⟩ := bind_e h0
          refine opt_i (disk_write.c y_27) (getE rfl hy) ?_
          conv => whnf
          refine Or.inl ?_
          conv => whnf
          obtain ⟨y_28, hy, h0⟩ := bind_e h0
          refine ⟨_, _, (__disk_Disk__forget_1_FC F y_27 del0 y_28 hy), Or.inl ⟨rfl, rfl, ?_⟩⟩
          conv => whnf
          refine Or.inl ?_
          conv => whnf
          refine brn_i (fun hb => ?_) (fun hb => ?_)
          · replace h0 := cond_t h0 hb
            conv => whnf
            obtain ⟨hg, h0⟩ := grd_e h0
            refine And.intro hg ?_
            conv => whnf
            obtain ⟨y_30, hy, h0⟩ := bind_e h0
            refine opt_i (disk_write.c y_30) (getE rfl hy) ?_
            conv => whnf
            cases h0
          · replace h0 := cond_f h0 hb
            conv => whnf
            exact round_i (n_22, (IntKind.wrap IntKind.i64 (j_23 + (1 : Int)))) [] h0 (Nat.lt_succ_self _) rfl rfl rfl
        · replace h0 := cond_f h0 (by first | exact hb | (simp; done) | simpa using hb | simpa [chunk] using hb | (simp [chunk] at hb ⊢; omega))
          conv => whnf
          obtain rfl := Option.some.inj h0
          exact end_i trivial [] rfl rfl rfl
    · conv => whnf
      refine And.intro (LenAll.map (fun _ => rfl)) ?_
      conv => whnf
      obtain ⟨hg, k0⟩ := grd_e k0
      refine And.intro hg ?_
      conv => whnf
      obtain ⟨hg, k0⟩ := grd_e k0
      refine And.intro (by first | exact hg | (simp; done) | simpa using hg | simpa [chunk] using hg | (simp [chunk] at hg ⊢; omega)) ?_
      conv => whnf
      obtain ⟨hg, k0⟩ := grd_e k0
      refine And.intro (by first | exact hg | (simp; done) | simpa using hg | simpa [chunk] using hg | (simp [chunk] at hg ⊢; omega)) ?_
      conv => whnf
      cases k0

theorem __disk_Disk__forget_1_i1_FC0 {ml : Gv} (F : Nat) (w : disk_write) (b : (List UInt8)) (r : Bool) (h : __disk_Disk__forget_1_i1 F w b = some r) : FC Tryz.prog (GM ml) 64 ((0, (AO.rows false ((@cStr b) :: []))) :: []) [(AV.agg (disk_write.c w)), (AV.ptr 0 0 0)] (AV.bool r) ((0, (AO.rows false ((@cStr b) :: []))) :: []) := by
  refine FC_ofG 2000 Tryz.func64 rfl (by kernel_rfl) mixed (by show 2 ≤ 8; decide) (by show 1 ≤ W; decide) rfl ?_
  unfold __disk_Disk__forget_1_i1 at h
  conv => whnf
  obtain rfl := Option.some.inj h
  exact endG_i [(0, 0)] rfl rfl rfl

theorem slices_DeleteFunc___disk_write_disk_write__i1_FC0 {ml : Gv} (F : Nat) (l : (List disk_write)) (b : (List UInt8)) (r : (List disk_write)) (h : slices_DeleteFunc___disk_write_disk_write__i1 F l b = some r) : FC Tryz.prog (GM ml) 63 ((0, (AO.rows true (List.map disk_write.c l))) :: ((1, (AO.rows false ((@cStr b) :: []))) :: [])) [(AV.osw 0 2), (AV.fn 64 ((AV.ptr 1 0 0) :: []))] (AV.osw 2 2) ((1, (AO.rows false ((@cStr b) :: []))) :: ((2, (AO.rows true (List.map disk_write.c r))) :: [])) := by
  refine FC_ofG 2000 Tryz.func63 rfl (by kernel_rfl) mixed (by show 2 ≤ 42; decide) (by show 2 ≤ W; decide) rfl ?_
  unfold slices_DeleteFunc___disk_write_disk_write__i1 at h
  conv => whnf
  refine Or.inl ?_
  conv => whnf
  obtain ⟨y_0, hy, h⟩ := bind_e h
  refine ⟨_, _, (slices_IndexFunc___disk_write_disk_write__FC F l b y_0 hy), Or.inl ⟨rfl, rfl, ?_⟩⟩
  conv => whnf
  refine Or.inl ?_
  conv => whnf
  refine brn_i (fun hb => ?_) (fun hb => ?_)
  · replace h := cond_t h hb
    conv => whnf
    obtain rfl := Option.some.inj h
    exact endG_i [(1, 1), (2, 0)] rfl rfl rfl
  · replace h := cond_f h hb
    conv => whnf
    obtain ⟨o2, h2, k2⟩ := bind_e h
    refine Or.inr (joins_i True ((0, (AV.osw 0 2)) :: ((5, (AV.int IntKind.i64 o2.1)) :: [])) ((0, (AO.rows true (List.map disk_write.c o2.2))) :: ((1, (AO.rows false (((AV.str b) :: []) :: []))) :: [])) 2 ?_ (fun _ => ?_))
    · conv => whnf
      refine Or.inl ?_
      conv => whnf
      refine loops_i (α := (Nat × Int × Int × (List disk_write))) (fun xq => ((0, (AV.osw 0 2)) :: ((1, (AV.fn 64 ((AV.ptr 1 0 0) :: []))) :: ((5, (AV.int IntKind.i64 xq.2.1)) :: ((6, (AV.int IntKind.i64 xq.2.2.1)) :: []))))) (fun xq => ((0, (AO.rows true (List.map disk_write.c xq.2.2.2))) :: ((1, (AO.rows false (((AV.str b) :: []) :: []))) :: []))) 2 (fun xq => slices_DeleteFunc___disk_write_disk_write__i1_l0 F b xq.1 xq.2.1 xq.2.2.1 xq.2.2.2 = some o2) (fun xq => xq.1) (F, y_0, (IntKind.wrap IntKind.i64 (y_0 + (1 : Int))), l) [(0, 0), (1, 1)] h2 rfl rfl rfl ?_
      rintro ⟨n_24, i_25, j_26, l_27⟩ h2
      replace h2 : slices_DeleteFunc___disk_write_disk_write__i1_l0 F b n_24 i_25 j_26 l_27 = some o2 := h2
      cases n_24 with
      | zero => rw [slices_DeleteFunc___disk_write_disk_write__i1_l0.eq_1] at h2; cases h2
      | succ n_24 =>
        rw [slices_DeleteFunc___disk_write_disk_write__i1_l0.eq_2] at h2
        conv => whnf
        refine Or.inl ?_
        conv => whnf
        refine brn_i (fun hb => ?_) (fun hb => ?_)
        · replace h2 := cond_t h2 (by first | exact hb | (simp; done) | simpa using hb | simpa [chunk] using hb | (simp [chunk] at hb ⊢; omega))
          conv => whnf
          obtain ⟨o4, h4, k4⟩ := bind_e h2
          refine Or.inr (joins_i True ((0, (AV.osw 0 2)) :: ((1, (AV.fn 64 ((AV.ptr 1 0 0) :: []))) :: ((5, (AV.int IntKind.i64 o4.1)) :: ((6, (AV.int IntKind.i64 j_26)) :: [])))) ((0, (AO.rows true (List.map disk_write.c o4.2))) :: ((1, (AO.rows false (((AV.str b) :: []) :: []))) :: [])) 2 ?_ (fun _ => ?_))
          · conv => whnf
            refine Or.inl ?_
            conv => whnf
            obtain ⟨hg, h4⟩ := grd_e h4
            refine And.intro hg ?_
            conv => whnf
            obtain ⟨y_35, hy, h4⟩ := bind_e h4
            refine opt_i (disk_write.c y_35) (getE rfl hy) ?_
            conv => whnf
            obtain ⟨y_36, hy, h4⟩ := bind_e h4
            refine opt_i (disk_write.c y_36) (getE rfl hy) ?_
            conv => whnf
            obtain ⟨y_37, hy, h4⟩ := bind_e h4
            refine Or.inr (callG_i [1] (__disk_Disk__forget_1_i1_FC0 F y_36 b y_37 hy) rfl rfl rfl rfl ?_)
            conv => whnf
            refine Or.inl ?_
            conv => whnf
            refine brn_i (fun hb => ?_) (fun hb => ?_)
            · replace h4 := cond_t h4 hb
              conv => whnf
              obtain ⟨hg, h4⟩ := grd_e h4
              refine And.intro hg ?_
              conv => whnf
              obtain ⟨y_38, hy, h4⟩ := bind_e h4
              refine opt_i (disk_write.c y_38) (getE rfl hy) ?_
              conv => whnf
              obtain ⟨y_39, hy, h4⟩ := bind_e h4
              refine opt_i (disk_write.c y_39) (getE rfl hy) ?_
              conv => whnf
              obtain rfl := Option.some.inj h4
              exact end_i trivial [(0, 0), (1, 1)] rfl (cons2 (congrArg (fun X => some (AO.rows true X)) (by first | (simp; done) | rfl | (rw [List.map_append]; rfl) | (simp [outR]; done) | (simp only [outR, Sum.elim_inr, id, List.map_append, List.map_map]; rfl))) rfl) rfl
            · replace h4 := cond_f h4 hb
              conv => whnf
              obtain rfl := Option.some.inj h4
              exact end_i trivial [(0, 0), (1, 1)] rfl rfl rfl
          · obtain ⟨i_33, l_34⟩ := o4
            conv => whnf
            exact round_i (n_24, i_33, (IntKind.wrap IntKind.i64 (j_26 + (1 : Int))), l_34) [(0, 0), (1, 1)] k4 (Nat.lt_succ_self _) rfl rfl rfl
        · replace h2 := cond_f h2 (by first | exact hb | (simp; done) | simpa using hb | simpa [chunk] using hb | (simp [chunk] at hb ⊢; omega))
          conv => whnf
          obtain rfl := Option.some.inj h2
          exact end_i trivial [(0, 0), (1, 1)] rfl rfl rfl
    · obtain ⟨i_15, l_16⟩ := o2
      conv => whnf
      refine And.intro (LenAll.map (fun _ => rfl)) ?_
      conv => whnf
      refine Or.inl ?_
      conv => whnf
      obtain ⟨hg, k2⟩ := grd_e k2
      refine And.intro hg ?_
      conv => whnf
      obtain ⟨hg, k2⟩ := grd_e k2
      refine And.intro (by first | exact hg | (simp; done) | simpa using hg | simpa [chunk] using hg | (simp [chunk] at hg ⊢; omega)) ?_
      conv => whnf
      obtain ⟨hg, k2⟩ := grd_e k2
      refine And.intro (by first | exact hg | (simp; done) | simpa using hg | simpa [chunk] using hg | (simp [chunk] at hg ⊢; omega)) ?_
      conv => whnf
      refine And.intro (LenAll.map (fun _ => rfl)) ?_
      conv => whnf
      obtain ⟨hg, k2⟩ := grd_e k2
      refine And.intro (by first | exact hg | (simp; done) | simpa using hg | simpa [chunk] using hg | (simp [chunk] at hg ⊢; omega)) ?_
      conv => whnf
      refine And.intro (LenAll.append (LenAll.take (LenAll.map (fun _ => rfl))) (LenAll.append (LenAll.replicate rfl) (LenAll.drop (LenAll.map (fun _ => rfl))))) ?_
      conv => whnf
      refine Or.inr ?_
      conv => whnf
      refine ⟨_, _, rfl, rfl, rfl, rfl, ?_⟩
      conv => whnf
      obtain ⟨hg, k2⟩ := grd_e k2
      refine And.intro hg ?_
      conv => whnf
      obtain ⟨hg, k2⟩ := grd_e k2
      refine And.intro (by first | exact hg | (simp; done) | simpa using hg | simpa [chunk] using hg | (simp [chunk] at hg ⊢; omega)) ?_
      conv => whnf
      obtain rfl := Option.some.inj k2
      exact endG_i [(0, 0), (1, 1), (2, 50)] rfl (cons2 rfl (cons2 (congrArg (fun X => some (AO.rows true X)) (by first | (simp; done) | rfl | (rw [List.map_append]; rfl) | (simp [outR]; done) | (simp only [outR, Sum.elim_inr, id, List.map_append, List.map_map]; rfl))) rfl)) rfl

theorem __disk_Disk__forget_FC0 {ml : Gv} (F : Nat) (name : (List UInt8)) (c : Int) (fs : (List ((List UInt8) × (List Int)))) (l : (List disk_write)) (r : (Int × (List disk_write))) (h : __disk_Disk__forget F name c fs l = some r) : FC Tryz.prog (GM ml) 40 ((0, (AO.rows false (((AV.mapo 1) :: ((AV.osw 2 2) :: ((AV.int IntKind.i64 c) :: []))) :: []))) :: ((1, (AO.fmap 1 (@encF (@List UInt8) Int (fun (k_13 : (@List UInt8)) => (AV.str k_13)) (cInt IntKind.u8) fs) none)) :: ((2, (AO.rows true (List.map disk_write.c l))) :: []))) [(AV.ptr 0 0 0), (AV.str name)] (AV.tup []) ((0, (AO.rows false (((AV.mapo 1) :: ((AV.osw 3 2) :: ((AV.int IntKind.i64 r.1) :: []))) :: []))) :: ((1, (AO.fmap 1 (@encF (@List UInt8) Int (fun (k_13 : (@List UInt8)) => (AV.str k_13)) (cInt IntKind.u8) fs) none)) :: ((3, (AO.rows true (List.map disk_write.c r.2))) :: []))) := by
  refine FC_ofG 2000 Tryz.func40 rfl (by kernel_rfl) mixed (by show 2 ≤ 13; decide) (by show 3 ≤ W; decide) rfl ?_
  unfold __disk_Disk__forget at h
  conv => whnf
  obtain ⟨y_0, hy, h⟩ := bind_e h
  refine Or.inr (callG_i [2, 8] (slices_DeleteFunc___disk_write_disk_write__i1_FC0 F l name y_0 hy) rfl rfl rfl rfl ?_)
  conv => whnf
  obtain rfl := Option.some.inj h
  exact endG_i [(0, 0), (1, 1), (2, 2), (3, 66)] rfl rfl rfl

theorem __disk_Disk__Remove_FC0 {ml : Gv} (F : Nat) (name : (List UInt8)) (c : Int) (fs : (List ((List UInt8) × (List Int)))) (l : (List disk_write)) (r : (Int × Int × (List ((List UInt8) × (List Int))) × (List disk_write))) (h : __disk_Disk__Remove F name c fs l = some r) : FC Tryz.prog (GM ml) 24 ((0, (AO.rows false (((AV.mapo 1) :: ((AV.osw 2 2) :: ((AV.int IntKind.i64 c) :: []))) :: []))) :: ((1, (AO.fmap 1 (@encF (@List UInt8) Int (fun (k_13 : (@List UInt8)) => (AV.str k_13)) (cInt IntKind.u8) fs) none)) :: ((2, (AO.rows true (List.map disk_write.c l))) :: []))) [(AV.ptr 0 0 0), (AV.str name)] (AV.int IntKind.i64 r.1) ((0, (AO.rows false (((AV.mapo 1) :: ((AV.osw 3 2) :: ((AV.int IntKind.i64 r.2.1) :: []))) :: []))) :: ((1, (AO.fmap 1 (@encF (@List UInt8) Int (fun (k_13 : (@List UInt8)) => (AV.str k_13)) (cInt IntKind.u8) r.2.2.1) none)) :: ((3, (AO.rows true (List.map disk_write.c r.2.2.2))) :: []))) := by
  refine FC_ofG 2000 Tryz.func24 rfl (by kernel_rfl) mixed (by show 2 ≤ 34; decide) (by show 3 ≤ W; decide) rfl ?_
  unfold __disk_Disk__Remove at h
  conv => whnf
  obtain ⟨y_0, hy, h⟩ := bind_e h
  refine Or.inr (callG_i [0, 1, 2] (__disk_Disk__there_FC0 F name c fs l y_0 hy) rfl rfl rfl rfl ?_)
  conv => whnf
  obtain ⟨o0, h0, k0⟩ := bind_e h
  refine Or.inr (joins_i True ((5, (AV.int IntKind.i64 y_0)) :: []) ((0, (AO.rows false (((AV.mapo 1) :: ((AV.osw 3 2) :: ((AV.int IntKind.i64 o0.1) :: []))) :: []))) :: ((1, (AO.fmap 1 (@encF (@List UInt8) Int (fun (k_13 : (@List UInt8)) => (AV.str k_13)) (cInt IntKind.u8) o0.2.1) none)) :: ((3, (AO.rows true (List.map disk_write.c o0.2.2))) :: []))) 4 ?_ (fun _ => ?_))
  · conv => whnf
    refine Or.inl ?_
    conv => whnf
    refine brn_i (fun hb => ?_) (fun hb => ?_)
    · replace h0 := cond_t h0 hb
      conv => whnf
      refine And.intro (by kernel_rfl) ?_
      conv => whnf
      refine both (b := (Option.isSome (mget name fs))) (fun hb => ?_) (fun hb => ?_)
      · replace h0 := cond_t h0 hb
        refine flook_some (ek := (fun (k_13 : (@List UInt8)) => (AV.str k_13))) (en := (cInt IntKind.u8)) fs name rfl rfl (keq_str Tryz.underlying9) hb ?_
        conv => whnf
        refine And.intro (by kernel_rfl) ?_
        conv => whnf
        refine And.intro (by kernel_rfl) ?_
        conv => whnf
        refine fdel_i (ek := (fun (k_13 : (@List UInt8)) => (AV.str k_13))) (en := (cInt IntKind.u8)) fs name rfl rfl (keq_str Tryz.underlying9) (.inr ⟨by assumption, rfl⟩) ?_
        conv => whnf
        obtain ⟨y_10, hy, h0⟩ := bind_e h0
        refine Or.inr (callG_i [0, 1, 2] (__disk_Disk__forget_FC0 F name (IntKind.wrap IntKind.i64 (c - (@Nat.cast Int instNatCastInt (List.length (List.map (cInt IntKind.u8) (Option.getD (mget name fs) [])))))) (@mdel (@List UInt8) (@List Int) (fun (a_13 : (@List UInt8)) => (fun (b_13 : (@List UInt8)) => (@instDecidableEqList UInt8 instDecidableEqUInt8 a_13 b_13))) name fs) l y_10 hy) rfl rfl rfl rfl ?_)
        conv => whnf
        obtain rfl := Option.some.inj h0
        exact end_i trivial [(0, 0), (1, 1), (2, 2), (3, 251)] rfl rfl rfl
      · replace h0 := cond_f h0 hb
        refine flook_none (ek := (fun (k_13 : (@List UInt8)) => (AV.str k_13))) (en := (cInt IntKind.u8)) fs name .esl rfl rfl (keq_str Tryz.underlying9) hb ⟨31, .esl, by kernel_rfl, by kernel_rfl, .refl _⟩ ?_
        conv => whnf
        refine And.intro (by kernel_rfl) ?_
        conv => whnf
        refine And.intro (by kernel_rfl) ?_
        conv => whnf
        refine fdel_i (ek := (fun (k_13 : (@List UInt8)) => (AV.str k_13))) (en := (cInt IntKind.u8)) fs name rfl rfl (keq_str Tryz.underlying9) (.inl rfl) ?_
        conv => whnf
        obtain ⟨y_11, hy, h0⟩ := bind_e h0
        refine Or.inr (callG_i [0, 1, 2] (__disk_Disk__forget_FC0 F name (IntKind.wrap IntKind.i64 (c - (0 : Int))) (@mdel (@List UInt8) (@List Int) (fun (a_13 : (@List UInt8)) => (fun (b_13 : (@List UInt8)) => (@instDecidableEqList UInt8 instDecidableEqUInt8 a_13 b_13))) name fs) l y_11 hy) rfl rfl rfl rfl ?_)
        conv => whnf
        obtain rfl := Option.some.inj h0
        exact end_i trivial [(0, 0), (1, 1), (2, 2), (3, 251)] rfl rfl rfl
    · replace h0 := cond_f h0 hb
      conv => whnf
      obtain rfl := Option.some.inj h0
      exact end_i trivial [(0, 0), (1, 1), (3, 2)] rfl rfl rfl
  · obtain ⟨c_7, fs_8, l_9⟩ := o0
    conv => whnf
    obtain rfl := Option.some.inj k0
    exact endG_i [(0, 0), (1, 1), (2, 2), (3, 3)] rfl rfl rfl

theorem code_put_FC {ml : Gv} (F : Nat) (b : (List Int)) (n : Int) (r : (List Int)) (h : code_put F b n = some r) : FC Tryz.prog (GM ml) 65 [] [(AV.sl (List.map (cInt IntKind.u8) b)), (AV.int IntKind.u64 n)] (.sl (List.map (cInt IntKind.u8) r)) [] := by
  refine FC_of 2000 Tryz.func65 rfl (by kernel_rfl) mixed (by show 2 ≤ 20; decide) ?_
  unfold code_put at h
  conv => whnf
  obtain ⟨o0, h0, k0⟩ := bind_e h
  refine Or.inr (joins_i True ((0, (AV.sl (List.map (cInt IntKind.u8) b))) :: ((1, (AV.int IntKind.u64 n)) :: [])) [] 0 ?_ (fun _ => ?_))
  · conv => whnf
    refine Or.inl ?_
    conv => whnf
    refine loops_i (α := Nat) (fun xq => ((0, (AV.sl (List.map (cInt IntKind.u8) b))) :: ((1, (AV.int IntKind.u64 n)) :: []))) (fun xq => []) 0 (fun xq => code_put_l0 F n xq = some o0) (fun xq => xq) F [] h0 rfl rfl rfl ?_
    rintro n_0 h0
    replace h0 : code_put_l0 F n n_0 = some o0 := h0
    cases n_0 with
    | zero => rw [code_put_l0.eq_1] at h0; cases h0
    | succ n_0 =>
      rw [code_put_l0.eq_2] at h0
      conv => whnf
      refine Or.inl ?_
      conv => whnf
      refine brn_i (fun hb => ?_) (fun hb => ?_)
      · replace h0 := cond_t h0 hb
        conv => whnf
        refine Or.inl ?_
        conv => whnf
        refine Or.inl ?_
        conv => whnf
        cases h0
      · replace h0 := cond_f h0 hb
        conv => whnf
        obtain rfl := Option.some.inj h0
        exact end_i trivial [] rfl rfl rfl
  · conv => whnf
    refine Or.inl ?_
    conv => whnf
    cases k0

theorem code_put_i1_FC0 {ml : Gv} (F : Nat) (n : Int) (l : (List Int)) (r : (List Int)) (h : code_put_i1 F n l = some r) : FC Tryz.prog (GM ml) 65 ((0, (AO.rows true (List.map (cInt IntKind.u8) l))) :: []) [(AV.osw 0 1), (AV.int IntKind.u64 n)] (AV.osw 1 1) ((1, (AO.rows true (List.map (cInt IntKind.u8) r))) :: []) := by
  refine FC_ofG 2000 Tryz.func65 rfl (by kernel_rfl) mixed (by show 2 ≤ 20; decide) (by show 1 ≤ W; decide) rfl ?_
  unfold code_put_i1 at h
  conv => whnf
  obtain ⟨o0, h0, k0⟩ := bind_e h
  refine Or.inr (joins_i True ((0, (AV.osw 1 1)) :: ((1, (AV.int IntKind.u64 o0.1)) :: [])) ((1, (AO.rows true (List.map (cInt IntKind.u8) o0.2))) :: []) 2 ?_ (fun _ => ?_))
  · conv => whnf
    refine Or.inl ?_
    conv => whnf
    refine loops_i (α := (Nat × Int × (List Int))) (fun xq => ((0, (AV.osw 1 1)) :: ((1, (AV.int IntKind.u64 xq.2.1)) :: []))) (fun xq => ((1, (AO.rows true (List.map (cInt IntKind.u8) xq.2.2))) :: [])) 2 (fun xq => code_put_i1_l0 F xq.1 xq.2.1 xq.2.2 = some o0) (fun xq => xq.1) (F, n, l) [(1, 0)] h0 rfl rfl rfl ?_
    rintro ⟨n_2, n_3, l_4⟩ h0
    replace h0 : code_put_i1_l0 F n_2 n_3 l_4 = some o0 := h0
    cases n_2 with
    | zero => rw [code_put_i1_l0.eq_1] at h0; cases h0
    | succ n_2 =>
      rw [code_put_i1_l0.eq_2] at h0
      conv => whnf
      refine Or.inl ?_
      conv => whnf
      refine brn_i (fun hb => ?_) (fun hb => ?_)
      · replace h0 := cond_t h0 hb
        conv => whnf
        refine Or.inl ?_
        conv => whnf
        refine Or.inl ?_
        conv => whnf
        refine And.intro (LenAll.cons rfl LenAll.nil) ?_
        conv => whnf
        refine And.intro (LenAll.map (fun _ => rfl)) ?_
        conv => whnf
        obtain ⟨hg, h0⟩ := grd_e h0
        refine And.intro (by first | exact hg | (simp; done) | simpa using hg | simpa [chunk] using hg | (simp [chunk] at hg ⊢; omega)) ?_
        conv => whnf
        refine And.intro (by decide) ?_
        conv => whnf
        exact round_i (n_2, (@Int.fdiv n_3 ((2 : Int) ^ (min (Int.toNat (7 : Int)) 64))), (l_4 ++ ((@ibits BinOp.or IntKind.u8 (IntKind.wrap IntKind.u8 n_3) (128 : Int)) :: []))) [(0, 0), (1, 58)] h0 (Nat.lt_succ_self _) rfl (cons2 (congrArg (fun X => some (AO.rows true X)) (by first | (simp; done) | rfl | (rw [List.map_append]; rfl) | (simp [outR]; done) | (simp only [outR, Sum.elim_inr, id, List.map_append, List.map_map]; rfl))) rfl) rfl
      · replace h0 := cond_f h0 hb
        conv => whnf
        obtain rfl := Option.some.inj h0
        exact end_i trivial [(0, 0), (1, 1)] rfl rfl rfl
  · obtain ⟨n_0, l_1⟩ := o0
    conv => whnf
    refine Or.inl ?_
    conv => whnf
    refine And.intro (LenAll.cons rfl LenAll.nil) ?_
    conv => whnf
    refine And.intro (LenAll.map (fun _ => rfl)) ?_
    conv => whnf
    obtain ⟨hg, k0⟩ := grd_e k0
    refine And.intro (by first | exact hg | (simp; done) | simpa using hg | simpa [chunk] using hg | (simp [chunk] at hg ⊢; omega)) ?_
    conv => whnf
    obtain rfl := Option.some.inj k0
    exact endG_i [(0, 0), (1, 34)] rfl (cons2 (congrArg (fun X => some (AO.rows true X)) (by first | (simp; done) | rfl | (rw [List.map_append]; rfl) | (simp [outR]; done) | (simp only [outR, Sum.elim_inr, id, List.map_append, List.map_map]; rfl))) rfl) rfl

theorem code_Encode_FC0 {ml : Gv} (F : Nat) (list : (List api_Field)) (r : (Int × (List Int))) (h : code_Encode F list = some r) : FC Tryz.prog (GM ml) 42 [] [(AV.sl (List.map api_Field.c list))] (AV.tup ((AV.osw 0 1) :: ((AV.int IntKind.i64 r.1) :: []))) ((0, (AO.rows true (List.map (cInt IntKind.u8) r.2))) :: []) := by
  refine FC_ofG 2000 Tryz.func42 rfl (by kernel_rfl) mixed (by show 1 ≤ 63; decide) (by show 0 ≤ W; decide) rfl ?_
  unfold code_Encode at h
  conv => whnf
  obtain ⟨o6, h6, k6⟩ := bind_e h
  refine Or.inr (joins_i (o6 = Sum.inr (outR o6)) ((4, (AV.osw 0 1)) :: []) ((0, (AO.rows true (List.map (cInt IntKind.u8) (outR o6)))) :: []) 1 ?_ (fun hR => ?_))
  · conv => whnf
    refine Or.inl ?_
    conv => whnf
    refine loops_i (α := (Nat × Int × (List Int))) (fun xq => ((4, (AV.osw 0 1)) :: ((7, (AV.sl (List.map api_Field.c list))) :: ((8, (AV.int IntKind.i64 (@Nat.cast Int instNatCastInt (List.length (List.map api_Field.c list))))) :: ((9, (AV.int IntKind.i64 xq.2.1)) :: []))))) (fun xq => ((0, (AO.rows true (List.map (cInt IntKind.u8) xq.2.2))) :: [])) 1 (fun xq => code_Encode_l0 F list xq.1 xq.2.1 xq.2.2 = some o6) (fun xq => xq.1) (F, (0 : Int), []) [(0, 24)] h6 rfl (cons2 (congrArg (fun X => some (AO.rows true X)) (by first | (simp; done) | rfl | (rw [List.map_append]; rfl) | (simp [outR]; done) | (simp only [outR, Sum.elim_inr, id, List.map_append, List.map_map]; rfl))) rfl) rfl ?_
    rintro ⟨n_22, t9_23, l_24⟩ h6
    replace h6 : code_Encode_l0 F list n_22 t9_23 l_24 = some o6 := h6
    cases n_22 with
    | zero => rw [code_Encode_l0.eq_1] at h6; cases h6
    | succ n_22 =>
      rw [code_Encode_l0.eq_2] at h6
      conv => whnf
      refine Or.inl ?_
      conv => whnf
      refine brn_i (fun hb => ?_) (fun hb => ?_)
      · replace h6 := cond_t h6 (by first | exact hb | (simp; done) | simpa using hb | simpa [chunk] using hb | (simp [chunk] at hb ⊢; omega))
        conv => whnf
        obtain ⟨o12, h12, k12⟩ := bind_e h6
        refine Or.inr (joins_i (o12 = Sum.inr (outR o12)) ((4, (AV.osw 0 1)) :: ((7, (AV.sl (List.map api_Field.c list))) :: ((8, (AV.int IntKind.i64 (@Nat.cast Int instNatCastInt (List.length (List.map api_Field.c list))))) :: ((9, (AV.int IntKind.i64 t9_23)) :: [])))) ((0, (AO.rows true (List.map (cInt IntKind.u8) (outR o12)))) :: []) 1 ?_ (fun hR => ?_))
        · conv => whnf
          refine Or.inl ?_
          conv => whnf
          obtain ⟨hg, h12⟩ := grd_e h12
          refine And.intro hg ?_
          conv => whnf
          obtain ⟨y_32, hy, h12⟩ := bind_e h12
          refine opt_i (api_Field.c y_32) (getE rfl hy) ?_
          conv => whnf
          refine Or.inl ?_
          conv => whnf
          obtain ⟨t13_33, h13, k13⟩ := bind_e h12
          refine Or.inr (joins_i True ((4, (AV.osw 0 1)) :: ((6, (AV.ptr 1 0 0)) :: ((7, (AV.sl (List.map api_Field.c list))) :: ((8, (AV.int IntKind.i64 (@Nat.cast Int instNatCastInt (List.length (List.map api_Field.c list))))) :: ((9, (AV.int IntKind.i64 t9_23)) :: ((13, (AV.bool t13_33)) :: [])))))) ((0, (AO.rows true (List.map (cInt IntKind.u8) l_24))) :: ((1, (AO.rows false (((AV.int IntKind.i64 y_32.Kind) :: ((AV.int IntKind.i64 y_32.N) :: ((AV.str y_32.S) :: []))) :: []))) :: [])) 2 ?_ (fun _ => ?_))
          · conv => whnf
            refine Or.inl ?_
            conv => whnf
            refine brn_i (fun hb => ?_) (fun hb => ?_)
            · replace h13 := cond_t h13 hb
              conv => whnf
              obtain rfl := Option.some.inj h13
              exact end_i trivial [(0, 0), (1, 25)] rfl rfl rfl
            · replace h13 := cond_f h13 hb
              conv => whnf
              obtain rfl := Option.some.inj h13
              exact end_i trivial [(0, 0), (1, 25)] rfl rfl rfl
          · conv => whnf
            refine Or.inl ?_
            conv => whnf
            refine brn_i (fun hb => ?_) (fun hb => ?_)
            · replace k13 := cond_t k13 hb
              conv => whnf
              obtain ⟨y_34, hy, k13⟩ := bind_e k13
              refine Or.inr (callG_i [0] (code_put_i1_FC0 F (IntKind.wrap IntKind.u64 y_32.N) l_24 y_34 hy) rfl rfl rfl rfl ?_)
              conv => whnf
              obtain rfl := Option.some.inj k13
              exact end_i rfl [(0, 35)] rfl rfl rfl
            · replace k13 := cond_f k13 hb
              conv => whnf
              refine Or.inl ?_
              conv => whnf
              refine brn_i (fun hb => ?_) (fun hb => ?_)
              · replace k13 := cond_t k13 hb
                conv => whnf
                refine And.intro (by decide) ?_
                conv => whnf
                refine And.intro (by decide) ?_
                conv => whnf
                obtain ⟨y_35, hy, k13⟩ := bind_e k13
                refine Or.inr (callG_i [0] (code_put_i1_FC0 F (@ibits BinOp.xor IntKind.u64 (IntKind.wrap IntKind.u64 ((IntKind.wrap IntKind.u64 y_32.N) * ((2 : Int) ^ (min (Int.toNat (1 : Int)) 64)))) (IntKind.wrap IntKind.u64 (@Int.fdiv y_32.N ((2 : Int) ^ (min (Int.toNat (63 : Int)) 64))))) l_24 y_35 hy) rfl rfl rfl rfl ?_)
                conv => whnf
                obtain rfl := Option.some.inj k13
                exact end_i rfl [(0, 115)] rfl rfl rfl
              · replace k13 := cond_f k13 hb
                conv => whnf
                obtain ⟨t42_36, h14, k14⟩ := bind_e k13
                refine Or.inr (joins_i True ((4, (AV.osw 0 1)) :: ((6, (AV.ptr 1 0 0)) :: ((7, (AV.sl (List.map api_Field.c list))) :: ((8, (AV.int IntKind.i64 (@Nat.cast Int instNatCastInt (List.length (List.map api_Field.c list))))) :: ((9, (AV.int IntKind.i64 t9_23)) :: ((42, (AV.bool t42_36)) :: [])))))) ((0, (AO.rows true (List.map (cInt IntKind.u8) l_24))) :: ((1, (AO.rows false (((AV.int IntKind.i64 y_32.Kind) :: ((AV.int IntKind.i64 y_32.N) :: ((AV.str y_32.S) :: []))) :: []))) :: [])) 2 ?_ (fun _ => ?_))
                · conv => whnf
                  refine Or.inl ?_
                  conv => whnf
                  refine brn_i (fun hb => ?_) (fun hb => ?_)
                  · replace h14 := cond_t h14 hb
                    conv => whnf
                    obtain rfl := Option.some.inj h14
                    exact end_i trivial [(0, 0), (1, 1)] rfl rfl rfl
                  · replace h14 := cond_f h14 hb
                    conv => whnf
                    obtain rfl := Option.some.inj h14
                    exact end_i trivial [(0, 0), (1, 1)] rfl rfl rfl
                · conv => whnf
                  refine Or.inl ?_
                  conv => whnf
                  refine brn_i (fun hb => ?_) (fun hb => ?_)
                  · replace k14 := cond_t k14 hb
                    conv => whnf
                    obtain ⟨y_37, hy, k14⟩ := bind_e k14
                    refine Or.inr (callG_i [0] (code_put_i1_FC0 F (IntKind.wrap IntKind.u64 (@Nat.cast Int instNatCastInt (List.length y_32.S))) l_24 y_37 hy) rfl rfl rfl rfl ?_)
                    conv => whnf
                    refine And.intro (LenAll.map (fun _ => rfl)) ?_
                    conv => whnf
                    refine And.intro (LenAll.map (fun _ => rfl)) ?_
                    conv => whnf
                    obtain ⟨hg, k14⟩ := grd_e k14
                    refine And.intro (by first | exact hg | (simp; done) | simpa using hg | simpa [chunk] using hg | (simp [chunk] at hg ⊢; omega)) ?_
                    conv => whnf
                    refine And.intro (by kernel_rfl) ?_
                    conv => whnf
                    obtain rfl := Option.some.inj k14
                    exact end_i rfl [(0, 66)] rfl (cons2 (congrArg (fun X => some (AO.rows true X)) (by first | (simp; done) | rfl | (rw [List.map_append]; rfl) | (simp [outR]; done) | (simp only [outR, Sum.elim_inr, id, List.map_append, List.map_map]; rfl))) rfl) rfl
                  · replace k14 := cond_f k14 hb
                    conv => whnf
                    obtain rfl := Option.some.inj k14
                    obtain rfl := Option.some.inj k12
                    obtain rfl := Option.some.inj k6
                    exact endG_i [(0, 2)] rfl (cons2 (congrArg (fun X => some (AO.rows true X)) (by first | (simp; done) | rfl | (rw [List.map_append]; rfl) | (simp [outR]; done) | (simp only [outR, Sum.elim_inr, id, List.map_append, List.map_map]; rfl))) rfl) rfl
        · replace k12 := elim_e hR k12
          generalize outR o12 = l_31 at k12 ⊢
          conv => whnf
          exact round_i (n_22, (IntKind.wrap IntKind.i64 (t9_23 + (1 : Int))), l_31) [(0, 0)] k12 (Nat.lt_succ_self _) rfl rfl rfl
      · replace h6 := cond_f h6 (by first | exact hb | (simp; done) | simpa using hb | simpa [chunk] using hb | (simp [chunk] at hb ⊢; omega))
        conv => whnf
        obtain rfl := Option.some.inj h6
        exact end_i rfl [(0, 0)] rfl rfl rfl
  · replace k6 := elim_e hR k6
    generalize outR o6 = l_14 at k6 ⊢
    conv => whnf
    obtain rfl := Option.some.inj k6
    exact endG_i [(0, 0)] rfl rfl rfl

theorem __crc_Table__Sum_i1_FC0 {ml : Gv} (F : Nat) (l : (List Int)) (r : Int) (h : __crc_Table__Sum_i1 F l = some r) : FC Tryz.prog (GM ml) 61 ((0, (AO.rows true ((@crow (0 : Int) (0 : Int) (0 : Int) tab0) :: []))) :: ((1, (AO.rows true (List.map (cInt IntKind.u8) l))) :: [])) [(AV.ptr 0 0 0), (AV.osw 1 1)] (AV.int IntKind.u32 r) ((1, (AO.rows true (List.map (cInt IntKind.u8) l))) :: []) := by
  unfold __crc_Table__Sum_i1 at h
  obtain ⟨hg, h⟩ := grd_e h
  obtain rfl := Option.some.inj h
  exact sum_FCo l hg

theorem code_Frame_FC0 {ml : Gv} (F : Nat) (b : (List Int)) (r : (Int × (List Int))) (h : code_Frame F b = some r) : FC Tryz.prog (GM ml) 41 [] [(AV.sl (List.map (cInt IntKind.u8) b))] (AV.tup ((AV.osw 0 1) :: ((AV.int IntKind.i64 r.1) :: []))) ((0, (AO.rows true (List.map (cInt IntKind.u8) r.2))) :: []) := by
  refine FC_ofG 2000 Tryz.func41 rfl (by kernel_rfl) mixed (by show 1 ≤ 32; decide) (by show 0 ≤ W; decide) rfl ?_
  unfold code_Frame at h
  conv => whnf
  refine Or.inl ?_
  conv => whnf
  refine brn_i (fun hb => ?_) (fun hb => ?_)
  · replace h := cond_t h (by first | exact hb | (simp; done) | simpa using hb | simpa [chunk] using hb | (simp [chunk] at hb ⊢; omega))
    conv => whnf
    obtain rfl := Option.some.inj h
    exact endG_i [(0, 48)] rfl (cons2 (congrArg (fun X => some (AO.rows true X)) (by first | (simp; done) | rfl | (rw [List.map_append]; rfl) | (simp [outR]; done) | (simp only [outR, Sum.elim_inr, id, List.map_append, List.map_map]; rfl))) rfl) rfl
  · replace h := cond_f h (by first | exact hb | (simp; done) | simpa using hb | simpa [chunk] using hb | (simp [chunk] at hb ⊢; omega))
    conv => whnf
    refine Or.inl ?_
    conv => whnf
    obtain ⟨y_0, hy, h⟩ := bind_e h
    refine ⟨_, _, (FC_esl 0 1 (code_put_i1_FC0 F (IntKind.wrap IntKind.u64 (@Nat.cast Int instNatCastInt (List.length (List.map (cInt IntKind.u8) b)))) [] y_0 hy) rfl), Or.inr ⟨[], rfl, ?_⟩⟩
    conv => whnf
    refine And.intro (LenAll.map (fun _ => rfl)) ?_
    conv => whnf
    refine And.intro (LenAll.map (fun _ => rfl)) ?_
    conv => whnf
    obtain ⟨hg, h⟩ := grd_e h
    refine And.intro (by first | exact hg | (simp; done) | simpa using hg | simpa [chunk] using hg | (simp [chunk] at hg ⊢; omega)) ?_
    conv => whnf
    refine Or.inl ?_
    conv => whnf
    obtain ⟨y_1, hy, h⟩ := bind_e h
    refine ⟨_, _, (crc_New_FC0 F y_1 hy), Or.inr ⟨[], rfl, ?_⟩⟩
    conv => whnf
    obtain ⟨y_2, hy, h⟩ := bind_e h
    refine Or.inr (callG_i [104, 88] (__crc_Table__Sum_i1_FC0 F (y_0 ++ b) y_2 hy) rfl rfl (cons2 rfl (cons2 (congrArg (fun X => some (AO.rows true X)) (by first | (simp; done) | rfl | (rw [List.map_append]; rfl) | (simp [outR]; done) | (simp only [outR, Sum.elim_inr, id, List.map_append, List.map_map]; rfl))) rfl)) rfl ?_)
    conv => whnf
    refine And.intro (by decide) ?_
    conv => whnf
    refine And.intro (by decide) ?_
    conv => whnf
    refine And.intro (by decide) ?_
    conv => whnf
    refine Or.inl ?_
    conv => whnf
    refine And.intro (LenAll.cons rfl (LenAll.cons rfl (LenAll.cons rfl (LenAll.cons rfl LenAll.nil)))) ?_
    conv => whnf
    refine And.intro (LenAll.map (fun _ => rfl)) ?_
    conv => whnf
    obtain ⟨hg, h⟩ := grd_e h
    refine And.intro (by first | exact hg | (simp; done) | simpa using hg | simpa [chunk] using hg | (simp [chunk] at hg ⊢; omega)) ?_
    conv => whnf
    obtain rfl := Option.some.inj h
    exact endG_i [(0, 240)] rfl (cons2 (congrArg (fun X => some (AO.rows true X)) (by first | (simp; done) | rfl | (rw [List.map_append]; rfl) | (simp [outR]; done) | (simp only [outR, Sum.elim_inr, id, List.map_append, List.map_map]; rfl))) rfl) rfl

theorem wal_framed_FC {ml : Gv} (F : Nat) (rec : (List Int)) (r : ((List Int) × Int)) (h : wal_framed F rec = some r) : FC Tryz.prog (GM ml) 25 [] [(AV.sl (List.map (cInt IntKind.u8) rec))] (.tup [(.sl (List.map (cInt IntKind.u8) r.1)), (.int IntKind.i64 r.2)]) [] := by
  refine FC_of 2000 Tryz.func25 rfl (by kernel_rfl) mixed (by show 1 ≤ 8; decide) ?_
  unfold wal_framed at h
  conv => whnf
  refine Or.inl ?_
  conv => whnf
  obtain ⟨y_0, hy, h⟩ := bind_e h
  refine ⟨_, _, (FC_close (code_Frame_FC0 F rec y_0 hy) rfl), Or.inr ⟨[], rfl, ?_⟩⟩
  conv => whnf
  obtain rfl := Option.some.inj h
  exact rfl

theorem wal_frames_FC0 {ml : Gv} (F : Nat) (recs : (List (List Int))) (r : (Int × (List (List Int)))) (h : wal_frames F recs = some r) : FC Tryz.prog (GM ml) 27 [] [(AV.sl (List.map (cSl (cInt IntKind.u8)) recs))] (AV.tup ((AV.osw 0 1) :: ((AV.int IntKind.i64 r.1) :: []))) ((0, (AO.rows true (List.map (cSl (cInt IntKind.u8)) r.2))) :: []) := by
  refine FC_ofG 2000 Tryz.func27 rfl (by kernel_rfl) mixed (by show 1 ≤ 42; decide) (by show 0 ≤ W; decide) rfl ?_
  unfold wal_frames at h
  conv => whnf
  refine Or.inl ?_
  conv => whnf
  refine Or.inl ?_
  conv => whnf
  obtain ⟨y_0, hy, h⟩ := bind_e h
  refine ⟨_, _, (FC_arg2 (cons2 (congrArg AV.sl (by first | (simp; done) | rfl | (rw [List.map_append]; rfl) | (simp [outR]; done) | (simp only [outR, Sum.elim_inr, id, List.map_append, List.map_map]; rfl))) rfl) (FC_close (code_Encode_FC0 F ((api_Field.mk (1 : Int) (@Nat.cast Int instNatCastInt (List.length (List.map (cSl (cInt IntKind.u8)) recs))) ([] : List UInt8)) :: []) y_0 hy) rfl)), Or.inr ⟨[48], rfl, ?_⟩⟩
  conv => whnf
  refine Or.inl ?_
  conv => whnf
  refine And.intro (LenAll.map (fun _ => rfl)) ?_
  conv => whnf
  refine And.intro (LenAll.cons rfl LenAll.nil) ?_
  conv => whnf
  obtain ⟨hg, h⟩ := grd_e h
  refine And.intro (by first | exact hg | (simp; done) | simpa using hg | simpa [chunk] using hg | (simp [chunk] at hg ⊢; omega)) ?_
  conv => whnf
  obtain ⟨o0, h0, k0⟩ := bind_e h
  refine Or.inr (joins_i (o0 = Sum.inr (outR o0)) ((6, (AV.osw 0 1)) :: []) ((0, (AO.rows true (List.map (cSl (cInt IntKind.u8)) (outR o0)))) :: []) 1 ?_ (fun hR => ?_))
  · conv => whnf
    refine Or.inl ?_
    conv => whnf
    refine loops_i (α := (Nat × Int × (List (List Int)))) (fun xq => ((6, (AV.osw 0 1)) :: ((22, (AV.osw 1 1)) :: ((23, (AV.int IntKind.i64 (@Nat.cast Int instNatCastInt (List.length (((List.take (@GetElem.getElem (@Array TypeInfo) Nat TypeInfo (fun (xs_13 : (@Array TypeInfo)) => (fun (i_13 : Nat) => (i_13 < (@Array.size TypeInfo xs_13)))) (@Array.instGetElemNatLtSize TypeInfo) Proofs.Tryz.prog.toTables.types 31 (@Nat.le_of_ble_eq_true (Nat.succ 31) (@Array.size TypeInfo Proofs.Tryz.prog.toTables.types) (@rfl Bool true))).size ((AV.sl (List.map (cInt IntKind.u8) y_0.2)) :: [])) :: []) ++ (List.map (cSl (cInt IntKind.u8)) recs)))))) :: ((24, (AV.int IntKind.i64 xq.2.1)) :: []))))) (fun xq => ((0, (AO.rows true (List.map (cSl (cInt IntKind.u8)) xq.2.2))) :: ((1, (AO.rows true (List.map (cSl (cInt IntKind.u8)) ((y_0.2 :: []) ++ recs)))) :: []))) 2 (fun xq => wal_frames_l0 F recs y_0 xq.1 xq.2.1 xq.2.2 = some o0) (fun xq => xq.1) (F, (0 : Int), []) [(0, 104), (1, 136)] h0 rfl (cons2 (congrArg (fun X => some (AO.rows true X)) (by first | (simp; done) | rfl | (rw [List.map_append]; rfl) | (simp [outR]; done) | (simp only [outR, Sum.elim_inr, id, List.map_append, List.map_map]; rfl))) (cons2 (congrArg (fun X => some (AO.rows true X)) (by first | (simp; done) | rfl | (rw [List.map_append]; rfl) | (simp [outR]; done) | (simp only [outR, Sum.elim_inr, id, List.map_append, List.map_map]; rfl))) rfl)) rfl ?_
    rintro ⟨n_16, t24_17, l_18⟩ h0
    replace h0 : wal_frames_l0 F recs y_0 n_16 t24_17 l_18 = some o0 := h0
    cases n_16 with
    | zero => rw [wal_frames_l0.eq_1] at h0; cases h0
    | succ n_16 =>
      rw [wal_frames_l0.eq_2] at h0
      conv => whnf
      refine Or.inl ?_
      conv => whnf
      refine brn_i (fun hb => ?_) (fun hb => ?_)
      · replace h0 := cond_t h0 (by first | exact hb | (simp; done) | simpa using hb | simpa [chunk] using hb | (simp [chunk] at hb ⊢; omega))
        conv => whnf
        refine Or.inl ?_
        conv => whnf
        obtain ⟨hg, h0⟩ := grd_e h0
        refine And.intro hg ?_
        conv => whnf
        obtain ⟨y_22, hy, h0⟩ := bind_e h0
        refine opt_i ((cSl (cInt IntKind.u8)) y_22) (getE rfl hy) ?_
        conv => whnf
        obtain ⟨y_23, hy, h0⟩ := bind_e h0
        refine opt_i ((cSl (cInt IntKind.u8)) y_23) (getE rfl hy) ?_
        conv => whnf
        refine Or.inl ?_
        conv => whnf
        obtain ⟨y_24, hy, h0⟩ := bind_e h0
        refine ⟨_, _, (wal_framed_FC F y_23 y_24 hy), Or.inr ⟨[], rfl, ?_⟩⟩
        conv => whnf
        refine Or.inl ?_
        conv => whnf
        refine brn_i (fun hb => ?_) (fun hb => ?_)
        · replace h0 := cond_t h0 hb
          conv => whnf
          obtain rfl := Option.some.inj h0
          obtain rfl := Option.some.inj k0
          exact endG_i [(0, 114)] rfl (cons2 (congrArg (fun X => some (AO.rows true X)) (by first | (simp; done) | rfl | (rw [List.map_append]; rfl) | (simp [outR]; done) | (simp only [outR, Sum.elim_inr, id, List.map_append, List.map_map]; rfl))) rfl) rfl
        · replace h0 := cond_f h0 hb
          conv => whnf
          refine Or.inl ?_
          conv => whnf
          refine And.intro (LenAll.cons rfl LenAll.nil) ?_
          conv => whnf
          refine And.intro (LenAll.map (fun _ => rfl)) ?_
          conv => whnf
          obtain ⟨hg, h0⟩ := grd_e h0
          refine And.intro (by first | exact hg | (simp; done) | simpa using hg | simpa [chunk] using hg | (simp [chunk] at hg ⊢; omega)) ?_
          conv => whnf
          exact round_i (n_16, (IntKind.wrap IntKind.i64 (t24_17 + (1 : Int))), (l_18 ++ (y_24.1 :: []))) [(0, 130), (1, 1)] h0 (Nat.lt_succ_self _) rfl (cons2 (congrArg (fun X => some (AO.rows true X)) (by first | (simp; done) | rfl | (rw [List.map_append]; rfl) | (simp [outR]; done) | (simp only [outR, Sum.elim_inr, id, List.map_append, List.map_map]; rfl))) rfl) rfl
      · replace h0 := cond_f h0 (by first | exact hb | (simp; done) | simpa using hb | simpa [chunk] using hb | (simp [chunk] at hb ⊢; omega))
        conv => whnf
        obtain rfl := Option.some.inj h0
        exact end_i rfl [(0, 0)] rfl rfl rfl
  · replace k0 := elim_e hR k0
    generalize outR o0 = l_9 at k0 ⊢
    conv => whnf
    obtain rfl := Option.some.inj k0
    exact endG_i [(0, 0)] rfl rfl rfl

theorem disk_named_FC {ml : Gv} (F : Nat) (name : (List UInt8)) (r : Bool) (h : disk_named F name = some r) : FC Tryz.prog (GM ml) 28 [] [(AV.str name)] (.bool r) [] := by
  refine FC_of 2000 Tryz.func28 rfl (by kernel_rfl) mixed (by show 1 ≤ 43; decide) ?_
  unfold disk_named at h
  conv => whnf
  obtain ⟨hg, h⟩ := grd_e h
  refine And.intro hg ?_
  conv => whnf
  obtain ⟨o4, h4, k4⟩ := bind_e h
  refine Or.inr (joins_i (o4 = Sum.inr (outR o4)) ((0, (AV.str name)) :: []) [] 0 ?_ (fun hR => ?_))
  · conv => whnf
    refine Or.inl ?_
    conv => whnf
    refine loops_i (α := (Nat × Int)) (fun xq => ((0, (AV.str name)) :: ((6, (AV.osw 0 1)) :: ((7, (AV.int IntKind.i64 (@Nat.cast Int instNatCastInt (List.length (@enc8 name))))) :: ((8, (AV.int IntKind.i64 xq.2)) :: []))))) (fun xq => ((0, (AO.rows true (List.map (cInt IntKind.u8) (List.map (fun (b_13 : UInt8) => (((UInt8.toNat b_13) : Nat) : Int)) name)))) :: [])) 1 (fun xq => disk_named_l0 F name xq.1 xq.2 = some o4) (fun xq => xq.1) (F, (0 : Int)) [(0, 24)] h4 rfl (cons2 (congrArg (fun X => some (AO.rows true X)) (by first | (simp; done) | rfl | (rw [List.map_append]; rfl) | (simp [outR]; done) | (simp only [outR, Sum.elim_inr, id, List.map_append, List.map_map]; rfl))) rfl) rfl ?_
    rintro ⟨n_18, t8_19⟩ h4
    replace h4 : disk_named_l0 F name n_18 t8_19 = some o4 := h4
    cases n_18 with
    | zero => rw [disk_named_l0.eq_1] at h4; cases h4
    | succ n_18 =>
      rw [disk_named_l0.eq_2] at h4
      conv => whnf
      refine Or.inl ?_
      conv => whnf
      refine brn_i (fun hb => ?_) (fun hb => ?_)
      · replace h4 := cond_t h4 (by first | exact hb | (simp; done) | simpa using hb | simpa [chunk] using hb | (simp [chunk] at hb ⊢; omega))
        conv => whnf
        refine Or.inl ?_
        conv => whnf
        obtain ⟨hg, h4⟩ := grd_e h4
        refine And.intro hg ?_
        conv => whnf
        obtain ⟨y_23, hy, h4⟩ := bind_e h4
        refine opt_i ((cInt IntKind.u8) y_23) (getE rfl hy) ?_
        conv => whnf
        obtain ⟨y_24, hy, h4⟩ := bind_e h4
        refine opt_i ((cInt IntKind.u8) y_24) (getE rfl hy) ?_
        conv => whnf
        obtain ⟨t33_25, h8, k8⟩ := bind_e h4
        refine Or.inr (joins_i True ((0, (AV.str name)) :: ((6, (AV.osw 0 1)) :: ((7, (AV.int IntKind.i64 (@Nat.cast Int instNatCastInt (List.length (@enc8 name))))) :: ((8, (AV.int IntKind.i64 t8_19)) :: ((33, (AV.bool t33_25)) :: []))))) ((0, (AO.rows true (List.map (cInt IntKind.u8) (List.map (fun (b_13 : UInt8) => (((UInt8.toNat b_13) : Nat) : Int)) name)))) :: []) 1 ?_ (fun _ => ?_))
        · conv => whnf
          refine Or.inl ?_
          conv => whnf
          refine brn_i (fun hb => ?_) (fun hb => ?_)
          · replace h8 := cond_t h8 hb
            conv => whnf
            refine brn_i (fun hb => ?_) (fun hb => ?_)
            · replace h8 := cond_t h8 hb
              conv => whnf
              refine brn_i (fun hb => ?_) (fun hb => ?_)
              · replace h8 := cond_t h8 hb
                conv => whnf
                obtain rfl := Option.some.inj h8
                exact end_i trivial [(0, 0)] rfl rfl rfl
              · replace h8 := cond_f h8 hb
                conv => whnf
                obtain rfl := Option.some.inj h8
                exact end_i trivial [(0, 0)] rfl rfl rfl
            · replace h8 := cond_f h8 hb
              conv => whnf
              refine brn_i (fun hb => ?_) (fun hb => ?_)
              · replace h8 := cond_t h8 hb
                conv => whnf
                refine brn_i (fun hb => ?_) (fun hb => ?_)
                · replace h8 := cond_t h8 hb
                  conv => whnf
                  obtain rfl := Option.some.inj h8
                  exact end_i trivial [(0, 0)] rfl rfl rfl
                · replace h8 := cond_f h8 hb
                  conv => whnf
                  obtain rfl := Option.some.inj h8
                  exact end_i trivial [(0, 0)] rfl rfl rfl
              · replace h8 := cond_f h8 hb
                conv => whnf
                obtain rfl := Option.some.inj h8
                exact end_i trivial [(0, 0)] rfl rfl rfl
          · replace h8 := cond_f h8 hb
            conv => whnf
            refine brn_i (fun hb => ?_) (fun hb => ?_)
            · replace h8 := cond_t h8 hb
              conv => whnf
              refine brn_i (fun hb => ?_) (fun hb => ?_)
              · replace h8 := cond_t h8 hb
                conv => whnf
                refine brn_i (fun hb => ?_) (fun hb => ?_)
                · replace h8 := cond_t h8 hb
                  conv => whnf
                  obtain rfl := Option.some.inj h8
                  exact end_i trivial [(0, 0)] rfl rfl rfl
                · replace h8 := cond_f h8 hb
                  conv => whnf
                  obtain rfl := Option.some.inj h8
                  exact end_i trivial [(0, 0)] rfl rfl rfl
              · replace h8 := cond_f h8 hb
                conv => whnf
                refine brn_i (fun hb => ?_) (fun hb => ?_)
                · replace h8 := cond_t h8 hb
                  conv => whnf
                  refine brn_i (fun hb => ?_) (fun hb => ?_)
                  · replace h8 := cond_t h8 hb
                    conv => whnf
                    obtain rfl := Option.some.inj h8
                    exact end_i trivial [(0, 0)] rfl rfl rfl
                  · replace h8 := cond_f h8 hb
                    conv => whnf
                    obtain rfl := Option.some.inj h8
                    exact end_i trivial [(0, 0)] rfl rfl rfl
                · replace h8 := cond_f h8 hb
                  conv => whnf
                  obtain rfl := Option.some.inj h8
                  exact end_i trivial [(0, 0)] rfl rfl rfl
            · replace h8 := cond_f h8 hb
              conv => whnf
              obtain rfl := Option.some.inj h8
              exact end_i trivial [(0, 0)] rfl rfl rfl
        · conv => whnf
          refine Or.inl ?_
          conv => whnf
          refine brn_i (fun hb => ?_) (fun hb => ?_)
          · replace k8 := cond_t k8 hb
            conv => whnf
            obtain rfl := Option.some.inj k8
            obtain rfl := Option.some.inj k4
            exact rfl
          · replace k8 := cond_f k8 hb
            conv => whnf
            exact round_i (n_18, (IntKind.wrap IntKind.i64 (t8_19 + (1 : Int)))) [(0, 0)] k8 (Nat.lt_succ_self _) rfl rfl rfl
      · replace h4 := cond_f h4 (by first | exact hb | (simp; done) | simpa using hb | simpa [chunk] using hb | (simp [chunk] at hb ⊢; omega))
        conv => whnf
        obtain rfl := Option.some.inj h4
        exact end_i rfl [] rfl rfl rfl
  · replace k4 := elim_e hR k4
    generalize outR o4 = v at k4 ⊢
    conv => whnf
    refine Or.inl ?_
    conv => whnf
    refine brn_i (fun hb => ?_) (fun hb => ?_)
    · replace k4 := cond_t k4 hb
      conv => whnf
      obtain rfl := Option.some.inj k4
      exact rfl
    · replace k4 := cond_f k4 hb
      conv => whnf
      obtain rfl := Option.some.inj k4
      exact rfl

theorem __disk_Disk__Append_FC0 {ml : Gv} (F : Nat) (name : (List UInt8)) (b : (List Int)) (c : Int) (fs : (List ((List UInt8) × (List Int)))) (l : (List disk_write)) (r : (Int × Int × (List ((List UInt8) × (List Int))) × (List disk_write))) (h : __disk_Disk__Append F name b c fs l = some r) : FC Tryz.prog (GM ml) 15 ((0, (AO.rows false (((AV.mapo 1) :: ((AV.osw 2 2) :: ((AV.int IntKind.i64 c) :: []))) :: []))) :: ((1, (AO.fmap 1 (@encF (@List UInt8) Int (fun (k_13 : (@List UInt8)) => (AV.str k_13)) (cInt IntKind.u8) fs) none)) :: ((2, (AO.rows true (List.map disk_write.c l))) :: []))) [(AV.ptr 0 0 0), (AV.str name), (AV.sl (List.map (cInt IntKind.u8) b))] (AV.int IntKind.i64 r.1) ((0, (AO.rows false (((AV.mapo 1) :: ((AV.osw 3 2) :: ((AV.int IntKind.i64 r.2.1) :: []))) :: []))) :: ((1, (AO.fmap 1 (@encF (@List UInt8) Int (fun (k_13 : (@List UInt8)) => (AV.str k_13)) (cInt IntKind.u8) r.2.2.1) none)) :: ((3, (AO.rows true (List.map disk_write.c r.2.2.2))) :: []))) := by
  refine FC_ofG 2000 Tryz.func15 rfl (by kernel_rfl) mixed (by show 3 ≤ 75; decide) (by show 3 ≤ W; decide) rfl ?_
  unfold __disk_Disk__Append at h
  conv => whnf
  refine Or.inl ?_
  conv => whnf
  refine Or.inl ?_
  conv => whnf
  obtain ⟨y_1, hy, h⟩ := bind_e h
  refine ⟨_, _, (disk_named_FC F name y_1 hy), Or.inl ⟨rfl, rfl, ?_⟩⟩
  conv => whnf
  refine Or.inl ?_
  conv => whnf
  refine brn_i (fun hb => ?_) (fun hb => ?_)
  · replace h := cond_t h hb
    conv => whnf
    obtain rfl := Option.some.inj h
    exact endG_i [(0, 0), (1, 1), (3, 2)] rfl rfl rfl
  · replace h := cond_f h hb
    conv => whnf
    refine And.intro (by kernel_rfl) ?_
    conv => whnf
    refine both (b := (Option.isSome (mget name fs))) (fun hb => ?_) (fun hb => ?_)
    · replace h := cond_t h hb
      refine flook_some (ek := (fun (k_13 : (@List UInt8)) => (AV.str k_13))) (en := (cInt IntKind.u8)) fs name rfl rfl (keq_str Tryz.underlying9) hb ?_
      conv => whnf
      refine Or.inl ?_
      conv => whnf
      refine Or.inl ?_
      conv => whnf
      refine brn_i (fun hb => ?_) (fun hb => ?_)
      · replace h := cond_t h (by first | exact hb | (simp; done) | simpa using hb | simpa [chunk] using hb | (simp [chunk] at hb ⊢; omega))
        conv => whnf
        obtain rfl := Option.some.inj h
        obtain ⟨kk, hkk⟩ := (mix_some (ek := (fun (k_13 : (@List UInt8)) => (AV.str k_13))) (en := (cInt IntKind.u8)) (q := name) (L := fs) (by assumption)).2
        refine endG_f (.step _ 1 1 _ _ 112 kk _ _ rfl rfl hkk (fun row hr => by obtain ⟨y, _, rfl⟩ := List.mem_map.1 hr; rfl) rfl (.refl _)) ?_
        exact endG_i [(0, 0), (1, 1), (3, 2)] rfl rfl rfl
      · replace h := cond_f h (by first | exact hb | (simp; done) | simpa using hb | simpa [chunk] using hb | (simp [chunk] at hb ⊢; omega))
        conv => whnf
        refine And.intro (LenAll.map (fun _ => rfl)) ?_
        conv => whnf
        refine And.intro (LenAll.map (fun _ => rfl)) ?_
        conv => whnf
        obtain ⟨hg, h⟩ := grd_e h
        refine And.intro (by first | exact hg | (simp; done) | simpa using hg | simpa [chunk] using hg | (simp [chunk] at hg ⊢; omega)) ?_
        conv => whnf
        refine And.intro (by kernel_rfl) ?_
        conv => whnf
        obtain ⟨hg, h⟩ := grd_e h
        refine fput_i (ek := (fun (k_13 : (@List UInt8)) => (AV.str k_13))) (en := (cInt IntKind.u8)) fs name ((Option.getD (mget name fs) []) ++ b) 376 rfl rfl (keq_str Tryz.underlying9) (.inr ⟨by assumption, rfl⟩) hg rfl _ rfl (by first | (simp; done) | rfl | (rw [List.map_append]; rfl)) (fun _ => rfl) rfl ?_
        conv => whnf
        refine And.intro (by kernel_rfl) ?_
        conv => whnf
        refine Or.inl ?_
        conv => whnf
        refine And.intro (LenAll.cons rfl LenAll.nil) ?_
        conv => whnf
        refine And.intro (LenAll.map (fun _ => rfl)) ?_
        conv => whnf
        obtain ⟨hg, h⟩ := grd_e h
        refine And.intro (by first | exact hg | (simp; done) | simpa using hg | simpa [chunk] using hg | (simp [chunk] at hg ⊢; omega)) ?_
        conv => whnf
        obtain rfl := Option.some.inj h
        exact endG_i [(0, 0), (1, 1), (2, 2), (3, 552)] rfl (cons2 rfl (cons2 rfl (cons2 (congrArg (fun X => some (AO.rows true X)) (by first | (simp; done) | rfl | (rw [List.map_append]; rfl) | (simp [outR]; done) | (simp only [outR, Sum.elim_inr, id, List.map_append, List.map_map]; rfl))) rfl))) rfl
    · replace h := cond_f h hb
      refine flook_none (ek := (fun (k_13 : (@List UInt8)) => (AV.str k_13))) (en := (cInt IntKind.u8)) fs name .esl rfl rfl (keq_str Tryz.underlying9) hb ⟨31, .esl, by kernel_rfl, by kernel_rfl, .refl _⟩ ?_
      conv => whnf
      obtain ⟨t44_2, h0, k0⟩ := bind_e h
      refine Or.inr (joins_i True ((0, (AV.ptr 0 0 0)) :: ((1, (AV.str name)) :: ((2, (AV.sl (List.map (cInt IntKind.u8) b))) :: ((7, AV.esl) :: ((44, (AV.bool t44_2)) :: []))))) ((0, (AO.rows false (((AV.mapo 1) :: ((AV.osw 2 2) :: ((AV.int IntKind.i64 c) :: []))) :: []))) :: ((1, (AO.fmap 1 (@encF (@List UInt8) Int (fun (k_13 : (@List UInt8)) => (AV.str k_13)) (cInt IntKind.u8) fs) none)) :: ((2, (AO.rows true (List.map disk_write.c l))) :: []))) 3 ?_ (fun _ => ?_))
      · conv => whnf
        refine Or.inl ?_
        conv => whnf
        refine brn_i (fun hb => ?_) (fun hb => ?_)
        · replace h0 := cond_t h0 hb
          conv => whnf
          obtain rfl := Option.some.inj h0
          exact end_i trivial [(0, 0), (1, 1), (2, 2)] rfl rfl rfl
        · replace h0 := cond_f h0 hb
          conv => whnf
          obtain rfl := Option.some.inj h0
          exact end_i trivial [(0, 0), (1, 1), (2, 2)] rfl rfl rfl
      · conv => whnf
        refine Or.inl ?_
        conv => whnf
        refine brn_i (fun hb => ?_) (fun hb => ?_)
        · replace k0 := cond_t k0 hb
          conv => whnf
          obtain rfl := Option.some.inj k0
          exact endG_i [(0, 0), (1, 1), (3, 2)] rfl rfl rfl
        · replace k0 := cond_f k0 hb
          conv => whnf
          refine And.intro (LenAll.map (fun _ => rfl)) ?_
          conv => whnf
          obtain ⟨hg, k0⟩ := grd_e k0
          refine And.intro (by first | exact hg | (simp; done) | simpa using hg | simpa [chunk] using hg | (simp [chunk] at hg ⊢; omega)) ?_
          conv => whnf
          refine And.intro (by kernel_rfl) ?_
          conv => whnf
          obtain ⟨hg, k0⟩ := grd_e k0
          refine fput_i (ek := (fun (k_13 : (@List UInt8)) => (AV.str k_13))) (en := (cInt IntKind.u8)) fs name b 59 rfl rfl (keq_str Tryz.underlying9) (.inl rfl) hg rfl _ rfl (by first | (simp; done) | rfl | (rw [List.map_append]; rfl)) (fun _ => rfl) rfl ?_
          conv => whnf
          refine And.intro (by kernel_rfl) ?_
          conv => whnf
          refine Or.inl ?_
          conv => whnf
          refine And.intro (LenAll.cons rfl LenAll.nil) ?_
          conv => whnf
          refine And.intro (LenAll.map (fun _ => rfl)) ?_
          conv => whnf
          obtain ⟨hg, k0⟩ := grd_e k0
          refine And.intro (by first | exact hg | (simp; done) | simpa using hg | simpa [chunk] using hg | (simp [chunk] at hg ⊢; omega)) ?_
          conv => whnf
          obtain rfl := Option.some.inj k0
          exact endG_i [(0, 0), (1, 1), (2, 2), (3, 235)] rfl (cons2 rfl (cons2 rfl (cons2 (congrArg (fun X => some (AO.rows true X)) (by first | (simp; done) | rfl | (rw [List.map_append]; rfl) | (simp [outR]; done) | (simp only [outR, Sum.elim_inr, id, List.map_append, List.map_map]; rfl))) rfl))) rfl

theorem __disk_Disk__Sync_FC0 {ml : Gv} (F : Nat) (name : (List UInt8)) (c : Int) (fs : (List ((List UInt8) × (List Int)))) (l : (List disk_write)) (r : (Int × Int × (List disk_write))) (h : __disk_Disk__Sync F name c fs l = some r) : FC Tryz.prog (GM ml) 26 ((0, (AO.rows false (((AV.mapo 1) :: ((AV.osw 2 2) :: ((AV.int IntKind.i64 c) :: []))) :: []))) :: ((1, (AO.fmap 1 (@encF (@List UInt8) Int (fun (k_13 : (@List UInt8)) => (AV.str k_13)) (cInt IntKind.u8) fs) none)) :: ((2, (AO.rows true (List.map disk_write.c l))) :: []))) [(AV.ptr 0 0 0), (AV.str name)] (AV.int IntKind.i64 r.1) ((0, (AO.rows false (((AV.mapo 1) :: ((AV.osw 3 2) :: ((AV.int IntKind.i64 r.2.1) :: []))) :: []))) :: ((1, (AO.fmap 1 (@encF (@List UInt8) Int (fun (k_13 : (@List UInt8)) => (AV.str k_13)) (cInt IntKind.u8) fs) none)) :: ((3, (AO.rows true (List.map disk_write.c r.2.2))) :: []))) := by
  refine FC_ofG 2000 Tryz.func26 rfl (by kernel_rfl) mixed (by show 2 ≤ 15; decide) (by show 3 ≤ W; decide) rfl ?_
  unfold __disk_Disk__Sync at h
  conv => whnf
  obtain ⟨y_0, hy, h⟩ := bind_e h
  refine Or.inr (callG_i [0, 1, 2] (__disk_Disk__there_FC0 F name c fs l y_0 hy) rfl rfl rfl rfl ?_)
  conv => whnf
  obtain ⟨o0, h0, k0⟩ := bind_e h
  refine Or.inr (joins_i True ((5, (AV.int IntKind.i64 y_0)) :: []) ((0, (AO.rows false (((AV.mapo 1) :: ((AV.osw 3 2) :: ((AV.int IntKind.i64 o0.1) :: []))) :: []))) :: ((1, (AO.fmap 1 (@encF (@List UInt8) Int (fun (k_13 : (@List UInt8)) => (AV.str k_13)) (cInt IntKind.u8) fs) none)) :: ((3, (AO.rows true (List.map disk_write.c o0.2))) :: []))) 4 ?_ (fun _ => ?_))
  · conv => whnf
    refine Or.inl ?_
    conv => whnf
    refine brn_i (fun hb => ?_) (fun hb => ?_)
    · replace h0 := cond_t h0 hb
      conv => whnf
      obtain ⟨y_6, hy, h0⟩ := bind_e h0
      refine Or.inr (callG_i [0, 1, 2] (__disk_Disk__forget_FC0 F name c fs l y_6 hy) rfl rfl rfl rfl ?_)
      conv => whnf
      obtain rfl := Option.some.inj h0
      exact end_i trivial [(0, 0), (1, 1), (2, 2), (3, 83)] rfl rfl rfl
    · replace h0 := cond_f h0 hb
      conv => whnf
      obtain rfl := Option.some.inj h0
      exact end_i trivial [(0, 0), (1, 1), (3, 2)] rfl rfl rfl
  · obtain ⟨c_4, l_5⟩ := o0
    conv => whnf
    obtain rfl := Option.some.inj k0
    exact endG_i [(0, 0), (1, 1), (2, 2), (3, 3)] rfl rfl rfl

theorem __wal_Wal__Reset_FC0 {ml : Gv} (F : Nat) (recs : (List (List Int))) (c : (List UInt8)) (c_2 : Int) (c_3 : Int) (c_4 : Int) (fs : (List ((List UInt8) × (List Int)))) (l : (List disk_write)) (r : (Int × (List UInt8) × Int × Int × Int × (List ((List UInt8) × (List Int))) × (List disk_write))) (h : __wal_Wal__Reset F recs c c_2 c_3 c_4 fs l = some r) : FC Tryz.prog (GM ml) 11 ((0, (AO.rows false (((AV.ptr 1 0 0) :: ((AV.str c) :: ((AV.int IntKind.i64 c_2) :: ((AV.int IntKind.i64 c_3) :: [])))) :: []))) :: ((1, (AO.rows false (((AV.mapo 2) :: ((AV.osw 3 2) :: ((AV.int IntKind.i64 c_4) :: []))) :: []))) :: ((2, (AO.fmap 1 (@encF (@List UInt8) Int (fun (k_13 : (@List UInt8)) => (AV.str k_13)) (cInt IntKind.u8) fs) none)) :: ((3, (AO.rows true (List.map disk_write.c l))) :: [])))) [(AV.ptr 0 0 0), (AV.sl (List.map (cSl (cInt IntKind.u8)) recs))] (AV.int IntKind.i64 r.1) ((0, (AO.rows false (((AV.ptr 1 0 0) :: ((AV.str r.2.1) :: ((AV.int IntKind.i64 r.2.2.1) :: ((AV.int IntKind.i64 r.2.2.2.1) :: [])))) :: []))) :: ((1, (AO.rows false (((AV.mapo 2) :: ((AV.osw 4 2) :: ((AV.int IntKind.i64 r.2.2.2.2.1) :: []))) :: []))) :: ((2, (AO.fmap 1 (@encF (@List UInt8) Int (fun (k_13 : (@List UInt8)) => (AV.str k_13)) (cInt IntKind.u8) r.2.2.2.2.2.1) none)) :: ((4, (AO.rows true (List.map disk_write.c r.2.2.2.2.2.2))) :: [])))) := by
  refine FC_ofG 2000 Tryz.func11 rfl (by kernel_rfl) mixed (by show 2 ≤ 89; decide) (by show 4 ≤ W; decide) rfl ?_
  unfold __wal_Wal__Reset at h
  conv => whnf
  refine Or.inl ?_
  conv => whnf
  refine Or.inl ?_
  conv => whnf
  refine Or.inl ?_
  conv => whnf
  obtain ⟨y_0, hy, h⟩ := bind_e h
  refine ⟨_, _, (FC_close (wal_frames_FC0 F recs y_0 hy) rfl), Or.inr ⟨[], rfl, ?_⟩⟩
  conv => whnf
  refine Or.inl ?_
  conv => whnf
  refine brn_i (fun hb => ?_) (fun hb => ?_)
  · replace h := cond_t h hb
    conv => whnf
    obtain rfl := Option.some.inj h
    exact endG_i [(0, 0), (1, 1), (2, 2), (4, 3)] rfl rfl rfl
  · replace h := cond_f h hb
    conv => whnf
    refine Or.inl ?_
    conv => whnf
    obtain ⟨y_1, hy, h⟩ := bind_e h
    refine ⟨_, _, (FC_close (strconv_Itoa_FC0 F (IntKind.wrap IntKind.i64 (c_2 + (1 : Int))) y_1 hy) rfl), Or.inr ⟨[], rfl, ?_⟩⟩
    conv => whnf
    obtain ⟨hg, h⟩ := grd_e h
    refine And.intro hg ?_
    conv => whnf
    refine Or.inl ?_
    conv => whnf
    obtain ⟨y_2, hy, h⟩ := bind_e h
    refine ⟨_, _, (FC_close (wal_number_FC0 F (([108, 111, 103, 45] : List UInt8) ++ y_1) y_2 hy) rfl), Or.inr ⟨[], rfl, ?_⟩⟩
    conv => whnf
    refine Or.inl ?_
    conv => whnf
    refine brn_i (fun hb => ?_) (fun hb => ?_)
    · replace h := cond_t h hb
      conv => whnf
      obtain rfl := Option.some.inj h
      exact endG_i [(0, 0), (1, 1), (2, 2), (4, 3)] rfl rfl rfl
    · replace h := cond_f h hb
      conv => whnf
      obtain ⟨o0, h0, k0⟩ := bind_e h
      refine Or.inr (joins_i (o0 = Sum.inr (outR o0)) ((0, (AV.ptr 0 0 0)) :: ((1, (AV.sl (List.map (cSl (cInt IntKind.u8)) recs))) :: ((7, (AV.str (([108, 111, 103, 45] : List UInt8) ++ y_1))) :: []))) ((0, (AO.rows false (((AV.ptr 1 0 0) :: ((AV.str c) :: ((AV.int IntKind.i64 (IntKind.wrap IntKind.i64 (c_2 + (1 : Int)))) :: ((AV.int IntKind.i64 c_3) :: [])))) :: []))) :: ((1, (AO.rows false (((AV.mapo 2) :: ((AV.osw 4 2) :: ((AV.int IntKind.i64 (outR o0).1) :: []))) :: []))) :: ((2, (AO.fmap 1 (@encF (@List UInt8) Int (fun (k_13 : (@List UInt8)) => (AV.str k_13)) (cInt IntKind.u8) (outR o0).2.1) none)) :: ((4, (AO.rows true (List.map disk_write.c (outR o0).2.2))) :: [])))) 5 ?_ (fun hR => ?_))
      · conv => whnf
        refine Or.inl ?_
        conv => whnf
        refine loops_i (α := (Nat × Int × Int × (List ((List UInt8) × (List Int))) × (List disk_write))) (fun xq => ((0, (AV.ptr 0 0 0)) :: ((1, (AV.sl (List.map (cSl (cInt IntKind.u8)) recs))) :: ((7, (AV.str (([108, 111, 103, 45] : List UInt8) ++ y_1))) :: ((44, (AV.sl (List.map (cSl (cInt IntKind.u8)) y_0.2))) :: ((45, (AV.int IntKind.i64 (@Nat.cast Int instNatCastInt (List.length (List.map (cSl (cInt IntKind.u8)) y_0.2))))) :: ((46, (AV.int IntKind.i64 xq.2.1)) :: []))))))) (fun xq => ((0, (AO.rows false (((AV.ptr 1 0 0) :: ((AV.str c) :: ((AV.int IntKind.i64 (IntKind.wrap IntKind.i64 (c_2 + (1 : Int)))) :: ((AV.int IntKind.i64 c_3) :: [])))) :: []))) :: ((1, (AO.rows false (((AV.mapo 2) :: ((AV.osw 4 2) :: ((AV.int IntKind.i64 xq.2.2.1) :: []))) :: []))) :: ((2, (AO.fmap 1 (@encF (@List UInt8) Int (fun (k_13 : (@List UInt8)) => (AV.str k_13)) (cInt IntKind.u8) xq.2.2.2.1) none)) :: ((4, (AO.rows true (List.map disk_write.c xq.2.2.2.2))) :: []))))) 5 (fun xq => __wal_Wal__Reset_l0 F c c_2 c_3 y_0 y_1 xq.1 xq.2.1 xq.2.2.1 xq.2.2.2.1 xq.2.2.2.2 = some o0) (fun xq => xq.1) (F, (0 : Int), c_4, fs, l) [(0, 0), (1, 1), (2, 2), (4, 3)] h0 rfl rfl rfl ?_
        rintro ⟨n_18, t46_19, c_20, fs_21, l_22⟩ h0
        replace h0 : __wal_Wal__Reset_l0 F c c_2 c_3 y_0 y_1 n_18 t46_19 c_20 fs_21 l_22 = some o0 := h0
        cases n_18 with
        | zero => rw [__wal_Wal__Reset_l0.eq_1] at h0; cases h0
        | succ n_18 =>
          rw [__wal_Wal__Reset_l0.eq_2] at h0
          conv => whnf
          refine Or.inl ?_
          conv => whnf
          refine brn_i (fun hb => ?_) (fun hb => ?_)
          · replace h0 := cond_t h0 (by first | exact hb | (simp; done) | simpa using hb | simpa [chunk] using hb | (simp [chunk] at hb ⊢; omega))
            conv => whnf
            refine Or.inl ?_
            conv => whnf
            obtain ⟨hg, h0⟩ := grd_e h0
            refine And.intro hg ?_
            conv => whnf
            obtain ⟨y_25, hy, h0⟩ := bind_e h0
            refine opt_i ((cSl (cInt IntKind.u8)) y_25) (getE rfl hy) ?_
            conv => whnf
            obtain ⟨y_26, hy, h0⟩ := bind_e h0
            refine Or.inr (callG_i [1, 2, 4] (__disk_Disk__Append_FC0 F (([108, 111, 103, 45] : List UInt8) ++ y_1) y_25 c_20 fs_21 l_22 y_26 hy) rfl rfl rfl rfl ?_)
            conv => whnf
            refine Or.inl ?_
            conv => whnf
            refine brn_i (fun hb => ?_) (fun hb => ?_)
            · replace h0 := cond_t h0 hb
              conv => whnf
              obtain rfl := Option.some.inj h0
              obtain rfl := Option.some.inj k0
              exact endG_i [(0, 0), (1, 1), (2, 2), (3, 3), (4, 88)] rfl rfl rfl
            · replace h0 := cond_f h0 hb
              conv => whnf
              exact round_i (n_18, (IntKind.wrap IntKind.i64 (t46_19 + (1 : Int))), y_26.2.1, y_26.2.2.1, y_26.2.2.2) [(0, 0), (1, 1), (2, 2), (3, 3), (4, 88)] h0 (Nat.lt_succ_self _) rfl rfl rfl
          · replace h0 := cond_f h0 (by first | exact hb | (simp; done) | simpa using hb | simpa [chunk] using hb | (simp [chunk] at hb ⊢; omega))
            conv => whnf
            obtain rfl := Option.some.inj h0
            exact end_i rfl [(0, 0), (1, 1), (2, 2), (3, 3), (4, 4)] rfl rfl rfl
      · replace k0 := elim_e hR k0
        generalize outR o0 = v at k0 ⊢
        obtain ⟨c_11, fs_12, l_13⟩ := v
        conv => whnf
        obtain ⟨y_27, hy, k0⟩ := bind_e k0
        refine Or.inr (callG_i [1, 2, 4] (__disk_Disk__Sync_FC0 F (([108, 111, 103, 45] : List UInt8) ++ y_1) c_11 fs_12 l_13 y_27 hy) rfl rfl rfl rfl ?_)
        conv => whnf
        obtain ⟨o1, h1, k1⟩ := bind_e k0
        refine Or.inr (joins_i True ((0, (AV.ptr 0 0 0)) :: ((1, (AV.sl (List.map (cSl (cInt IntKind.u8)) recs))) :: ((7, (AV.str (([108, 111, 103, 45] : List UInt8) ++ y_1))) :: []))) ((0, (AO.rows false (((AV.ptr 1 0 0) :: ((AV.str c) :: ((AV.int IntKind.i64 (IntKind.wrap IntKind.i64 (c_2 + (1 : Int)))) :: ((AV.int IntKind.i64 c_3) :: [])))) :: []))) :: ((1, (AO.rows false (((AV.mapo 2) :: ((AV.osw 4 2) :: ((AV.int IntKind.i64 o1.1) :: []))) :: []))) :: ((2, (AO.fmap 1 (@encF (@List UInt8) Int (fun (k_13 : (@List UInt8)) => (AV.str k_13)) (cInt IntKind.u8) o1.2.1) none)) :: ((4, (AO.rows true (List.map disk_write.c o1.2.2))) :: [])))) 5 ?_ (fun _ => ?_))
        · conv => whnf
          refine Or.inl ?_
          conv => whnf
          refine brn_i (fun hb => ?_) (fun hb => ?_)
          · replace h1 := cond_t h1 hb
            conv => whnf
            obtain ⟨y_32, hy, h1⟩ := bind_e h1
            refine Or.inr (callG_i [1, 2, 48] (__disk_Disk__Remove_FC0 F c y_27.2.1 fs_12 y_27.2.2 y_32 hy) rfl rfl rfl rfl ?_)
            conv => whnf
            refine And.intro (by kernel_rfl) ?_
            conv => whnf
            obtain rfl := Option.some.inj h1
            exact end_i trivial [(0, 0), (1, 1), (2, 2), (3, 3), (4, 160)] rfl rfl rfl
          · replace h1 := cond_f h1 hb
            conv => whnf
            obtain rfl := Option.some.inj h1
            exact end_i trivial [(0, 0), (1, 1), (2, 2), (3, 3), (4, 48)] rfl rfl rfl
        · obtain ⟨c_29, fs_30, l_31⟩ := o1
          conv => whnf
          obtain rfl := Option.some.inj k1
          exact endG_i [(0, 0), (1, 1), (2, 2), (3, 3), (4, 4)] rfl rfl rfl

theorem wal_Open_FC0 {ml : Gv} (F : Nat) (c : Int) (fs : (List ((List UInt8) × (List Int)))) (l : (List disk_write)) (r : (Int × Int × (List ((List UInt8) × (List Int))) × (List (List Int)) × (List disk_write))) (h : wal_Open F c fs l = some (Sum.inl r)) : FC Tryz.prog (GM ml) 8 ((0, (AO.rows false (((AV.mapo 1) :: ((AV.osw 2 2) :: ((AV.int IntKind.i64 c) :: []))) :: []))) :: ((1, (AO.fmap 1 (@encF (@List UInt8) Int (fun (k_13 : (@List UInt8)) => (AV.str k_13)) (cInt IntKind.u8) fs) none)) :: ((2, (AO.rows true (List.map disk_write.c l))) :: []))) [(AV.ptr 0 0 0)] (AV.tup ((AV.con (Value.pointer none)) :: ((AV.osw 3 1) :: ((AV.int IntKind.i64 r.1) :: [])))) ((0, (AO.rows false (((AV.mapo 1) :: ((AV.osw 4 2) :: ((AV.int IntKind.i64 r.2.1) :: []))) :: []))) :: ((1, (AO.fmap 1 (@encF (@List UInt8) Int (fun (k_13 : (@List UInt8)) => (AV.str k_13)) (cInt IntKind.u8) r.2.2.1) none)) :: ((3, (AO.rows true (List.map (cSl (cInt IntKind.u8)) r.2.2.2.1))) :: ((4, (AO.rows true (List.map disk_write.c r.2.2.2.2))) :: [])))) := by
  refine FC_ofG 2000 Tryz.func8 rfl (by kernel_rfl) mixed (by show 1 ≤ 108; decide) (by show 3 ≤ W; decide) rfl ?_
  unfold wal_Open at h
  conv => whnf
  refine Or.inl ?_
  conv => whnf
  obtain ⟨y_0, hy, h⟩ := bind_e h
  refine Or.inr (callG_i [0, 1, 2] (__disk_Disk__Names_FC0 F c fs l y_0 hy) rfl rfl rfl rfl ?_)
  conv => whnf
  obtain ⟨l_7, h2, k2⟩ := bind_e h
  refine Or.inr (joins_i True ((1, (AV.ptr 3 0 0)) :: ((5, (AV.osw 4 1)) :: [])) ((0, (AO.rows false (((AV.mapo 1) :: ((AV.osw 2 2) :: ((AV.int IntKind.i64 c) :: []))) :: []))) :: ((1, (AO.fmap 1 (@encF (@List UInt8) Int (fun (k_13 : (@List UInt8)) => (AV.str k_13)) (cInt IntKind.u8) fs) none)) :: ((2, (AO.rows true (List.map disk_write.c l))) :: ((3, (AO.rows false (((AV.ptr 0 0 0) :: []) :: []))) :: ((4, (AO.rows true (List.map (cInt IntKind.i64) l_7))) :: []))))) 5 ?_ (fun _ => ?_))
  · conv => whnf
    refine Or.inl ?_
    conv => whnf
    refine loops_i (α := (Nat × Int × (List Int))) (fun xq => ((1, (AV.ptr 3 0 0)) :: ((5, (AV.osw 4 1)) :: ((24, (AV.sl (List.map cStr y_0))) :: ((25, (AV.int IntKind.i64 (@Nat.cast Int instNatCastInt (List.length (List.map cStr y_0))))) :: ((26, (AV.int IntKind.i64 xq.2.1)) :: [])))))) (fun xq => ((0, (AO.rows false (((AV.mapo 1) :: ((AV.osw 2 2) :: ((AV.int IntKind.i64 c) :: []))) :: []))) :: ((1, (AO.fmap 1 (@encF (@List UInt8) Int (fun (k_13 : (@List UInt8)) => (AV.str k_13)) (cInt IntKind.u8) fs) none)) :: ((2, (AO.rows true (List.map disk_write.c l))) :: ((3, (AO.rows false (((AV.ptr 0 0 0) :: []) :: []))) :: ((4, (AO.rows true (List.map (cInt IntKind.i64) xq.2.2))) :: [])))))) 5 (fun xq => wal_Open_l0 F y_0 xq.1 xq.2.1 xq.2.2 = some l_7) (fun xq => xq.1) (F, (0 : Int), []) [(0, 0), (1, 1), (2, 2), (3, 8), (4, 56)] h2 rfl (cons2 rfl (cons2 rfl (cons2 rfl (cons2 rfl (cons2 (congrArg (fun X => some (AO.rows true X)) (by first | (simp; done) | rfl | (rw [List.map_append]; rfl) | (simp [outR]; done) | (simp only [outR, Sum.elim_inr, id, List.map_append, List.map_map]; rfl))) rfl))))) rfl ?_
    rintro ⟨n_11, t26_12, l_13⟩ h2
    replace h2 : wal_Open_l0 F y_0 n_11 t26_12 l_13 = some l_7 := h2
    cases n_11 with
    | zero => rw [wal_Open_l0.eq_1] at h2; cases h2
    | succ n_11 =>
      rw [wal_Open_l0.eq_2] at h2
      conv => whnf
      refine Or.inl ?_
      conv => whnf
      refine brn_i (fun hb => ?_) (fun hb => ?_)
      · replace h2 := cond_t h2 (by first | exact hb | (simp; done) | simpa using hb | simpa [chunk] using hb | (simp [chunk] at hb ⊢; omega))
        conv => whnf
        obtain ⟨l_16, h4, k4⟩ := bind_e h2
        refine Or.inr (joins_i True ((1, (AV.ptr 3 0 0)) :: ((5, (AV.osw 4 1)) :: ((24, (AV.sl (List.map cStr y_0))) :: ((25, (AV.int IntKind.i64 (@Nat.cast Int instNatCastInt (List.length (List.map cStr y_0))))) :: ((26, (AV.int IntKind.i64 t26_12)) :: []))))) ((0, (AO.rows false (((AV.mapo 1) :: ((AV.osw 2 2) :: ((AV.int IntKind.i64 c) :: []))) :: []))) :: ((1, (AO.fmap 1 (@encF (@List UInt8) Int (fun (k_13 : (@List UInt8)) => (AV.str k_13)) (cInt IntKind.u8) fs) none)) :: ((2, (AO.rows true (List.map disk_write.c l))) :: ((3, (AO.rows false (((AV.ptr 0 0 0) :: []) :: []))) :: ((4, (AO.rows true (List.map (cInt IntKind.i64) l_16))) :: []))))) 5 ?_ (fun _ => ?_))
        · conv => whnf
          refine Or.inl ?_
          conv => whnf
          obtain ⟨hg, h4⟩ := grd_e h4
          refine And.intro hg ?_
          conv => whnf
          obtain ⟨y_17, hy, h4⟩ := bind_e h4
          refine opt_i (cStr y_17) (getE rfl hy) ?_
          conv => whnf
          refine Or.inl ?_
          conv => whnf
          obtain ⟨y_18, hy, h4⟩ := bind_e h4
          refine ⟨_, _, (FC_close (wal_number_FC0 F y_17 y_18 hy) rfl), Or.inr ⟨[], rfl, ?_⟩⟩
          conv => whnf
          refine Or.inl ?_
          conv => whnf
          refine brn_i (fun hb => ?_) (fun hb => ?_)
          · replace h4 := cond_t h4 hb
            conv => whnf
            refine Or.inl ?_
            conv => whnf
            refine And.intro (LenAll.cons rfl LenAll.nil) ?_
            conv => whnf
            refine And.intro (LenAll.map (fun _ => rfl)) ?_
            conv => whnf
            obtain ⟨hg, h4⟩ := grd_e h4
            refine And.intro (by first | exact hg | (simp; done) | simpa using hg | simpa [chunk] using hg | (simp [chunk] at hg ⊢; omega)) ?_
            conv => whnf
            obtain rfl := Option.some.inj h4
            exact end_i trivial [(0, 0), (1, 1), (2, 2), (3, 3), (4, 101)] rfl (cons2 rfl (cons2 rfl (cons2 rfl (cons2 rfl (cons2 (congrArg (fun X => some (AO.rows true X)) (by first | (simp; done) | rfl | (rw [List.map_append]; rfl) | (simp [outR]; done) | (simp only [outR, Sum.elim_inr, id, List.map_append, List.map_map]; rfl))) rfl))))) rfl
          · replace h4 := cond_f h4 hb
            conv => whnf
            obtain rfl := Option.some.inj h4
            exact end_i trivial [(0, 0), (1, 1), (2, 2), (3, 3), (4, 4)] rfl rfl rfl
        · conv => whnf
          exact round_i (n_11, (IntKind.wrap IntKind.i64 (t26_12 + (1 : Int))), l_16) [(0, 0), (1, 1), (2, 2), (3, 3), (4, 4)] k4 (Nat.lt_succ_self _) rfl rfl rfl
      · replace h2 := cond_f h2 (by first | exact hb | (simp; done) | simpa using hb | simpa [chunk] using hb | (simp [chunk] at hb ⊢; omega))
        conv => whnf
        obtain rfl := Option.some.inj h2
        exact end_i trivial [(0, 0), (1, 1), (2, 2), (3, 3), (4, 4)] rfl rfl rfl
  · conv => whnf
    obtain ⟨y_19, hy, k2⟩ := bind_e k2
    refine Or.inr (callG_i [4] (slices_Sort___int_int__i1_FC0 F l_7 y_19 hy) rfl rfl rfl rfl ?_)
    conv => whnf
    refine Or.inl ?_
    conv => whnf
    obtain ⟨y_20, hy, k2⟩ := bind_e k2
    refine ⟨_, _, (FC_close (slices_Backward___int_int__FC0 F y_19 y_20 hy) rfl), Or.inr ⟨[4], rfl, ?_⟩⟩
    conv => whnf
    refine Or.inl ?_
    conv => whnf
    refine And.intro (by kernel_rfl) ?_
    conv => whnf
    obtain ⟨o5, h5, k5⟩ := bind_e k2
    refine ranges_i 36 y_20 46 47 13 (α := (Int × (List ((List UInt8) × (List Int))) × (List (List Int)) × Bool × (List disk_write) × (List UInt8) × Int × Int)) ((1, (AV.ptr 3 0 0)) :: ((9, (AV.ptr 4 0 0)) :: ((10, (AV.ptr 5 0 0)) :: ((11, (AV.ptr 6 0 0)) :: [])))) (fun xq => ((0, (AO.rows false (((AV.mapo 1) :: ((AV.osw 7 2) :: ((AV.int IntKind.i64 xq.1) :: []))) :: []))) :: ((1, (AO.fmap 1 (@encF (@List UInt8) Int (fun (k_13 : (@List UInt8)) => (AV.str k_13)) (cInt IntKind.u8) xq.2.1) none)) :: ((3, (AO.rows false (((AV.ptr 0 0 0) :: []) :: []))) :: ((4, (AO.rows false (((AV.ptr 8 0 0) :: []) :: []))) :: ((5, (AO.rows false (((AV.sl (List.map (cSl (cInt IntKind.u8)) xq.2.2.1)) :: []) :: []))) :: ((6, (AO.rows false (((AV.bool xq.2.2.2.1) :: []) :: []))) :: ((7, (AO.rows true (List.map disk_write.c xq.2.2.2.2.1))) :: ((8, (AO.rows false (((AV.ptr 0 0 0) :: ((AV.str xq.2.2.2.2.2.1) :: ((AV.int IntKind.i64 xq.2.2.2.2.2.2.1) :: ((AV.int IntKind.i64 xq.2.2.2.2.2.2.2) :: [])))) :: []))) :: []))))))))) 9 (fun kq xq => wal_Open_r1 F (List.drop kq (List.reverse y_20)) xq.1 xq.2.1 xq.2.2.1 xq.2.2.2.1 xq.2.2.2.2.1 xq.2.2.2.2.2.1 xq.2.2.2.2.2.2.1 xq.2.2.2.2.2.2.2 = some o5) (c, fs, [], false, l, ([] : List UInt8), (0 : Int), (0 : Int)) [(0, 0), (1, 1), (3, 3), (4, 45), (5, 61), (6, 69), (7, 2), (8, 37)] back_ok rfl rfl rfl h5 (WkL.cons (Wk.eq rfl) (WkL.cons (Wk.eq rfl) (WkL.cons (Wk.eq rfl) (WkL.cons (Wk.eq rfl) WkL.nil)))) (WkOs.cons (WkO.eq (Option.some.inj rfl)) (WkOs.cons (WkO.eq (Option.some.inj rfl)) (WkOs.cons (WkO.eq (Option.some.inj rfl)) (WkOs.cons (WkO.eq (Option.some.inj rfl)) (WkOs.cons (WkO.r (WkR.cons (WkL.cons Wk.esl WkL.nil) WkR.nil)) (WkOs.cons (WkO.eq (Option.some.inj rfl)) (WkOs.cons (WkO.eq (Option.some.inj rfl)) (WkOs.cons (WkO.eq (Option.some.inj rfl)) WkOs.nil)))))))) rfl (fun kq z_35 xq hk hI => ?_) (fun xq hI => ?_)
    · obtain ⟨c_37, fs_38, c_39, c_40, l_41, c_42, c_43, c_44⟩ := xq
      replace hI : wal_Open_r1 F (List.drop kq (List.reverse y_20)) c_37 fs_38 c_39 c_40 l_41 c_42 c_43 c_44 = some o5 := hI
      rw [drop_get hk, wal_Open_r1.eq_2] at hI
      clear h5
      have h5 := hI
      clear hI
      conv => whnf
      refine Or.inl ?_
      conv => whnf
      refine Or.inl ?_
      conv => whnf
      obtain ⟨y_45, hy, h5⟩ := bind_e h5
      refine ⟨_, _, (FC_close (strconv_Itoa_FC0 F z_35 y_45 hy) rfl), Or.inr ⟨[], rfl, ?_⟩⟩
      conv => whnf
      obtain ⟨hg, h5⟩ := grd_e h5
      refine And.intro hg ?_
      conv => whnf
      refine And.intro (by kernel_rfl) ?_
      conv => whnf
      obtain ⟨y_46, hy, h5⟩ := bind_e h5
      rcases y_46 with y_46 | y_46
      · replace h5 := elim_l h5
        refine Or.inr (callG_i [0, 1, 7] (__disk_Disk__Read_FC0 F (([108, 111, 103, 45] : List UInt8) ++ y_45) c_37 fs_38 l_41 y_46 hy) rfl rfl rfl rfl ?_)
        conv => whnf
        refine Or.inl ?_
        conv => whnf
        obtain ⟨y_47, hy, h5⟩ := bind_e h5
        refine ⟨_, _, (FC_close (wal_read_FC0 F y_46.2 y_47 hy) rfl), Or.inr ⟨[148], rfl, ?_⟩⟩
        conv => whnf
        obtain ⟨t80_48, h6, k6⟩ := bind_e h5
        refine Or.inr (joins_i True ((1, (AV.ptr 3 0 0)) :: ((9, (AV.ptr 4 0 0)) :: ((10, (AV.ptr 5 0 0)) :: ((11, (AV.ptr 6 0 0)) :: ((14, (AV.str (([108, 111, 103, 45] : List UInt8) ++ y_45))) :: ((15, (AV.osw 7 1)) :: ((17, (AV.sl (List.map (cSl (cInt IntKind.u8)) y_47.2.2))) :: ((18, (AV.int IntKind.i64 y_47.1)) :: ((80, (AV.bool t80_48)) :: []))))))))) ((0, (AO.rows false (((AV.mapo 1) :: ((AV.osw 8 2) :: ((AV.int IntKind.i64 c_37) :: []))) :: []))) :: ((1, (AO.fmap 1 (@encF (@List UInt8) Int (fun (k_13 : (@List UInt8)) => (AV.str k_13)) (cInt IntKind.u8) fs_38) none)) :: ((3, (AO.rows false (((AV.ptr 0 0 0) :: []) :: []))) :: ((4, (AO.rows false (((AV.ptr 9 0 0) :: []) :: []))) :: ((5, (AO.rows false (((AV.sl (List.map (cSl (cInt IntKind.u8)) c_39)) :: []) :: []))) :: ((6, (AO.rows false (((AV.bool c_40) :: []) :: []))) :: ((7, (AO.froz (List.map (cInt IntKind.u8) y_46.2))) :: ((8, (AO.rows true (List.map disk_write.c l_41))) :: ((9, (AO.rows false (((AV.ptr 0 0 0) :: ((AV.str c_42) :: ((AV.int IntKind.i64 (if (z_35 > c_43) then z_35 else c_43)) :: ((AV.int IntKind.i64 c_44) :: [])))) :: []))) :: []))))))))) 10 ?_ (fun _ => ?_))
        · conv => whnf
          refine Or.inl ?_
          conv => whnf
          refine brn_i (fun hb => ?_) (fun hb => ?_)
          · replace h6 := cond_t h6 hb
            conv => whnf
            obtain rfl := Option.some.inj h6
            exact end_i trivial [(0, 0), (1, 1), (2, 2), (3, 3), (4, 4), (5, 5), (6, 6), (7, 148), (8, 7), (9, 8)] rfl rfl rfl
          · replace h6 := cond_f h6 hb
            conv => whnf
            obtain rfl := Option.some.inj h6
            exact end_i trivial [(0, 0), (1, 1), (2, 2), (3, 3), (4, 4), (5, 5), (6, 6), (7, 148), (8, 7), (9, 8)] rfl rfl rfl
        · conv => whnf
          refine Or.inl ?_
          conv => whnf
          refine brn_i (fun hb => ?_) (fun hb => ?_)
          · replace k6 := cond_t k6 hb
            conv => whnf
            obtain ⟨y_49, hy, k6⟩ := bind_e k6
            refine Or.inr (callG_i [0, 1, 8] (__disk_Disk__Remove_FC0 F (([108, 111, 103, 45] : List UInt8) ++ y_45) c_37 fs_38 l_41 y_49 hy) rfl rfl rfl rfl ?_)
            conv => whnf
            exact ⟨(y_49.2.1, y_49.2.2.1, c_39, c_40, y_49.2.2.2, c_42, (if (z_35 > c_43) then z_35 else c_43), c_44), [(0, 0), (1, 1), (2, 2), (3, 3), (4, 4), (5, 5), (6, 6), (7, 29), (8, 9)], k6, rfl, (.of_eq rfl), (.of_eq rfl)⟩
          · replace k6 := cond_f k6 hb
            conv => whnf
            exact ⟨(c_37, fs_38, y_47.2.2, (y_47.1 == (@Nat.cast Int instNatCastInt (List.length (List.map (cInt IntKind.u8) y_46.2)))), l_41, (([108, 111, 103, 45] : List UInt8) ++ y_45), (if (z_35 > c_43) then z_35 else c_43), (@Nat.cast Int instNatCastInt (List.length (List.map (cSl (cInt IntKind.u8)) y_47.2.2)))), [(0, 0), (1, 1), (2, 2), (3, 3), (4, 4), (5, 5), (6, 6), (7, 8), (8, 9)], k6, rfl, (.of_eq rfl), (.of_eq rfl)⟩
      · replace h5 := elim_r h5
        refine Or.inr (callG_i [0, 1, 7] (__disk_Disk__Read_FC1 F (([108, 111, 103, 45] : List UInt8) ++ y_45) c_37 fs_38 l_41 y_46 hy) rfl rfl rfl rfl ?_)
        conv => whnf
        refine Or.inl ?_
        conv => whnf
        obtain ⟨y_50, hy, h5⟩ := bind_e h5
        refine ⟨_, _, (FC_close (wal_read_FC0 F y_46.1 y_50 hy) rfl), Or.inr ⟨[], rfl, ?_⟩⟩
        conv => whnf
        obtain ⟨t80_51, h7, k7⟩ := bind_e h5
        refine Or.inr (joins_i True ((1, (AV.ptr 3 0 0)) :: ((9, (AV.ptr 4 0 0)) :: ((10, (AV.ptr 5 0 0)) :: ((11, (AV.ptr 6 0 0)) :: ((14, (AV.str (([108, 111, 103, 45] : List UInt8) ++ y_45))) :: ((15, (AV.sl (List.map (cInt IntKind.u8) y_46.1))) :: ((17, (AV.sl (List.map (cSl (cInt IntKind.u8)) y_50.2.2))) :: ((18, (AV.int IntKind.i64 y_50.1)) :: ((80, (AV.bool t80_51)) :: []))))))))) ((0, (AO.rows false (((AV.mapo 1) :: ((AV.osw 7 2) :: ((AV.int IntKind.i64 c_37) :: []))) :: []))) :: ((1, (AO.fmap 1 (@encF (@List UInt8) Int (fun (k_13 : (@List UInt8)) => (AV.str k_13)) (cInt IntKind.u8) fs_38) none)) :: ((3, (AO.rows false (((AV.ptr 0 0 0) :: []) :: []))) :: ((4, (AO.rows false (((AV.ptr 8 0 0) :: []) :: []))) :: ((5, (AO.rows false (((AV.sl (List.map (cSl (cInt IntKind.u8)) c_39)) :: []) :: []))) :: ((6, (AO.rows false (((AV.bool c_40) :: []) :: []))) :: ((7, (AO.rows true (List.map disk_write.c l_41))) :: ((8, (AO.rows false (((AV.ptr 0 0 0) :: ((AV.str c_42) :: ((AV.int IntKind.i64 (if (z_35 > c_43) then z_35 else c_43)) :: ((AV.int IntKind.i64 c_44) :: [])))) :: []))) :: [])))))))) 9 ?_ (fun _ => ?_))
        · conv => whnf
          refine Or.inl ?_
          conv => whnf
          refine brn_i (fun hb => ?_) (fun hb => ?_)
          · replace h7 := cond_t h7 hb
            conv => whnf
            obtain rfl := Option.some.inj h7
            exact end_i trivial [(0, 0), (1, 1), (2, 2), (3, 3), (4, 4), (5, 5), (6, 6), (7, 7), (8, 8)] rfl rfl rfl
          · replace h7 := cond_f h7 hb
            conv => whnf
            obtain rfl := Option.some.inj h7
            exact end_i trivial [(0, 0), (1, 1), (2, 2), (3, 3), (4, 4), (5, 5), (6, 6), (7, 7), (8, 8)] rfl rfl rfl
        · conv => whnf
          refine Or.inl ?_
          conv => whnf
          refine brn_i (fun hb => ?_) (fun hb => ?_)
          · replace k7 := cond_t k7 hb
            conv => whnf
            obtain ⟨y_52, hy, k7⟩ := bind_e k7
            refine Or.inr (callG_i [0, 1, 7] (__disk_Disk__Remove_FC0 F (([108, 111, 103, 45] : List UInt8) ++ y_45) c_37 fs_38 l_41 y_52 hy) rfl rfl rfl rfl ?_)
            conv => whnf
            exact ⟨(y_52.2.1, y_52.2.2.1, c_39, c_40, y_52.2.2.2, c_42, (if (z_35 > c_43) then z_35 else c_43), c_44), [(0, 0), (1, 1), (2, 2), (3, 3), (4, 4), (5, 5), (6, 6), (7, 28), (8, 8)], k7, rfl, (.of_eq rfl), (.of_eq rfl)⟩
          · replace k7 := cond_f k7 hb
            conv => whnf
            exact ⟨(c_37, fs_38, y_50.2.2, (y_50.1 == (@Nat.cast Int instNatCastInt (List.length (List.map (cInt IntKind.u8) y_46.1)))), l_41, (([108, 111, 103, 45] : List UInt8) ++ y_45), (if (z_35 > c_43) then z_35 else c_43), (@Nat.cast Int instNatCastInt (List.length (List.map (cSl (cInt IntKind.u8)) y_50.2.2)))), [(0, 0), (1, 1), (2, 2), (3, 3), (4, 4), (5, 5), (6, 6), (7, 7), (8, 8)], k7, rfl, (.of_eq rfl), (.of_eq rfl)⟩
    · obtain ⟨c_53, fs_54, c_55, c_56, l_57, c_58, c_59, c_60⟩ := xq
      replace hI : wal_Open_r1 F (List.drop (List.length y_20) (List.reverse y_20)) c_53 fs_54 c_55 c_56 l_57 c_58 c_59 c_60 = some o5 := hI
      rw [drop_rev, wal_Open_r1.eq_1] at hI
      obtain rfl := Option.some.inj hI
      conv => whnf
      obtain ⟨o8, h8, k8⟩ := bind_e k5
      refine Or.inr (joins_i (o8 = Sum.inr (outR o8)) ((9, (AV.ptr 3 0 0)) :: ((10, (AV.ptr 4 0 0)) :: [])) ((0, (AO.rows false (((AV.mapo 1) :: ((AV.osw 5 2) :: ((AV.int IntKind.i64 (outR o8).1) :: []))) :: []))) :: ((1, (AO.fmap 1 (@encF (@List UInt8) Int (fun (k_13 : (@List UInt8)) => (AV.str k_13)) (cInt IntKind.u8) (outR o8).2.1) none)) :: ((3, (AO.rows false (((AV.ptr 6 0 0) :: []) :: []))) :: ((4, (AO.rows false (((AV.sl (List.map (cSl (cInt IntKind.u8)) c_55)) :: []) :: []))) :: ((5, (AO.rows true (List.map disk_write.c (outR o8).2.2.1))) :: ((6, (AO.rows false (((AV.ptr 0 0 0) :: ((AV.str (outR o8).2.2.2.1) :: ((AV.int IntKind.i64 (outR o8).2.2.2.2.1) :: ((AV.int IntKind.i64 (outR o8).2.2.2.2.2) :: [])))) :: []))) :: [])))))) 7 ?_ (fun hR => ?_))
      · conv => whnf
        refine Or.inl ?_
        conv => whnf
        refine brn_i (fun hb => ?_) (fun hb => ?_)
        · replace h8 := cond_t h8 hb
          conv => whnf
          obtain ⟨y_68, hy, h8⟩ := bind_e h8
          refine Or.inr (callG_i [8, 0, 1, 7] (__wal_Wal__Reset_FC0 F c_55 c_58 c_59 c_60 c_53 fs_54 l_57 y_68 hy) rfl rfl rfl rfl ?_)
          conv => whnf
          refine Or.inl ?_
          conv => whnf
          refine brn_i (fun hb => ?_) (fun hb => ?_)
          · replace h8 := cond_t h8 hb
            conv => whnf
            obtain rfl := Option.some.inj h8
            obtain rfl := Sum.inl.inj (Option.some.inj k8)
            exact endG_i [(0, 0), (1, 1), (2, 2), (3, 89), (4, 45)] rfl (cons2 rfl (cons2 rfl (cons2 (congrArg (fun X => some (AO.rows true X)) (by first | (simp; done) | rfl | (rw [List.map_append]; rfl) | (simp [outR]; done) | (simp only [outR, Sum.elim_inr, id, List.map_append, List.map_map]; rfl))) rfl))) rfl
          · replace h8 := cond_f h8 hb
            conv => whnf
            obtain rfl := Option.some.inj h8
            exact end_i rfl [(0, 0), (1, 1), (2, 2), (3, 4), (4, 5), (5, 45), (6, 8)] rfl rfl rfl
        · replace h8 := cond_f h8 hb
          conv => whnf
          obtain rfl := Option.some.inj h8
          exact end_i rfl [(0, 0), (1, 1), (2, 2), (3, 4), (4, 5), (5, 7), (6, 8)] rfl rfl rfl
      · replace k8 := elim_e hR k8
        generalize outR o8 = v at k8 ⊢
        obtain ⟨c_62, fs_63, l_64, c_65, c_66, c_67⟩ := v
        conv => whnf
        refine And.intro (by kernel_rfl) ?_
        conv => whnf
        cases (Option.some.inj k8)
theorem wal_Open_FC1 {ml : Gv} (F : Nat) (c : Int) (fs : (List ((List UInt8) × (List Int)))) (l : (List disk_write)) (r : ((List (List Int)) × Int × Int × (List ((List UInt8) × (List Int))) × (List UInt8) × Int × Int × (List disk_write))) (h : wal_Open F c fs l = some (Sum.inr r)) : FC Tryz.prog (GM ml) 8 ((0, (AO.rows false (((AV.mapo 1) :: ((AV.osw 2 2) :: ((AV.int IntKind.i64 c) :: []))) :: []))) :: ((1, (AO.fmap 1 (@encF (@List UInt8) Int (fun (k_13 : (@List UInt8)) => (AV.str k_13)) (cInt IntKind.u8) fs) none)) :: ((2, (AO.rows true (List.map disk_write.c l))) :: []))) [(AV.ptr 0 0 0)] (AV.tup ((AV.ptr 3 0 0) :: ((AV.sl (List.map (cSl (cInt IntKind.u8)) r.1)) :: ((AV.int IntKind.i64 r.2.1) :: [])))) ((0, (AO.rows false (((AV.mapo 1) :: ((AV.osw 4 2) :: ((AV.int IntKind.i64 r.2.2.1) :: []))) :: []))) :: ((1, (AO.fmap 1 (@encF (@List UInt8) Int (fun (k_13 : (@List UInt8)) => (AV.str k_13)) (cInt IntKind.u8) r.2.2.2.1) none)) :: ((3, (AO.rows false (((AV.ptr 0 0 0) :: ((AV.str r.2.2.2.2.1) :: ((AV.int IntKind.i64 r.2.2.2.2.2.1) :: ((AV.int IntKind.i64 r.2.2.2.2.2.2.1) :: [])))) :: []))) :: ((4, (AO.rows true (List.map disk_write.c r.2.2.2.2.2.2.2))) :: [])))) := by
  refine FC_ofG 2000 Tryz.func8 rfl (by kernel_rfl) mixed (by show 1 ≤ 108; decide) (by show 3 ≤ W; decide) rfl ?_
  unfold wal_Open at h
  conv => whnf
  refine Or.inl ?_
  conv => whnf
  obtain ⟨y_0, hy, h⟩ := bind_e h
  refine Or.inr (callG_i [0, 1, 2] (__disk_Disk__Names_FC0 F c fs l y_0 hy) rfl rfl rfl rfl ?_)
  conv => whnf
  obtain ⟨l_7, h2, k2⟩ := bind_e h
  refine Or.inr (joins_i True ((1, (AV.ptr 3 0 0)) :: ((5, (AV.osw 4 1)) :: [])) ((0, (AO.rows false (((AV.mapo 1) :: ((AV.osw 2 2) :: ((AV.int IntKind.i64 c) :: []))) :: []))) :: ((1, (AO.fmap 1 (@encF (@List UInt8) Int (fun (k_13 : (@List UInt8)) => (AV.str k_13)) (cInt IntKind.u8) fs) none)) :: ((2, (AO.rows true (List.map disk_write.c l))) :: ((3, (AO.rows false (((AV.ptr 0 0 0) :: []) :: []))) :: ((4, (AO.rows true (List.map (cInt IntKind.i64) l_7))) :: []))))) 5 ?_ (fun _ => ?_))
  · conv => whnf
    refine Or.inl ?_
    conv => whnf
    refine loops_i (α := (Nat × Int × (List Int))) (fun xq => ((1, (AV.ptr 3 0 0)) :: ((5, (AV.osw 4 1)) :: ((24, (AV.sl (List.map cStr y_0))) :: ((25, (AV.int IntKind.i64 (@Nat.cast Int instNatCastInt (List.length (List.map cStr y_0))))) :: ((26, (AV.int IntKind.i64 xq.2.1)) :: [])))))) (fun xq => ((0, (AO.rows false (((AV.mapo 1) :: ((AV.osw 2 2) :: ((AV.int IntKind.i64 c) :: []))) :: []))) :: ((1, (AO.fmap 1 (@encF (@List UInt8) Int (fun (k_13 : (@List UInt8)) => (AV.str k_13)) (cInt IntKind.u8) fs) none)) :: ((2, (AO.rows true (List.map disk_write.c l))) :: ((3, (AO.rows false (((AV.ptr 0 0 0) :: []) :: []))) :: ((4, (AO.rows true (List.map (cInt IntKind.i64) xq.2.2))) :: [])))))) 5 (fun xq => wal_Open_l0 F y_0 xq.1 xq.2.1 xq.2.2 = some l_7) (fun xq => xq.1) (F, (0 : Int), []) [(0, 0), (1, 1), (2, 2), (3, 8), (4, 56)] h2 rfl (cons2 rfl (cons2 rfl (cons2 rfl (cons2 rfl (cons2 (congrArg (fun X => some (AO.rows true X)) (by first | (simp; done) | rfl | (rw [List.map_append]; rfl) | (simp [outR]; done) | (simp only [outR, Sum.elim_inr, id, List.map_append, List.map_map]; rfl))) rfl))))) rfl ?_
    rintro ⟨n_11, t26_12, l_13⟩ h2
    replace h2 : wal_Open_l0 F y_0 n_11 t26_12 l_13 = some l_7 := h2
    cases n_11 with
    | zero => rw [wal_Open_l0.eq_1] at h2; cases h2
    | succ n_11 =>
      rw [wal_Open_l0.eq_2] at h2
      conv => whnf
      refine Or.inl ?_
      conv => whnf
      refine brn_i (fun hb => ?_) (fun hb => ?_)
      · replace h2 := cond_t h2 (by first | exact hb | (simp; done) | simpa using hb | simpa [chunk] using hb | (simp [chunk] at hb ⊢; omega))
        conv => whnf
        obtain ⟨l_16, h4, k4⟩ := bind_e h2
        refine Or.inr (joins_i True ((1, (AV.ptr 3 0 0)) :: ((5, (AV.osw 4 1)) :: ((24, (AV.sl (List.map cStr y_0))) :: ((25, (AV.int IntKind.i64 (@Nat.cast Int instNatCastInt (List.length (List.map cStr y_0))))) :: ((26, (AV.int IntKind.i64 t26_12)) :: []))))) ((0, (AO.rows false (((AV.mapo 1) :: ((AV.osw 2 2) :: ((AV.int IntKind.i64 c) :: []))) :: []))) :: ((1, (AO.fmap 1 (@encF (@List UInt8) Int (fun (k_13 : (@List UInt8)) => (AV.str k_13)) (cInt IntKind.u8) fs) none)) :: ((2, (AO.rows true (List.map disk_write.c l))) :: ((3, (AO.rows false (((AV.ptr 0 0 0) :: []) :: []))) :: ((4, (AO.rows true (List.map (cInt IntKind.i64) l_16))) :: []))))) 5 ?_ (fun _ => ?_))
        · conv => whnf
          refine Or.inl ?_
          conv => whnf
          obtain ⟨hg, h4⟩ := grd_e h4
          refine And.intro hg ?_
          conv => whnf
          obtain ⟨y_17, hy, h4⟩ := bind_e h4
          refine opt_i (cStr y_17) (getE rfl hy) ?_
          conv => whnf
          refine Or.inl ?_
          conv => whnf
          obtain ⟨y_18, hy, h4⟩ := bind_e h4
          refine ⟨_, _, (FC_close (wal_number_FC0 F y_17 y_18 hy) rfl), Or.inr ⟨[], rfl, ?_⟩⟩
          conv => whnf
          refine Or.inl ?_
          conv => whnf
          refine brn_i (fun hb => ?_) (fun hb => ?_)
          · replace h4 := cond_t h4 hb
            conv => whnf
            refine Or.inl ?_
            conv => whnf
            refine And.intro (LenAll.cons rfl LenAll.nil) ?_
            conv => whnf
            refine And.intro (LenAll.map (fun _ => rfl)) ?_
            conv => whnf
            obtain ⟨hg, h4⟩ := grd_e h4
            refine And.intro (by first | exact hg | (simp; done) | simpa using hg | simpa [chunk] using hg | (simp [chunk] at hg ⊢; omega)) ?_
            conv => whnf
            obtain rfl := Option.some.inj h4
            exact end_i trivial [(0, 0), (1, 1), (2, 2), (3, 3), (4, 101)] rfl (cons2 rfl (cons2 rfl (cons2 rfl (cons2 rfl (cons2 (congrArg (fun X => some (AO.rows true X)) (by first | (simp; done) | rfl | (rw [List.map_append]; rfl) | (simp [outR]; done) | (simp only [outR, Sum.elim_inr, id, List.map_append, List.map_map]; rfl))) rfl))))) rfl
          · replace h4 := cond_f h4 hb
            conv => whnf
            obtain rfl := Option.some.inj h4
            exact end_i trivial [(0, 0), (1, 1), (2, 2), (3, 3), (4, 4)] rfl rfl rfl
        · conv => whnf
          exact round_i (n_11, (IntKind.wrap IntKind.i64 (t26_12 + (1 : Int))), l_16) [(0, 0), (1, 1), (2, 2), (3, 3), (4, 4)] k4 (Nat.lt_succ_self _) rfl rfl rfl
      · replace h2 := cond_f h2 (by first | exact hb | (simp; done) | simpa using hb | simpa [chunk] using hb | (simp [chunk] at hb ⊢; omega))
        conv => whnf
        obtain rfl := Option.some.inj h2
        exact end_i trivial [(0, 0), (1, 1), (2, 2), (3, 3), (4, 4)] rfl rfl rfl
  · conv => whnf
    obtain ⟨y_19, hy, k2⟩ := bind_e k2
    refine Or.inr (callG_i [4] (slices_Sort___int_int__i1_FC0 F l_7 y_19 hy) rfl rfl rfl rfl ?_)
    conv => whnf
    refine Or.inl ?_
    conv => whnf
    obtain ⟨y_20, hy, k2⟩ := bind_e k2
    refine ⟨_, _, (FC_close (slices_Backward___int_int__FC0 F y_19 y_20 hy) rfl), Or.inr ⟨[4], rfl, ?_⟩⟩
    conv => whnf
    refine Or.inl ?_
    conv => whnf
    refine And.intro (by kernel_rfl) ?_
    conv => whnf
    obtain ⟨o5, h5, k5⟩ := bind_e k2
    refine ranges_i 36 y_20 46 47 13 (α := (Int × (List ((List UInt8) × (List Int))) × (List (List Int)) × Bool × (List disk_write) × (List UInt8) × Int × Int)) ((1, (AV.ptr 3 0 0)) :: ((9, (AV.ptr 4 0 0)) :: ((10, (AV.ptr 5 0 0)) :: ((11, (AV.ptr 6 0 0)) :: [])))) (fun xq => ((0, (AO.rows false (((AV.mapo 1) :: ((AV.osw 7 2) :: ((AV.int IntKind.i64 xq.1) :: []))) :: []))) :: ((1, (AO.fmap 1 (@encF (@List UInt8) Int (fun (k_13 : (@List UInt8)) => (AV.str k_13)) (cInt IntKind.u8) xq.2.1) none)) :: ((3, (AO.rows false (((AV.ptr 0 0 0) :: []) :: []))) :: ((4, (AO.rows false (((AV.ptr 8 0 0) :: []) :: []))) :: ((5, (AO.rows false (((AV.sl (List.map (cSl (cInt IntKind.u8)) xq.2.2.1)) :: []) :: []))) :: ((6, (AO.rows false (((AV.bool xq.2.2.2.1) :: []) :: []))) :: ((7, (AO.rows true (List.map disk_write.c xq.2.2.2.2.1))) :: ((8, (AO.rows false (((AV.ptr 0 0 0) :: ((AV.str xq.2.2.2.2.2.1) :: ((AV.int IntKind.i64 xq.2.2.2.2.2.2.1) :: ((AV.int IntKind.i64 xq.2.2.2.2.2.2.2) :: [])))) :: []))) :: []))))))))) 9 (fun kq xq => wal_Open_r1 F (List.drop kq (List.reverse y_20)) xq.1 xq.2.1 xq.2.2.1 xq.2.2.2.1 xq.2.2.2.2.1 xq.2.2.2.2.2.1 xq.2.2.2.2.2.2.1 xq.2.2.2.2.2.2.2 = some o5) (c, fs, [], false, l, ([] : List UInt8), (0 : Int), (0 : Int)) [(0, 0), (1, 1), (3, 3), (4, 45), (5, 61), (6, 69), (7, 2), (8, 37)] back_ok rfl rfl rfl h5 (WkL.cons (Wk.eq rfl) (WkL.cons (Wk.eq rfl) (WkL.cons (Wk.eq rfl) (WkL.cons (Wk.eq rfl) WkL.nil)))) (WkOs.cons (WkO.eq (Option.some.inj rfl)) (WkOs.cons (WkO.eq (Option.some.inj rfl)) (WkOs.cons (WkO.eq (Option.some.inj rfl)) (WkOs.cons (WkO.eq (Option.some.inj rfl)) (WkOs.cons (WkO.r (WkR.cons (WkL.cons Wk.esl WkL.nil) WkR.nil)) (WkOs.cons (WkO.eq (Option.some.inj rfl)) (WkOs.cons (WkO.eq (Option.some.inj rfl)) (WkOs.cons (WkO.eq (Option.some.inj rfl)) WkOs.nil)))))))) rfl (fun kq z_35 xq hk hI => ?_) (fun xq hI => ?_)
    · obtain ⟨c_37, fs_38, c_39, c_40, l_41, c_42, c_43, c_44⟩ := xq
      replace hI : wal_Open_r1 F (List.drop kq (List.reverse y_20)) c_37 fs_38 c_39 c_40 l_41 c_42 c_43 c_44 = some o5 := hI
      rw [drop_get hk, wal_Open_r1.eq_2] at hI
      clear h5
      have h5 := hI
      clear hI
      conv => whnf
      refine Or.inl ?_
      conv => whnf
      refine Or.inl ?_
      conv => whnf
      obtain ⟨y_45, hy, h5⟩ := bind_e h5
      refine ⟨_, _, (FC_close (strconv_Itoa_FC0 F z_35 y_45 hy) rfl), Or.inr ⟨[], rfl, ?_⟩⟩
      conv => whnf
      obtain ⟨hg, h5⟩ := grd_e h5
      refine And.intro hg ?_
      conv => whnf
      refine And.intro (by kernel_rfl) ?_
      conv => whnf
      obtain ⟨y_46, hy, h5⟩ := bind_e h5
      rcases y_46 with y_46 | y_46
      · replace h5 := elim_l h5
        refine Or.inr (callG_i [0, 1, 7] (__disk_Disk__Read_FC0 F (([108, 111, 103, 45] : List UInt8) ++ y_45) c_37 fs_38 l_41 y_46 hy) rfl rfl rfl rfl ?_)
        conv => whnf
        refine Or.inl ?_
        conv => whnf
        obtain ⟨y_47, hy, h5⟩ := bind_e h5
        refine ⟨_, _, (FC_close (wal_read_FC0 F y_46.2 y_47 hy) rfl), Or.inr ⟨[148], rfl, ?_⟩⟩
        conv => whnf
        obtain ⟨t80_48, h6, k6⟩ := bind_e h5
        refine Or.inr (joins_i True ((1, (AV.ptr 3 0 0)) :: ((9, (AV.ptr 4 0 0)) :: ((10, (AV.ptr 5 0 0)) :: ((11, (AV.ptr 6 0 0)) :: ((14, (AV.str (([108, 111, 103, 45] : List UInt8) ++ y_45))) :: ((15, (AV.osw 7 1)) :: ((17, (AV.sl (List.map (cSl (cInt IntKind.u8)) y_47.2.2))) :: ((18, (AV.int IntKind.i64 y_47.1)) :: ((80, (AV.bool t80_48)) :: []))))))))) ((0, (AO.rows false (((AV.mapo 1) :: ((AV.osw 8 2) :: ((AV.int IntKind.i64 c_37) :: []))) :: []))) :: ((1, (AO.fmap 1 (@encF (@List UInt8) Int (fun (k_13 : (@List UInt8)) => (AV.str k_13)) (cInt IntKind.u8) fs_38) none)) :: ((3, (AO.rows false (((AV.ptr 0 0 0) :: []) :: []))) :: ((4, (AO.rows false (((AV.ptr 9 0 0) :: []) :: []))) :: ((5, (AO.rows false (((AV.sl (List.map (cSl (cInt IntKind.u8)) c_39)) :: []) :: []))) :: ((6, (AO.rows false (((AV.bool c_40) :: []) :: []))) :: ((7, (AO.froz (List.map (cInt IntKind.u8) y_46.2))) :: ((8, (AO.rows true (List.map disk_write.c l_41))) :: ((9, (AO.rows false (((AV.ptr 0 0 0) :: ((AV.str c_42) :: ((AV.int IntKind.i64 (if (z_35 > c_43) then z_35 else c_43)) :: ((AV.int IntKind.i64 c_44) :: [])))) :: []))) :: []))))))))) 10 ?_ (fun _ => ?_))
        · conv => whnf
          refine Or.inl ?_
          conv => whnf
          refine brn_i (fun hb => ?_) (fun hb => ?_)
          · replace h6 := cond_t h6 hb
            conv => whnf
            obtain rfl := Option.some.inj h6
            exact end_i trivial [(0, 0), (1, 1), (2, 2), (3, 3), (4, 4), (5, 5), (6, 6), (7, 148), (8, 7), (9, 8)] rfl rfl rfl
          · replace h6 := cond_f h6 hb
            conv => whnf
            obtain rfl := Option.some.inj h6
            exact end_i trivial [(0, 0), (1, 1), (2, 2), (3, 3), (4, 4), (5, 5), (6, 6), (7, 148), (8, 7), (9, 8)] rfl rfl rfl
        · conv => whnf
          refine Or.inl ?_
          conv => whnf
          refine brn_i (fun hb => ?_) (fun hb => ?_)
          · replace k6 := cond_t k6 hb
            conv => whnf
            obtain ⟨y_49, hy, k6⟩ := bind_e k6
            refine Or.inr (callG_i [0, 1, 8] (__disk_Disk__Remove_FC0 F (([108, 111, 103, 45] : List UInt8) ++ y_45) c_37 fs_38 l_41 y_49 hy) rfl rfl rfl rfl ?_)
            conv => whnf
            exact ⟨(y_49.2.1, y_49.2.2.1, c_39, c_40, y_49.2.2.2, c_42, (if (z_35 > c_43) then z_35 else c_43), c_44), [(0, 0), (1, 1), (2, 2), (3, 3), (4, 4), (5, 5), (6, 6), (7, 29), (8, 9)], k6, rfl, (.of_eq rfl), (.of_eq rfl)⟩
          · replace k6 := cond_f k6 hb
            conv => whnf
            exact ⟨(c_37, fs_38, y_47.2.2, (y_47.1 == (@Nat.cast Int instNatCastInt (List.length (List.map (cInt IntKind.u8) y_46.2)))), l_41, (([108, 111, 103, 45] : List UInt8) ++ y_45), (if (z_35 > c_43) then z_35 else c_43), (@Nat.cast Int instNatCastInt (List.length (List.map (cSl (cInt IntKind.u8)) y_47.2.2)))), [(0, 0), (1, 1), (2, 2), (3, 3), (4, 4), (5, 5), (6, 6), (7, 8), (8, 9)], k6, rfl, (.of_eq rfl), (.of_eq rfl)⟩
      · replace h5 := elim_r h5
        refine Or.inr (callG_i [0, 1, 7] (__disk_Disk__Read_FC1 F (([108, 111, 103, 45] : List UInt8) ++ y_45) c_37 fs_38 l_41 y_46 hy) rfl rfl rfl rfl ?_)
        conv => whnf
        refine Or.inl ?_
        conv => whnf
        obtain ⟨y_50, hy, h5⟩ := bind_e h5
        refine ⟨_, _, (FC_close (wal_read_FC0 F y_46.1 y_50 hy) rfl), Or.inr ⟨[], rfl, ?_⟩⟩
        conv => whnf
        obtain ⟨t80_51, h7, k7⟩ := bind_e h5
        refine Or.inr (joins_i True ((1, (AV.ptr 3 0 0)) :: ((9, (AV.ptr 4 0 0)) :: ((10, (AV.ptr 5 0 0)) :: ((11, (AV.ptr 6 0 0)) :: ((14, (AV.str (([108, 111, 103, 45] : List UInt8) ++ y_45))) :: ((15, (AV.sl (List.map (cInt IntKind.u8) y_46.1))) :: ((17, (AV.sl (List.map (cSl (cInt IntKind.u8)) y_50.2.2))) :: ((18, (AV.int IntKind.i64 y_50.1)) :: ((80, (AV.bool t80_51)) :: []))))))))) ((0, (AO.rows false (((AV.mapo 1) :: ((AV.osw 7 2) :: ((AV.int IntKind.i64 c_37) :: []))) :: []))) :: ((1, (AO.fmap 1 (@encF (@List UInt8) Int (fun (k_13 : (@List UInt8)) => (AV.str k_13)) (cInt IntKind.u8) fs_38) none)) :: ((3, (AO.rows false (((AV.ptr 0 0 0) :: []) :: []))) :: ((4, (AO.rows false (((AV.ptr 8 0 0) :: []) :: []))) :: ((5, (AO.rows false (((AV.sl (List.map (cSl (cInt IntKind.u8)) c_39)) :: []) :: []))) :: ((6, (AO.rows false (((AV.bool c_40) :: []) :: []))) :: ((7, (AO.rows true (List.map disk_write.c l_41))) :: ((8, (AO.rows false (((AV.ptr 0 0 0) :: ((AV.str c_42) :: ((AV.int IntKind.i64 (if (z_35 > c_43) then z_35 else c_43)) :: ((AV.int IntKind.i64 c_44) :: [])))) :: []))) :: [])))))))) 9 ?_ (fun _ => ?_))
        · conv => whnf
          refine Or.inl ?_
          conv => whnf
          refine brn_i (fun hb => ?_) (fun hb => ?_)
          · replace h7 := cond_t h7 hb
            conv => whnf
            obtain rfl := Option.some.inj h7
            exact end_i trivial [(0, 0), (1, 1), (2, 2), (3, 3), (4, 4), (5, 5), (6, 6), (7, 7), (8, 8)] rfl rfl rfl
          · replace h7 := cond_f h7 hb
            conv => whnf
            obtain rfl := Option.some.inj h7
            exact end_i trivial [(0, 0), (1, 1), (2, 2), (3, 3), (4, 4), (5, 5), (6, 6), (7, 7), (8, 8)] rfl rfl rfl
        · conv => whnf
          refine Or.inl ?_
          conv => whnf
          refine brn_i (fun hb => ?_) (fun hb => ?_)
          · replace k7 := cond_t k7 hb
            conv => whnf
            obtain ⟨y_52, hy, k7⟩ := bind_e k7
            refine Or.inr (callG_i [0, 1, 7] (__disk_Disk__Remove_FC0 F (([108, 111, 103, 45] : List UInt8) ++ y_45) c_37 fs_38 l_41 y_52 hy) rfl rfl rfl rfl ?_)
            conv => whnf
            exact ⟨(y_52.2.1, y_52.2.2.1, c_39, c_40, y_52.2.2.2, c_42, (if (z_35 > c_43) then z_35 else c_43), c_44), [(0, 0), (1, 1), (2, 2), (3, 3), (4, 4), (5, 5), (6, 6), (7, 28), (8, 8)], k7, rfl, (.of_eq rfl), (.of_eq rfl)⟩
          · replace k7 := cond_f k7 hb
            conv => whnf
            exact ⟨(c_37, fs_38, y_50.2.2, (y_50.1 == (@Nat.cast Int instNatCastInt (List.length (List.map (cInt IntKind.u8) y_46.1)))), l_41, (([108, 111, 103, 45] : List UInt8) ++ y_45), (if (z_35 > c_43) then z_35 else c_43), (@Nat.cast Int instNatCastInt (List.length (List.map (cSl (cInt IntKind.u8)) y_50.2.2)))), [(0, 0), (1, 1), (2, 2), (3, 3), (4, 4), (5, 5), (6, 6), (7, 7), (8, 8)], k7, rfl, (.of_eq rfl), (.of_eq rfl)⟩
    · obtain ⟨c_53, fs_54, c_55, c_56, l_57, c_58, c_59, c_60⟩ := xq
      replace hI : wal_Open_r1 F (List.drop (List.length y_20) (List.reverse y_20)) c_53 fs_54 c_55 c_56 l_57 c_58 c_59 c_60 = some o5 := hI
      rw [drop_rev, wal_Open_r1.eq_1] at hI
      obtain rfl := Option.some.inj hI
      conv => whnf
      obtain ⟨o8, h8, k8⟩ := bind_e k5
      refine Or.inr (joins_i (o8 = Sum.inr (outR o8)) ((9, (AV.ptr 3 0 0)) :: ((10, (AV.ptr 4 0 0)) :: [])) ((0, (AO.rows false (((AV.mapo 1) :: ((AV.osw 5 2) :: ((AV.int IntKind.i64 (outR o8).1) :: []))) :: []))) :: ((1, (AO.fmap 1 (@encF (@List UInt8) Int (fun (k_13 : (@List UInt8)) => (AV.str k_13)) (cInt IntKind.u8) (outR o8).2.1) none)) :: ((3, (AO.rows false (((AV.ptr 6 0 0) :: []) :: []))) :: ((4, (AO.rows false (((AV.sl (List.map (cSl (cInt IntKind.u8)) c_55)) :: []) :: []))) :: ((5, (AO.rows true (List.map disk_write.c (outR o8).2.2.1))) :: ((6, (AO.rows false (((AV.ptr 0 0 0) :: ((AV.str (outR o8).2.2.2.1) :: ((AV.int IntKind.i64 (outR o8).2.2.2.2.1) :: ((AV.int IntKind.i64 (outR o8).2.2.2.2.2) :: [])))) :: []))) :: [])))))) 7 ?_ (fun hR => ?_))
      · conv => whnf
        refine Or.inl ?_
        conv => whnf
        refine brn_i (fun hb => ?_) (fun hb => ?_)
        · replace h8 := cond_t h8 hb
          conv => whnf
          obtain ⟨y_68, hy, h8⟩ := bind_e h8
          refine Or.inr (callG_i [8, 0, 1, 7] (__wal_Wal__Reset_FC0 F c_55 c_58 c_59 c_60 c_53 fs_54 l_57 y_68 hy) rfl rfl rfl rfl ?_)
          conv => whnf
          refine Or.inl ?_
          conv => whnf
          refine brn_i (fun hb => ?_) (fun hb => ?_)
          · replace h8 := cond_t h8 hb
            conv => whnf
            obtain rfl := Option.some.inj h8
            cases (Option.some.inj k8)
          · replace h8 := cond_f h8 hb
            conv => whnf
            obtain rfl := Option.some.inj h8
            exact end_i rfl [(0, 0), (1, 1), (2, 2), (3, 4), (4, 5), (5, 45), (6, 8)] rfl rfl rfl
        · replace h8 := cond_f h8 hb
          conv => whnf
          obtain rfl := Option.some.inj h8
          exact end_i rfl [(0, 0), (1, 1), (2, 2), (3, 4), (4, 5), (5, 7), (6, 8)] rfl rfl rfl
      · replace k8 := elim_e hR k8
        generalize outR o8 = v at k8 ⊢
        obtain ⟨c_62, fs_63, l_64, c_65, c_66, c_67⟩ := v
        conv => whnf
        refine And.intro (by kernel_rfl) ?_
        conv => whnf
        obtain rfl := Sum.inr.inj (Option.some.inj k8)
        exact endG_i [(0, 0), (1, 1), (2, 2), (3, 6), (4, 5)] rfl rfl rfl

theorem __wal_Wal__File_FC0 {ml : Gv} (F : Nat) (c : (List UInt8)) (c_1 : Int) (c_2 : Int) (c_3 : Int) (fs : (List ((List UInt8) × (List Int)))) (l : (List disk_write)) (r : (List UInt8)) (h : __wal_Wal__File F c c_1 c_2 c_3 fs l = some r) : FC Tryz.prog (GM ml) 16 ((0, (AO.rows false (((AV.ptr 1 0 0) :: ((AV.str c) :: ((AV.int IntKind.i64 c_1) :: ((AV.int IntKind.i64 c_2) :: [])))) :: []))) :: ((1, (AO.rows false (((AV.mapo 2) :: ((AV.osw 3 2) :: ((AV.int IntKind.i64 c_3) :: []))) :: []))) :: ((2, (AO.fmap 1 (@encF (@List UInt8) Int (fun (k_13 : (@List UInt8)) => (AV.str k_13)) (cInt IntKind.u8) fs) none)) :: ((3, (AO.rows true (List.map disk_write.c l))) :: [])))) [(AV.ptr 0 0 0)] (AV.str r) ((0, (AO.rows false (((AV.ptr 1 0 0) :: ((AV.str c) :: ((AV.int IntKind.i64 c_1) :: ((AV.int IntKind.i64 c_2) :: [])))) :: []))) :: ((1, (AO.rows false (((AV.mapo 2) :: ((AV.osw 3 2) :: ((AV.int IntKind.i64 c_3) :: []))) :: []))) :: ((2, (AO.fmap 1 (@encF (@List UInt8) Int (fun (k_13 : (@List UInt8)) => (AV.str k_13)) (cInt IntKind.u8) fs) none)) :: ((3, (AO.rows true (List.map disk_write.c l))) :: [])))) := by
  refine FC_ofG 2000 Tryz.func16 rfl (by kernel_rfl) mixed (by show 1 ≤ 9; decide) (by show 4 ≤ W; decide) rfl ?_
  unfold __wal_Wal__File at h
  conv => whnf
  refine Or.inl ?_
  conv => whnf
  obtain rfl := Option.some.inj h
  exact endG_i [(0, 0), (1, 1), (2, 2), (3, 3)] rfl rfl rfl

theorem __wal_Wal__Append_FC0 {ml : Gv} (F : Nat) (c : (List UInt8)) (c_1 : Int) (c_2 : Int) (l : (List Int)) (c_4 : Int) (fs : (List ((List UInt8) × (List Int)))) (l_6 : (List disk_write)) (r : (Int × (List UInt8) × Int × Int × (List Int) × Int × (List ((List UInt8) × (List Int))) × (List disk_write))) (h : __wal_Wal__Append F c c_1 c_2 l c_4 fs l_6 = some r) : FC Tryz.prog (GM ml) 9 ((0, (AO.rows false (((AV.ptr 2 0 0) :: ((AV.str c) :: ((AV.int IntKind.i64 c_1) :: ((AV.int IntKind.i64 c_2) :: [])))) :: []))) :: ((1, (AO.rows true (List.map (cInt IntKind.u8) l))) :: ((2, (AO.rows false (((AV.mapo 3) :: ((AV.osw 4 2) :: ((AV.int IntKind.i64 c_4) :: []))) :: []))) :: ((3, (AO.fmap 1 (@encF (@List UInt8) Int (fun (k_13 : (@List UInt8)) => (AV.str k_13)) (cInt IntKind.u8) fs) none)) :: ((4, (AO.rows true (List.map disk_write.c l_6))) :: []))))) [(AV.ptr 0 0 0), (AV.osw 1 1)] (AV.int IntKind.i64 r.1) ((0, (AO.rows false (((AV.ptr 2 0 0) :: ((AV.str r.2.1) :: ((AV.int IntKind.i64 r.2.2.1) :: ((AV.int IntKind.i64 r.2.2.2.1) :: [])))) :: []))) :: ((1, (AO.froz (List.map (cInt IntKind.u8) r.2.2.2.2.1))) :: ((2, (AO.rows false (((AV.mapo 3) :: ((AV.osw 5 2) :: ((AV.int IntKind.i64 r.2.2.2.2.2.1) :: []))) :: []))) :: ((3, (AO.fmap 1 (@encF (@List UInt8) Int (fun (k_13 : (@List UInt8)) => (AV.str k_13)) (cInt IntKind.u8) r.2.2.2.2.2.2.1) none)) :: ((5, (AO.rows true (List.map disk_write.c r.2.2.2.2.2.2.2))) :: []))))) := by
  refine FC_ofG 2000 Tryz.func9 rfl (by kernel_rfl) mixed (by show 2 ≤ 44; decide) (by show 5 ≤ W; decide) rfl ?_
  unfold __wal_Wal__Append at h
  conv => whnf
  refine Or.inl ?_
  conv => whnf
  refine Or.inl ?_
  conv => whnf
  refine Or.inl ?_
  conv => whnf
  obtain ⟨y_0, hy, h⟩ := bind_e h
  refine ⟨_, _, (wal_framed_FC F l y_0 hy), Or.inr ⟨[1], rfl, ?_⟩⟩
  conv => whnf
  refine Or.inl ?_
  conv => whnf
  refine brn_i (fun hb => ?_) (fun hb => ?_)
  · replace h := cond_t h hb
    conv => whnf
    obtain rfl := Option.some.inj h
    exact endG_i [(0, 0), (1, 1), (2, 2), (3, 3), (5, 4)] rfl rfl rfl
  · replace h := cond_f h hb
    conv => whnf
    obtain ⟨y_1, hy, h⟩ := bind_e h
    refine Or.inr (callG_i [2, 3, 4] (__disk_Disk__Append_FC0 F c y_0.1 c_4 fs l_6 y_1 hy) rfl rfl rfl rfl ?_)
    conv => whnf
    refine And.intro (by kernel_rfl) ?_
    conv => whnf
    refine Or.inl ?_
    conv => whnf
    refine brn_i (fun hb => ?_) (fun hb => ?_)
    · replace h := cond_t h hb
      conv => whnf
      obtain rfl := Option.some.inj h
      exact endG_i [(0, 0), (1, 1), (2, 2), (3, 3), (4, 4), (5, 235)] rfl rfl rfl
    · replace h := cond_f h hb
      conv => whnf
      obtain rfl := Option.some.inj h
      exact endG_i [(0, 0), (1, 1), (2, 2), (3, 3), (4, 4), (5, 235)] rfl rfl rfl

theorem __wal_Wal__Sync_FC0 {ml : Gv} (F : Nat) (c : (List UInt8)) (c_1 : Int) (c_2 : Int) (c_3 : Int) (fs : (List ((List UInt8) × (List Int)))) (l : (List disk_write)) (r : (Int × Int × (List disk_write))) (h : __wal_Wal__Sync F c c_1 c_2 c_3 fs l = some r) : FC Tryz.prog (GM ml) 10 ((0, (AO.rows false (((AV.ptr 1 0 0) :: ((AV.str c) :: ((AV.int IntKind.i64 c_1) :: ((AV.int IntKind.i64 c_2) :: [])))) :: []))) :: ((1, (AO.rows false (((AV.mapo 2) :: ((AV.osw 3 2) :: ((AV.int IntKind.i64 c_3) :: []))) :: []))) :: ((2, (AO.fmap 1 (@encF (@List UInt8) Int (fun (k_13 : (@List UInt8)) => (AV.str k_13)) (cInt IntKind.u8) fs) none)) :: ((3, (AO.rows true (List.map disk_write.c l))) :: [])))) [(AV.ptr 0 0 0)] (AV.int IntKind.i64 r.1) ((0, (AO.rows false (((AV.ptr 1 0 0) :: ((AV.str c) :: ((AV.int IntKind.i64 c_1) :: ((AV.int IntKind.i64 c_2) :: [])))) :: []))) :: ((1, (AO.rows false (((AV.mapo 2) :: ((AV.osw 4 2) :: ((AV.int IntKind.i64 r.2.1) :: []))) :: []))) :: ((2, (AO.fmap 1 (@encF (@List UInt8) Int (fun (k_13 : (@List UInt8)) => (AV.str k_13)) (cInt IntKind.u8) fs) none)) :: ((4, (AO.rows true (List.map disk_write.c r.2.2))) :: [])))) := by
  refine FC_ofG 2000 Tryz.func10 rfl (by kernel_rfl) mixed (by show 1 ≤ 21; decide) (by show 4 ≤ W; decide) rfl ?_
  unfold __wal_Wal__Sync at h
  conv => whnf
  refine Or.inl ?_
  conv => whnf
  refine Or.inl ?_
  conv => whnf
  obtain ⟨y_0, hy, h⟩ := bind_e h
  refine Or.inr (callG_i [1, 2, 3] (__disk_Disk__Sync_FC0 F c c_3 fs l y_0 hy) rfl rfl rfl rfl ?_)
  conv => whnf
  refine And.intro (by kernel_rfl) ?_
  conv => whnf
  obtain rfl := Option.some.inj h
  exact endG_i [(0, 0), (1, 1), (2, 2), (3, 3), (4, 155)] rfl rfl rfl

theorem __disk_Disk__Crash_FC0 {ml : Gv} (F : Nat) (keep : Int) (torn : Int) (c : Int) (fs : (List ((List UInt8) × (List Int)))) (l : (List disk_write)) (r : (Int × (List ((List UInt8) × (List Int))))) (h : __disk_Disk__Crash F keep torn c fs l = some r) : FC Tryz.prog (GM ml) 12 ((0, (AO.rows false (((AV.mapo 1) :: ((AV.osw 2 2) :: ((AV.int IntKind.i64 c) :: []))) :: []))) :: ((1, (AO.fmap 1 (@encF (@List UInt8) Int (fun (k_13 : (@List UInt8)) => (AV.str k_13)) (cInt IntKind.u8) fs) none)) :: ((2, (AO.rows true (List.map disk_write.c l))) :: []))) [(AV.ptr 0 0 0), (AV.int IntKind.i64 keep), (AV.int IntKind.i64 torn)] (AV.tup []) ((0, (AO.rows false (((AV.mapo 1) :: ((AV.osw 3 2) :: ((AV.int IntKind.i64 r.1) :: []))) :: []))) :: ((1, (AO.fmap 1 (@encF (@List UInt8) Int (fun (k_13 : (@List UInt8)) => (AV.str k_13)) (cInt IntKind.u8) r.2) none)) :: ((2, (AO.rows true (List.map disk_write.c l))) :: ((3, (AO.rows true [])) :: [])))) := by
  refine FC_void (os := ((0, (AO.rows false (((AV.mapo 1) :: (AV.esl :: ((AV.int IntKind.i64 r.1) :: []))) :: []))) :: ((1, (AO.fmap 1 (@encF (@List UInt8) Int (fun (k_13 : (@List UInt8)) => (AV.str k_13)) (cInt IntKind.u8) r.2) none)) :: ((2, (AO.rows true (List.map disk_write.c l))) :: [])))) 0 0 1 2 ?_ (by show 3 ≤ W; decide) rfl rfl rfl rfl (endG_i [(0, 0), (1, 1), (2, 2), (3, 8)] rfl rfl rfl)
  refine FC_ofG 2000 Tryz.func12 rfl (by kernel_rfl) mixed (by show 3 ≤ 80; decide) (by show 3 ≤ W; decide) rfl ?_
  unfold __disk_Disk__Crash at h
  conv => whnf
  refine Or.inl ?_
  conv => whnf
  obtain ⟨o4, h4, k4⟩ := bind_e h
  refine Or.inr (joins_i True ((0, (AV.ptr 0 0 0)) :: []) ((0, (AO.rows false (((AV.mapo 1) :: ((AV.osw 2 2) :: ((AV.int IntKind.i64 o4.1) :: []))) :: []))) :: ((1, (AO.fmap 1 (@encF (@List UInt8) Int (fun (k_13 : (@List UInt8)) => (AV.str k_13)) (cInt IntKind.u8) o4.2) none)) :: ((2, (AO.rows true (List.map disk_write.c l))) :: []))) 3 ?_ (fun _ => ?_))
  · conv => whnf
    refine Or.inl ?_
    conv => whnf
    refine loops_i (α := (Nat × Int × Int × (List ((List UInt8) × (List Int))))) (fun xq => ((0, (AV.ptr 0 0 0)) :: ((1, (AV.int IntKind.i64 (if ((@Nat.cast Int instNatCastInt (List.length (List.map disk_write.c l))) < (if ((0 : Int) > keep) then (0 : Int) else keep)) then (@Nat.cast Int instNatCastInt (List.length (List.map disk_write.c l))) else (if ((0 : Int) > keep) then (0 : Int) else keep)))) :: ((2, (AV.int IntKind.i64 torn)) :: ((6, (AV.int IntKind.i64 xq.2.1)) :: []))))) (fun xq => ((0, (AO.rows false (((AV.mapo 1) :: ((AV.osw 2 2) :: ((AV.int IntKind.i64 xq.2.2.1) :: []))) :: []))) :: ((1, (AO.fmap 1 (@encF (@List UInt8) Int (fun (k_13 : (@List UInt8)) => (AV.str k_13)) (cInt IntKind.u8) xq.2.2.2) none)) :: ((2, (AO.rows true (List.map disk_write.c l))) :: [])))) 3 (fun xq => __disk_Disk__Crash_l0 F keep torn l xq.1 xq.2.1 xq.2.2.1 xq.2.2.2 = some o4) (fun xq => xq.1) (F, (IntKind.wrap IntKind.i64 ((@Nat.cast Int instNatCastInt (List.length (List.map disk_write.c l))) - (1 : Int))), c, fs) [(0, 0), (1, 1), (2, 2)] h4 rfl rfl rfl ?_
    rintro ⟨n_20, i_21, c_22, fs_23⟩ h4
    replace h4 : __disk_Disk__Crash_l0 F keep torn l n_20 i_21 c_22 fs_23 = some o4 := h4
    cases n_20 with
    | zero => rw [__disk_Disk__Crash_l0.eq_1] at h4; cases h4
    | succ n_20 =>
      rw [__disk_Disk__Crash_l0.eq_2] at h4
      conv => whnf
      refine Or.inl ?_
      conv => whnf
      refine brn_i (fun hb => ?_) (fun hb => ?_)
      · replace h4 := cond_t h4 (by first | exact hb | (simp; done) | simpa using hb | simpa [chunk] using hb | (simp [chunk] at hb ⊢; omega))
        conv => whnf
        refine Or.inl ?_
        conv => whnf
        obtain ⟨hg, h4⟩ := grd_e h4
        refine And.intro hg ?_
        conv => whnf
        obtain ⟨y_27, hy, h4⟩ := bind_e h4
        refine opt_i (disk_write.c y_27) (getE rfl hy) ?_
        conv => whnf
        obtain ⟨y_28, hy, h4⟩ := bind_e h4
        refine opt_i (disk_write.c y_28) (getE rfl hy) ?_
        conv => whnf
        obtain ⟨lost_29, h8, k8⟩ := bind_e h4
        refine Or.inr (joins_i True ((0, (AV.ptr 0 0 0)) :: ((1, (AV.int IntKind.i64 (if ((@Nat.cast Int instNatCastInt (List.length (List.map disk_write.c l))) < (if ((0 : Int) > keep) then (0 : Int) else keep)) then (@Nat.cast Int instNatCastInt (List.length (List.map disk_write.c l))) else (if ((0 : Int) > keep) then (0 : Int) else keep)))) :: ((2, (AV.int IntKind.i64 torn)) :: ((6, (AV.int IntKind.i64 i_21)) :: ((7, (AV.ptr 3 0 0)) :: ((8, (AV.int IntKind.i64 lost_29)) :: [])))))) ((0, (AO.rows false (((AV.mapo 1) :: ((AV.osw 2 2) :: ((AV.int IntKind.i64 c_22) :: []))) :: []))) :: ((1, (AO.fmap 1 (@encF (@List UInt8) Int (fun (k_13 : (@List UInt8)) => (AV.str k_13)) (cInt IntKind.u8) fs_23) none)) :: ((2, (AO.rows true (List.map disk_write.c l))) :: ((3, (AO.rows false (((AV.str y_28.name) :: ((AV.int IntKind.i64 y_28.size) :: [])) :: []))) :: [])))) 4 ?_ (fun _ => ?_))
        · conv => whnf
          refine Or.inl ?_
          conv => whnf
          refine brn_i (fun hb => ?_) (fun hb => ?_)
          · replace h8 := cond_t h8 (by first | exact hb | (simp; done) | simpa using hb | simpa [chunk] using hb | (simp [chunk] at hb ⊢; omega))
            conv => whnf
            obtain rfl := Option.some.inj h8
            exact end_i trivial [(0, 0), (1, 1), (2, 2), (3, 83)] rfl rfl rfl
          · replace h8 := cond_f h8 (by first | exact hb | (simp; done) | simpa using hb | simpa [chunk] using hb | (simp [chunk] at hb ⊢; omega))
            conv => whnf
            obtain rfl := Option.some.inj h8
            exact end_i trivial [(0, 0), (1, 1), (2, 2), (3, 83)] rfl rfl rfl
        · conv => whnf
          refine And.intro (by kernel_rfl) ?_
          conv => whnf
          refine both (b := (Option.isSome (mget y_28.name fs_23))) (fun hb => ?_) (fun hb => ?_)
          · replace k8 := cond_t k8 hb
            refine flook_some (ek := (fun (k_13 : (@List UInt8)) => (AV.str k_13))) (en := (cInt IntKind.u8)) fs_23 y_28.name rfl rfl (keq_str Tryz.underlying9) hb ?_
            conv => whnf
            refine And.intro (by kernel_rfl) ?_
            conv => whnf
            refine And.intro (LenAll.map (fun _ => rfl)) ?_
            conv => whnf
            refine Or.inr ?_
            conv => whnf
            refine ⟨_, _, rfl, rfl, rfl, rfl, ?_⟩
            conv => whnf
            obtain ⟨hg, k8⟩ := grd_e k8
            refine And.intro (by first | exact hg | (simp; done) | simpa using hg | simpa [chunk] using hg | (simp [chunk] at hg ⊢; omega)) ?_
            conv => whnf
            obtain ⟨hg, k8⟩ := grd_e k8
            refine And.intro (by first | exact hg | (simp; done) | simpa using hg | simpa [chunk] using hg | (simp [chunk] at hg ⊢; omega)) ?_
            conv => whnf
            refine And.intro (by kernel_rfl) ?_
            conv => whnf
            obtain ⟨hg, k8⟩ := grd_e k8
            refine fput_i (ek := (fun (k_13 : (@List UInt8)) => (AV.str k_13))) (en := (cInt IntKind.u8)) fs_23 y_28.name (List.take (Int.toNat (IntKind.wrap IntKind.i64 ((@Nat.cast Int instNatCastInt (List.length (List.map (cInt IntKind.u8) (Option.getD (mget y_28.name fs_23) [])))) - lost_29))) (Option.getD (mget y_28.name fs_23) [])) 156 rfl rfl (keq_str Tryz.underlying9) (.inr ⟨by assumption, rfl⟩) hg rfl _ rfl (by first | (simp; done) | rfl | (rw [List.map_append]; rfl)) (fun _ => rfl) rfl ?_
            conv => whnf
            refine And.intro (by kernel_rfl) ?_
            conv => whnf
            exact round_i (n_20, (IntKind.wrap IntKind.i64 (i_21 - (1 : Int))), (IntKind.wrap IntKind.i64 (c_22 - lost_29)), (mput y_28.name (List.take (Int.toNat (IntKind.wrap IntKind.i64 ((@Nat.cast Int instNatCastInt (List.length (List.map (cInt IntKind.u8) (Option.getD (mget y_28.name fs_23) [])))) - lost_29))) (Option.getD (mget y_28.name fs_23) [])) fs_23)) [(0, 0), (1, 1), (2, 2)] k8 (Nat.lt_succ_self _) rfl rfl rfl
          · replace k8 := cond_f k8 hb
            refine flook_none (ek := (fun (k_13 : (@List UInt8)) => (AV.str k_13))) (en := (cInt IntKind.u8)) fs_23 y_28.name .esl rfl rfl (keq_str Tryz.underlying9) hb ⟨31, .esl, by kernel_rfl, by kernel_rfl, .refl _⟩ ?_
            conv => whnf
            refine And.intro (by kernel_rfl) ?_
            conv => whnf
            cases k8
      · replace h4 := cond_f h4 (by first | exact hb | (simp; done) | simpa using hb | simpa [chunk] using hb | (simp [chunk] at hb ⊢; omega))
        conv => whnf
        obtain rfl := Option.some.inj h4
        exact end_i trivial [(0, 0), (1, 1), (2, 2)] rfl rfl rfl
  · obtain ⟨c_12, fs_13⟩ := o4
    conv => whnf
    obtain rfl := Option.some.inj k4
    exact endG_i [(0, 0), (1, 1), (2, 2)] rfl rfl rfl

theorem matinsref10_Lists_FC {ml : Gv} (F : Nat) (a : (List (List Int))) (b : (List (List Int))) (r : Bool) (h : matinsref10_Lists F a b = some r) : FC Tryz.prog (GM ml) 13 [] [(AV.sl (List.map (cSl (cInt IntKind.u8)) a)), (AV.sl (List.map (cSl (cInt IntKind.u8)) b))] (.bool r) [] := by
  refine FC_of 2000 Tryz.func13 rfl (by kernel_rfl) mixed (by show 2 ≤ 28; decide) ?_
  unfold matinsref10_Lists at h
  conv => whnf
  refine Or.inl ?_
  conv => whnf
  refine brn_i (fun hb => ?_) (fun hb => ?_)
  · replace h := cond_t h (by first | exact hb | (simp; done) | simpa using hb | simpa [chunk] using hb | (simp [chunk] at hb ⊢; omega))
    conv => whnf
    obtain rfl := Option.some.inj h
    exact rfl
  · replace h := cond_f h (by first | exact hb | (simp; done) | simpa using hb | simpa [chunk] using hb | (simp [chunk] at hb ⊢; omega))
    conv => whnf
    obtain ⟨o0, h0, k0⟩ := bind_e h
    refine Or.inr (joins_i (o0 = Sum.inr (outR o0)) [] [] 0 ?_ (fun hR => ?_))
    · conv => whnf
      refine Or.inl ?_
      conv => whnf
      refine loops_i (α := (Nat × Int)) (fun xq => ((0, (AV.sl (List.map (cSl (cInt IntKind.u8)) a))) :: ((1, (AV.sl (List.map (cSl (cInt IntKind.u8)) b))) :: ((5, (AV.int IntKind.i64 xq.2)) :: [])))) (fun xq => []) 0 (fun xq => matinsref10_Lists_l0 F a b xq.1 xq.2 = some o0) (fun xq => xq.1) (F, (0 : Int)) [] h0 rfl rfl rfl ?_
      rintro ⟨n_12, i_13⟩ h0
      replace h0 : matinsref10_Lists_l0 F a b n_12 i_13 = some o0 := h0
      cases n_12 with
      | zero => rw [matinsref10_Lists_l0.eq_1] at h0; cases h0
      | succ n_12 =>
        rw [matinsref10_Lists_l0.eq_2] at h0
        conv => whnf
        refine Or.inl ?_
        conv => whnf
        refine brn_i (fun hb => ?_) (fun hb => ?_)
        · replace h0 := cond_t h0 (by first | exact hb | (simp; done) | simpa using hb | simpa [chunk] using hb | (simp [chunk] at hb ⊢; omega))
          conv => whnf
          refine Or.inl ?_
          conv => whnf
          obtain ⟨hg, h0⟩ := grd_e h0
          refine And.intro hg ?_
          conv => whnf
          obtain ⟨y_16, hy, h0⟩ := bind_e h0
          refine opt_i ((cSl (cInt IntKind.u8)) y_16) (getE rfl hy) ?_
          conv => whnf
          obtain ⟨hg, h0⟩ := bytes_e h0
          refine ⟨_, bytes_eq2 (by first | (simp; done) | rfl | (rw [List.map_append]; rfl)) hg, ?_⟩
          conv => whnf
          obtain ⟨hg, h0⟩ := grd_e h0
          refine And.intro hg ?_
          conv => whnf
          obtain ⟨y_17, hy, h0⟩ := bind_e h0
          refine opt_i ((cSl (cInt IntKind.u8)) y_17) (getE rfl hy) ?_
          conv => whnf
          obtain ⟨hg, h0⟩ := bytes_e h0
          refine ⟨_, bytes_eq2 (by first | (simp; done) | rfl | (rw [List.map_append]; rfl)) hg, ?_⟩
          conv => whnf
          refine And.intro (by kernel_rfl) ?_
          conv => whnf
          refine Or.inl ?_
          conv => whnf
          refine brn_i (fun hb => ?_) (fun hb => ?_)
          · replace h0 := cond_t h0 hb
            conv => whnf
            obtain rfl := Option.some.inj h0
            obtain rfl := Option.some.inj k0
            exact rfl
          · replace h0 := cond_f h0 hb
            conv => whnf
            exact round_i (n_12, (IntKind.wrap IntKind.i64 (i_13 + (1 : Int)))) [] h0 (Nat.lt_succ_self _) rfl rfl rfl
        · replace h0 := cond_f h0 (by first | exact hb | (simp; done) | simpa using hb | simpa [chunk] using hb | (simp [chunk] at hb ⊢; omega))
          conv => whnf
          obtain rfl := Option.some.inj h0
          exact end_i rfl [] rfl rfl rfl
    · replace k0 := elim_e hR k0
      generalize outR o0 = v at k0 ⊢
      conv => whnf
      obtain rfl := Option.some.inj k0
      exact rfl

theorem __wal_Wal__Count_FC0 {ml : Gv} (F : Nat) (c : (List UInt8)) (c_1 : Int) (c_2 : Int) (c_3 : Int) (fs : (List ((List UInt8) × (List Int)))) (l : (List disk_write)) (r : Int) (h : __wal_Wal__Count F c c_1 c_2 c_3 fs l = some r) : FC Tryz.prog (GM ml) 14 ((0, (AO.rows false (((AV.ptr 1 0 0) :: ((AV.str c) :: ((AV.int IntKind.i64 c_1) :: ((AV.int IntKind.i64 c_2) :: [])))) :: []))) :: ((1, (AO.rows false (((AV.mapo 2) :: ((AV.osw 3 2) :: ((AV.int IntKind.i64 c_3) :: []))) :: []))) :: ((2, (AO.fmap 1 (@encF (@List UInt8) Int (fun (k_13 : (@List UInt8)) => (AV.str k_13)) (cInt IntKind.u8) fs) none)) :: ((3, (AO.rows true (List.map disk_write.c l))) :: [])))) [(AV.ptr 0 0 0)] (AV.int IntKind.i64 r) ((0, (AO.rows false (((AV.ptr 1 0 0) :: ((AV.str c) :: ((AV.int IntKind.i64 c_1) :: ((AV.int IntKind.i64 c_2) :: [])))) :: []))) :: ((1, (AO.rows false (((AV.mapo 2) :: ((AV.osw 3 2) :: ((AV.int IntKind.i64 c_3) :: []))) :: []))) :: ((2, (AO.fmap 1 (@encF (@List UInt8) Int (fun (k_13 : (@List UInt8)) => (AV.str k_13)) (cInt IntKind.u8) fs) none)) :: ((3, (AO.rows true (List.map disk_write.c l))) :: [])))) := by
  refine FC_ofG 2000 Tryz.func14 rfl (by kernel_rfl) mixed (by show 1 ≤ 9; decide) (by show 4 ≤ W; decide) rfl ?_
  unfold __wal_Wal__Count at h
  conv => whnf
  refine Or.inl ?_
  conv => whnf
  obtain rfl := Option.some.inj h
  exact endG_i [(0, 0), (1, 1), (2, 2), (3, 3)] rfl rfl rfl

theorem matinslaw10_awake_FC {ml : Gv} (F : Nat) (r : Bool) (h : matinslaw10_awake F = some r) : FC Tryz.prog (GM ml) 6 [] [] (.bool r) [] := by
  refine FC_of 2000 Tryz.func6 rfl (by kernel_rfl) mixed (by show 0 ≤ 72; decide) ?_
  unfold matinslaw10_awake at h
  conv => whnf
  refine Or.inl ?_
  conv => whnf
  obtain ⟨y_0, hy, h⟩ := bind_e h
  refine ⟨_, _, (disk_New_FC0 F y_0 hy), Or.inr ⟨[], rfl, ?_⟩⟩
  conv => whnf
  obtain ⟨y_1, hy, h⟩ := bind_e h
  rcases y_1 with y_1 | y_1
  · replace h := elim_l h
    refine Or.inr (callG_i [16, 17, 18] (wal_Open_FC0 F y_0.1 y_0.2 [] y_1 hy) rfl rfl (cons2 rfl (cons2 rfl (cons2 (congrArg (fun X => some (AO.rows true X)) (by first | (simp; done) | rfl | (rw [List.map_append]; rfl) | (simp [outR]; done) | (simp only [outR, Sum.elim_inr, id, List.map_append, List.map_map]; rfl))) rfl))) rfl ?_)
    conv => whnf
    refine Or.inl ?_
    conv => whnf
    refine Or.inl ?_
    conv => whnf
    obtain rfl := Option.some.inj h
    exact rfl
  · replace h := elim_r h
    refine Or.inr (callG_i [16, 17, 18] (wal_Open_FC1 F y_0.1 y_0.2 [] y_1 hy) rfl rfl (cons2 rfl (cons2 rfl (cons2 (congrArg (fun X => some (AO.rows true X)) (by first | (simp; done) | rfl | (rw [List.map_append]; rfl) | (simp [outR]; done) | (simp only [outR, Sum.elim_inr, id, List.map_append, List.map_map]; rfl))) rfl))) rfl ?_)
    conv => whnf
    obtain ⟨t30_3, h0, k0⟩ := bind_e h
    refine Or.inr (joins_i True ((1, (AV.ptr 0 0 0)) :: ((2, (AV.ptr 1 0 0)) :: ((30, (AV.bool t30_3)) :: []))) ((0, (AO.rows false (((AV.mapo 2) :: ((AV.osw 3 2) :: ((AV.int IntKind.i64 y_1.2.2.1) :: []))) :: []))) :: ((1, (AO.rows false (((AV.ptr 0 0 0) :: ((AV.str y_1.2.2.2.2.1) :: ((AV.int IntKind.i64 y_1.2.2.2.2.2.1) :: ((AV.int IntKind.i64 y_1.2.2.2.2.2.2.1) :: [])))) :: []))) :: ((2, (AO.fmap 1 (@encF (@List UInt8) Int (fun (k_13 : (@List UInt8)) => (AV.str k_13)) (cInt IntKind.u8) y_1.2.2.2.1) none)) :: ((3, (AO.rows true (List.map disk_write.c y_1.2.2.2.2.2.2.2))) :: [])))) 4 ?_ (fun _ => ?_))
    · conv => whnf
      refine Or.inl ?_
      conv => whnf
      refine brn_i (fun hb => ?_) (fun hb => ?_)
      · replace h0 := cond_t h0 (by first | exact hb | (simp; done) | simpa using hb | simpa [chunk] using hb | (simp [chunk] at hb ⊢; omega))
        conv => whnf
        obtain rfl := Option.some.inj h0
        exact end_i trivial [(0, 16), (1, 43), (2, 17), (3, 44)] rfl rfl rfl
      · replace h0 := cond_f h0 (by first | exact hb | (simp; done) | simpa using hb | simpa [chunk] using hb | (simp [chunk] at hb ⊢; omega))
        conv => whnf
        refine brn_i (fun hb => ?_) (fun hb => ?_)
        · replace h0 := cond_t h0 hb
          conv => whnf
          obtain rfl := Option.some.inj h0
          exact end_i trivial [(0, 16), (1, 43), (2, 17), (3, 44)] rfl rfl rfl
        · replace h0 := cond_f h0 hb
          conv => whnf
          obtain ⟨y_4, hy, h0⟩ := bind_e h0
          refine Or.inr (callG_i [43, 16, 17, 44] (__wal_Wal__File_FC0 F y_1.2.2.2.2.1 y_1.2.2.2.2.2.1 y_1.2.2.2.2.2.2.1 y_1.2.2.1 y_1.2.2.2.1 y_1.2.2.2.2.2.2.2 y_4 hy) rfl rfl rfl rfl ?_)
          conv => whnf
          obtain rfl := Option.some.inj h0
          exact end_i trivial [(0, 16), (1, 43), (2, 17), (3, 44)] rfl rfl rfl
    · conv => whnf
      refine Or.inl ?_
      conv => whnf
      refine brn_i (fun hb => ?_) (fun hb => ?_)
      · replace k0 := cond_t k0 hb
        conv => whnf
        obtain rfl := Option.some.inj k0
        exact rfl
      · replace k0 := cond_f k0 hb
        conv => whnf
        refine Or.inr ?_
        conv => whnf
        obtain ⟨y_5, hy, k0⟩ := bind_e k0
        refine Or.inr (callG_i [1, 12, 0, 2, 3] (__wal_Wal__Append_FC0 F y_1.2.2.2.2.1 y_1.2.2.2.2.2.1 y_1.2.2.2.2.2.2.1 ((97 : Int) :: []) y_1.2.2.1 y_1.2.2.2.1 y_1.2.2.2.2.2.2.2 y_5 hy) rfl rfl (cons2 rfl (cons2 (congrArg (fun X => some (AO.rows true X)) (by first | (simp; done) | rfl | (rw [List.map_append]; rfl) | (simp [outR]; done) | (simp only [outR, Sum.elim_inr, id, List.map_append, List.map_map]; rfl))) rfl)) rfl ?_)
        conv => whnf
        obtain ⟨y_6, hy, k0⟩ := bind_e k0
        refine Or.inr (callG_i [1, 0, 2, 33] (__wal_Wal__Sync_FC0 F y_5.2.1 y_5.2.2.1 y_5.2.2.2.1 y_5.2.2.2.2.2.1 y_5.2.2.2.2.2.2.1 y_5.2.2.2.2.2.2.2 y_6 hy) rfl rfl rfl rfl ?_)
        conv => whnf
        refine Or.inr ?_
        conv => whnf
        obtain ⟨y_7, hy, k0⟩ := bind_e k0
        refine Or.inr (callG_i [1, 60, 0, 2, 48] (__wal_Wal__Append_FC0 F y_5.2.1 y_5.2.2.1 y_5.2.2.2.1 ((98 : Int) :: ((99 : Int) :: [])) y_6.2.1 y_5.2.2.2.2.2.2.1 y_6.2.2 y_7 hy) rfl rfl (cons2 rfl (cons2 (congrArg (fun X => some (AO.rows true X)) (by first | (simp; done) | rfl | (rw [List.map_append]; rfl) | (simp [outR]; done) | (simp only [outR, Sum.elim_inr, id, List.map_append, List.map_map]; rfl))) rfl)) rfl ?_)
        conv => whnf
        obtain ⟨y_8, hy, k0⟩ := bind_e k0
        refine Or.inr (callG_i [0, 2, 81] (__disk_Disk__Crash_FC0 F (0 : Int) (3 : Int) y_7.2.2.2.2.2.1 y_7.2.2.2.2.2.2.1 y_7.2.2.2.2.2.2.2 y_8 hy) rfl rfl rfl rfl ?_)
        conv => whnf
        obtain ⟨y_9, hy, k0⟩ := bind_e k0
        rcases y_9 with y_9 | y_9
        · replace k0 := elim_l k0
          refine Or.inr (callG_i [0, 2, 95] (wal_Open_FC0 F y_8.1 y_8.2 [] y_9 hy) rfl rfl (cons2 rfl (cons2 rfl (cons2 (congrArg (fun X => some (AO.rows true X)) (by first | (simp; done) | rfl | (rw [List.map_append]; rfl) | (simp [outR]; done) | (simp only [outR, Sum.elim_inr, id, List.map_append, List.map_map]; rfl))) rfl))) rfl ?_)
          conv => whnf
          refine Or.inl ?_
          conv => whnf
          refine brn_i (fun hb => ?_) (fun hb => ?_)
          · replace k0 := cond_t k0 hb
            conv => whnf
            obtain rfl := Option.some.inj k0
            exact rfl
          · replace k0 := cond_f k0 hb
            conv => whnf
            obtain rfl := Option.some.inj k0
            exact rfl
        · replace k0 := elim_r k0
          refine Or.inr (callG_i [0, 2, 95] (wal_Open_FC1 F y_8.1 y_8.2 [] y_9 hy) rfl rfl (cons2 rfl (cons2 rfl (cons2 (congrArg (fun X => some (AO.rows true X)) (by first | (simp; done) | rfl | (rw [List.map_append]; rfl) | (simp [outR]; done) | (simp only [outR, Sum.elim_inr, id, List.map_append, List.map_map]; rfl))) rfl))) rfl ?_)
          conv => whnf
          refine Or.inl ?_
          conv => whnf
          refine brn_i (fun hb => ?_) (fun hb => ?_)
          · replace k0 := cond_t k0 hb
            conv => whnf
            refine Or.inr ?_
            conv => whnf
            refine Or.inl ?_
            conv => whnf
            refine Or.inl ?_
            conv => whnf
            obtain ⟨y_10, hy, k0⟩ := bind_e k0
            refine ⟨_, _, (FC_arg2 (cons2 rfl (cons2 (congrArg AV.sl (by first | (simp; done) | rfl | (rw [List.map_append]; rfl) | (simp [outR]; done) | (simp only [outR, Sum.elim_inr, id, List.map_append, List.map_map]; rfl))) rfl)) (matinsref10_Lists_FC F y_9.1 (((97 : Int) :: []) :: []) y_10 hy)), Or.inl ⟨rfl, rfl, ?_⟩⟩
            conv => whnf
            refine brn_i (fun hb => ?_) (fun hb => ?_)
            · replace k0 := cond_t k0 hb
              conv => whnf
              obtain ⟨y_11, hy, k0⟩ := bind_e k0
              refine Or.inr (callG_i [111, 0, 2, 112] (__wal_Wal__File_FC0 F y_9.2.2.2.2.1 y_9.2.2.2.2.2.1 y_9.2.2.2.2.2.2.1 y_9.2.2.1 y_9.2.2.2.1 y_9.2.2.2.2.2.2.2 y_11 hy) rfl rfl rfl rfl ?_)
              conv => whnf
              refine brn_i (fun hb => ?_) (fun hb => ?_)
              · replace k0 := cond_t k0 hb
                conv => whnf
                obtain ⟨y_12, hy, k0⟩ := bind_e k0
                refine Or.inr (callG_i [111, 0, 2, 112] (__wal_Wal__Count_FC0 F y_9.2.2.2.2.1 y_9.2.2.2.2.2.1 y_9.2.2.2.2.2.2.1 y_9.2.2.1 y_9.2.2.2.1 y_9.2.2.2.2.2.2.2 y_12 hy) rfl rfl rfl rfl ?_)
                conv => whnf
                obtain rfl := Option.some.inj k0
                exact rfl
              · replace k0 := cond_f k0 hb
                conv => whnf
                obtain rfl := Option.some.inj k0
                exact rfl
            · replace k0 := cond_f k0 hb
              conv => whnf
              obtain rfl := Option.some.inj k0
              exact rfl
          · replace k0 := cond_f k0 hb
            conv => whnf
            obtain rfl := Option.some.inj k0
            exact rfl

theorem __wal_Wal__Append_i1_FC0 {ml : Gv} (F : Nat) (rec : (List Int)) (c : (List UInt8)) (c_2 : Int) (c_3 : Int) (c_4 : Int) (fs : (List ((List UInt8) × (List Int)))) (l : (List disk_write)) (r : (Int × (List UInt8) × Int × Int × Int × (List ((List UInt8) × (List Int))) × (List disk_write))) (h : __wal_Wal__Append_i1 F rec c c_2 c_3 c_4 fs l = some r) : FC Tryz.prog (GM ml) 9 ((0, (AO.rows false (((AV.ptr 1 0 0) :: ((AV.str c) :: ((AV.int IntKind.i64 c_2) :: ((AV.int IntKind.i64 c_3) :: [])))) :: []))) :: ((1, (AO.rows false (((AV.mapo 2) :: ((AV.osw 3 2) :: ((AV.int IntKind.i64 c_4) :: []))) :: []))) :: ((2, (AO.fmap 1 (@encF (@List UInt8) Int (fun (k_13 : (@List UInt8)) => (AV.str k_13)) (cInt IntKind.u8) fs) none)) :: ((3, (AO.rows true (List.map disk_write.c l))) :: [])))) [(AV.ptr 0 0 0), (AV.sl (List.map (cInt IntKind.u8) rec))] (AV.int IntKind.i64 r.1) ((0, (AO.rows false (((AV.ptr 1 0 0) :: ((AV.str r.2.1) :: ((AV.int IntKind.i64 r.2.2.1) :: ((AV.int IntKind.i64 r.2.2.2.1) :: [])))) :: []))) :: ((1, (AO.rows false (((AV.mapo 2) :: ((AV.osw 4 2) :: ((AV.int IntKind.i64 r.2.2.2.2.1) :: []))) :: []))) :: ((2, (AO.fmap 1 (@encF (@List UInt8) Int (fun (k_13 : (@List UInt8)) => (AV.str k_13)) (cInt IntKind.u8) r.2.2.2.2.2.1) none)) :: ((4, (AO.rows true (List.map disk_write.c r.2.2.2.2.2.2))) :: [])))) := by
  refine FC_ofG 2000 Tryz.func9 rfl (by kernel_rfl) mixed (by show 2 ≤ 44; decide) (by show 4 ≤ W; decide) rfl ?_
  unfold __wal_Wal__Append_i1 at h
  conv => whnf
  refine Or.inl ?_
  conv => whnf
  refine Or.inl ?_
  conv => whnf
  refine Or.inl ?_
  conv => whnf
  obtain ⟨y_0, hy, h⟩ := bind_e h
  refine ⟨_, _, (wal_framed_FC F rec y_0 hy), Or.inr ⟨[], rfl, ?_⟩⟩
  conv => whnf
  refine Or.inl ?_
  conv => whnf
  refine brn_i (fun hb => ?_) (fun hb => ?_)
  · replace h := cond_t h hb
    conv => whnf
    obtain rfl := Option.some.inj h
    exact endG_i [(0, 0), (1, 1), (2, 2), (4, 3)] rfl rfl rfl
  · replace h := cond_f h hb
    conv => whnf
    obtain ⟨y_1, hy, h⟩ := bind_e h
    refine Or.inr (callG_i [1, 2, 3] (__disk_Disk__Append_FC0 F c y_0.1 c_4 fs l y_1 hy) rfl rfl rfl rfl ?_)
    conv => whnf
    refine And.intro (by kernel_rfl) ?_
    conv => whnf
    refine Or.inl ?_
    conv => whnf
    refine brn_i (fun hb => ?_) (fun hb => ?_)
    · replace h := cond_t h hb
      conv => whnf
      obtain rfl := Option.some.inj h
      exact endG_i [(0, 0), (1, 1), (2, 2), (3, 3), (4, 235)] rfl rfl rfl
    · replace h := cond_f h hb
      conv => whnf
      obtain rfl := Option.some.inj h
      exact endG_i [(0, 0), (1, 1), (2, 2), (3, 3), (4, 235)] rfl rfl rfl

theorem matinslaw10_WalKeeps_FC {ml : Gv} (F : Nat) (script : (List matinslaw10_Do)) (keep : Int) (torn : Int) (r : Bool) (h : matinslaw10_WalKeeps F script keep torn = some r) : FC Tryz.prog (GM ml) 3 [] [(AV.sl (List.map matinslaw10_Do.c script)), (AV.int IntKind.i64 keep), (AV.int IntKind.i64 torn)] (.bool r) [] := by
  refine FC_of 2000 Tryz.func3 rfl (by kernel_rfl) mixed (by show 3 ≤ 133; decide) ?_
  unfold matinslaw10_WalKeeps at h
  conv => whnf
  refine Or.inl ?_
  conv => whnf
  obtain ⟨y_0, hy, h⟩ := bind_e h
  refine ⟨_, _, (matinslaw10_awake_FC F y_0 hy), Or.inl ⟨rfl, rfl, ?_⟩⟩
  conv => whnf
  refine Or.inl ?_
  conv => whnf
  refine brn_i (fun hb => ?_) (fun hb => ?_)
  · replace h := cond_t h hb
    conv => whnf
    obtain rfl := Option.some.inj h
    exact rfl
  · replace h := cond_f h hb
    conv => whnf
    refine Or.inl ?_
    conv => whnf
    obtain ⟨y_1, hy, h⟩ := bind_e h
    refine ⟨_, _, (disk_New_FC0 F y_1 hy), Or.inr ⟨[], rfl, ?_⟩⟩
    conv => whnf
    obtain ⟨y_2, hy, h⟩ := bind_e h
    rcases y_2 with y_2 | y_2
    · replace h := elim_l h
      refine Or.inr (callG_i [32, 33, 34] (wal_Open_FC0 F y_1.1 y_1.2 [] y_2 hy) rfl rfl (cons2 rfl (cons2 rfl (cons2 (congrArg (fun X => some (AO.rows true X)) (by first | (simp; done) | rfl | (rw [List.map_append]; rfl) | (simp [outR]; done) | (simp only [outR, Sum.elim_inr, id, List.map_append, List.map_map]; rfl))) rfl))) rfl ?_)
      conv => whnf
      obtain ⟨o0, h0, k0⟩ := bind_e h
      refine Or.inr (joins_i True ((0, (AV.sl (List.map matinslaw10_Do.c script))) :: ((1, (AV.int IntKind.i64 keep)) :: ((2, (AV.int IntKind.i64 torn)) :: ((7, (AV.ptr 0 0 0)) :: ((8, (AV.con (Value.pointer none))) :: ((33, (AV.bool true)) :: [])))))) ((0, (AO.rows false (((AV.mapo 1) :: ((AV.osw 2 2) :: ((AV.int IntKind.i64 y_2.2.1) :: []))) :: []))) :: ((1, (AO.fmap 1 (@encF (@List UInt8) Int (fun (k_13 : (@List UInt8)) => (AV.str k_13)) (cInt IntKind.u8) y_2.2.2.1) none)) :: ((2, (AO.rows true (List.map disk_write.c y_2.2.2.2.2))) :: []))) 3 ?_ (fun _ => ?_))
      · conv => whnf
        refine Or.inl ?_
        conv => whnf
        refine brn_i (fun hb => ?_) (fun hb => ?_)
        · replace h0 := cond_t h0 hb
          conv => whnf
          obtain rfl := Option.some.inj h0
          exact end_i trivial [(0, 32), (1, 33), (2, 60)] rfl rfl rfl
        · replace h0 := cond_f h0 hb
          conv => whnf
          obtain rfl := Option.some.inj h0
          exact end_i trivial [(0, 32), (1, 33), (2, 60)] rfl rfl rfl
      · conv => whnf
        refine Or.inl ?_
        conv => whnf
        obtain rfl := Option.some.inj k0
        exact rfl
    · replace h := elim_r h
      refine Or.inr (callG_i [32, 33, 34] (wal_Open_FC1 F y_1.1 y_1.2 [] y_2 hy) rfl rfl (cons2 rfl (cons2 rfl (cons2 (congrArg (fun X => some (AO.rows true X)) (by first | (simp; done) | rfl | (rw [List.map_append]; rfl) | (simp [outR]; done) | (simp only [outR, Sum.elim_inr, id, List.map_append, List.map_map]; rfl))) rfl))) rfl ?_)
      conv => whnf
      obtain ⟨t33_3, h1, k1⟩ := bind_e h
      refine Or.inr (joins_i True ((0, (AV.sl (List.map matinslaw10_Do.c script))) :: ((1, (AV.int IntKind.i64 keep)) :: ((2, (AV.int IntKind.i64 torn)) :: ((7, (AV.ptr 0 0 0)) :: ((8, (AV.ptr 1 0 0)) :: ((33, (AV.bool t33_3)) :: [])))))) ((0, (AO.rows false (((AV.mapo 2) :: ((AV.osw 3 2) :: ((AV.int IntKind.i64 y_2.2.2.1) :: []))) :: []))) :: ((1, (AO.rows false (((AV.ptr 0 0 0) :: ((AV.str y_2.2.2.2.2.1) :: ((AV.int IntKind.i64 y_2.2.2.2.2.2.1) :: ((AV.int IntKind.i64 y_2.2.2.2.2.2.2.1) :: [])))) :: []))) :: ((2, (AO.fmap 1 (@encF (@List UInt8) Int (fun (k_13 : (@List UInt8)) => (AV.str k_13)) (cInt IntKind.u8) y_2.2.2.2.1) none)) :: ((3, (AO.rows true (List.map disk_write.c y_2.2.2.2.2.2.2.2))) :: [])))) 4 ?_ (fun _ => ?_))
      · conv => whnf
        refine Or.inl ?_
        conv => whnf
        refine brn_i (fun hb => ?_) (fun hb => ?_)
        · replace h1 := cond_t h1 hb
          conv => whnf
          obtain rfl := Option.some.inj h1
          exact end_i trivial [(0, 32), (1, 59), (2, 33), (3, 60)] rfl rfl rfl
        · replace h1 := cond_f h1 hb
          conv => whnf
          obtain rfl := Option.some.inj h1
          exact end_i trivial [(0, 32), (1, 59), (2, 33), (3, 60)] rfl rfl rfl
      · conv => whnf
        refine Or.inl ?_
        conv => whnf
        refine brn_i (fun hb => ?_) (fun hb => ?_)
        · replace k1 := cond_t k1 hb
          conv => whnf
          obtain rfl := Option.some.inj k1
          exact rfl
        · replace k1 := cond_f k1 hb
          conv => whnf
          obtain ⟨o6, h6, k6⟩ := bind_e k1
          refine Or.inr (joins_i (o6 = Sum.inr (outR o6)) ((1, (AV.int IntKind.i64 keep)) :: ((2, (AV.int IntKind.i64 torn)) :: ((7, (AV.ptr 0 0 0)) :: ((11, (AV.osw 1 1)) :: ((12, (AV.int IntKind.i64 (outR o6).1)) :: []))))) ((0, (AO.rows false (((AV.mapo 2) :: ((AV.osw 3 2) :: ((AV.int IntKind.i64 (outR o6).2.1) :: []))) :: []))) :: ((1, (AO.rows true (List.map (cSl (cInt IntKind.u8)) (outR o6).2.2.1))) :: ((2, (AO.fmap 1 (@encF (@List UInt8) Int (fun (k_13 : (@List UInt8)) => (AV.str k_13)) (cInt IntKind.u8) (outR o6).2.2.2.1) none)) :: ((3, (AO.rows true (List.map disk_write.c (outR o6).2.2.2.2))) :: [])))) 4 ?_ (fun hR => ?_))
          · conv => whnf
            refine Or.inl ?_
            conv => whnf
            refine loops_i (α := (Nat × Int × Int × Int × (List UInt8) × Int × Int × (List (List Int)) × (List ((List UInt8) × (List Int))) × (List disk_write))) (fun xq => ((0, (AV.sl (List.map matinslaw10_Do.c script))) :: ((1, (AV.int IntKind.i64 keep)) :: ((2, (AV.int IntKind.i64 torn)) :: ((7, (AV.ptr 0 0 0)) :: ((8, (AV.ptr 1 0 0)) :: ((11, (AV.osw 2 1)) :: ((12, (AV.int IntKind.i64 xq.2.1)) :: ((13, (AV.int IntKind.i64 xq.2.2.1)) :: []))))))))) (fun xq => ((0, (AO.rows false (((AV.mapo 3) :: ((AV.osw 4 2) :: ((AV.int IntKind.i64 xq.2.2.2.1) :: []))) :: []))) :: ((1, (AO.rows false (((AV.ptr 0 0 0) :: ((AV.str xq.2.2.2.2.1) :: ((AV.int IntKind.i64 xq.2.2.2.2.2.1) :: ((AV.int IntKind.i64 xq.2.2.2.2.2.2.1) :: [])))) :: []))) :: ((2, (AO.rows true (List.map (cSl (cInt IntKind.u8)) xq.2.2.2.2.2.2.2.1))) :: ((3, (AO.fmap 1 (@encF (@List UInt8) Int (fun (k_13 : (@List UInt8)) => (AV.str k_13)) (cInt IntKind.u8) xq.2.2.2.2.2.2.2.2.1) none)) :: ((4, (AO.rows true (List.map disk_write.c xq.2.2.2.2.2.2.2.2.2))) :: [])))))) 5 (fun xq => matinslaw10_WalKeeps_l0 F script xq.1 xq.2.1 xq.2.2.1 xq.2.2.2.1 xq.2.2.2.2.1 xq.2.2.2.2.2.1 xq.2.2.2.2.2.2.1 xq.2.2.2.2.2.2.2.1 xq.2.2.2.2.2.2.2.2.1 xq.2.2.2.2.2.2.2.2.2 = some o6) (fun xq => xq.1) (F, (0 : Int), (0 : Int), y_2.2.2.1, y_2.2.2.2.2.1, y_2.2.2.2.2.2.1, y_2.2.2.2.2.2.2.1, [], y_2.2.2.2.1, y_2.2.2.2.2.2.2.2) [(0, 0), (1, 1), (2, 4), (3, 2), (4, 3)] h6 rfl (cons2 rfl (cons2 rfl (cons2 (congrArg (fun X => some (AO.rows true X)) (by first | (simp; done) | rfl | (rw [List.map_append]; rfl) | (simp [outR]; done) | (simp only [outR, Sum.elim_inr, id, List.map_append, List.map_map]; rfl))) rfl))) rfl ?_
            rintro ⟨n_48, synced_49, i_50, c_51, c_52, c_53, c_54, l_55, fs_56, l_57⟩ h6
            replace h6 : matinslaw10_WalKeeps_l0 F script n_48 synced_49 i_50 c_51 c_52 c_53 c_54 l_55 fs_56 l_57 = some o6 := h6
            cases n_48 with
            | zero => rw [matinslaw10_WalKeeps_l0.eq_1] at h6; cases h6
            | succ n_48 =>
              rw [matinslaw10_WalKeeps_l0.eq_2] at h6
              conv => whnf
              obtain ⟨t41_58, h9, k9⟩ := bind_e h6
              refine Or.inr (joins_i True ((0, (AV.sl (List.map matinslaw10_Do.c script))) :: ((1, (AV.int IntKind.i64 keep)) :: ((2, (AV.int IntKind.i64 torn)) :: ((7, (AV.ptr 0 0 0)) :: ((8, (AV.ptr 1 0 0)) :: ((11, (AV.osw 2 1)) :: ((12, (AV.int IntKind.i64 synced_49)) :: ((13, (AV.int IntKind.i64 i_50)) :: ((41, (AV.bool t41_58)) :: []))))))))) ((0, (AO.rows false (((AV.mapo 3) :: ((AV.osw 4 2) :: ((AV.int IntKind.i64 c_51) :: []))) :: []))) :: ((1, (AO.rows false (((AV.ptr 0 0 0) :: ((AV.str c_52) :: ((AV.int IntKind.i64 c_53) :: ((AV.int IntKind.i64 c_54) :: [])))) :: []))) :: ((2, (AO.rows true (List.map (cSl (cInt IntKind.u8)) l_55))) :: ((3, (AO.fmap 1 (@encF (@List UInt8) Int (fun (k_13 : (@List UInt8)) => (AV.str k_13)) (cInt IntKind.u8) fs_56) none)) :: ((4, (AO.rows true (List.map disk_write.c l_57))) :: []))))) 5 ?_ (fun _ => ?_))
              · conv => whnf
                refine Or.inl ?_
                conv => whnf
                refine brn_i (fun hb => ?_) (fun hb => ?_)
                · replace h9 := cond_t h9 (by first | exact hb | (simp; done) | simpa using hb | simpa [chunk] using hb | (simp [chunk] at hb ⊢; omega))
                  conv => whnf
                  obtain rfl := Option.some.inj h9
                  exact end_i trivial [(0, 0), (1, 1), (2, 2), (3, 3), (4, 4)] rfl rfl rfl
                · replace h9 := cond_f h9 (by first | exact hb | (simp; done) | simpa using hb | simpa [chunk] using hb | (simp [chunk] at hb ⊢; omega))
                  conv => whnf
                  obtain rfl := Option.some.inj h9
                  exact end_i trivial [(0, 0), (1, 1), (2, 2), (3, 3), (4, 4)] rfl rfl rfl
              · conv => whnf
                refine Or.inl ?_
                conv => whnf
                refine brn_i (fun hb => ?_) (fun hb => ?_)
                · replace k9 := cond_t k9 hb
                  conv => whnf
                  obtain ⟨o10, h10, k10⟩ := bind_e k9
                  refine Or.inr (joins_i (o10 = Sum.inr (outR o10)) ((0, (AV.sl (List.map matinslaw10_Do.c script))) :: ((1, (AV.int IntKind.i64 keep)) :: ((2, (AV.int IntKind.i64 torn)) :: ((7, (AV.ptr 0 0 0)) :: ((8, (AV.ptr 1 0 0)) :: ((11, (AV.osw 2 1)) :: ((12, (AV.int IntKind.i64 (outR o10).1)) :: ((13, (AV.int IntKind.i64 i_50)) :: [])))))))) ((0, (AO.rows false (((AV.mapo 3) :: ((AV.osw 4 2) :: ((AV.int IntKind.i64 (outR o10).2.1) :: []))) :: []))) :: ((1, (AO.rows false (((AV.ptr 0 0 0) :: ((AV.str (outR o10).2.2.1) :: ((AV.int IntKind.i64 (outR o10).2.2.2.1) :: ((AV.int IntKind.i64 (outR o10).2.2.2.2.1) :: [])))) :: []))) :: ((2, (AO.rows true (List.map (cSl (cInt IntKind.u8)) (outR o10).2.2.2.2.2.1))) :: ((3, (AO.fmap 1 (@encF (@List UInt8) Int (fun (k_13 : (@List UInt8)) => (AV.str k_13)) (cInt IntKind.u8) (outR o10).2.2.2.2.2.2.1) none)) :: ((4, (AO.rows true (List.map disk_write.c (outR o10).2.2.2.2.2.2.2))) :: []))))) 5 ?_ (fun hR => ?_))
                  · conv => whnf
                    refine Or.inl ?_
                    conv => whnf
                    obtain ⟨hg, h10⟩ := grd_e h10
                    refine And.intro hg ?_
                    conv => whnf
                    obtain ⟨y_71, hy, h10⟩ := bind_e h10
                    refine opt_i (matinslaw10_Do.c y_71) (getE rfl hy) ?_
                    conv => whnf
                    refine Or.inl ?_
                    conv => whnf
                    refine Or.inl ?_
                    conv => whnf
                    refine brn_i (fun hb => ?_) (fun hb => ?_)
                    · replace h10 := cond_t h10 hb
                      conv => whnf
                      obtain ⟨y_72, hy, h10⟩ := bind_e h10
                      refine Or.inr (callG_i [1, 0, 3, 4] (__wal_Wal__Append_i1_FC0 F y_71.Rec c_52 c_53 c_54 c_51 fs_56 l_57 y_72 hy) rfl rfl rfl rfl ?_)
                      conv => whnf
                      refine Or.inl ?_
                      conv => whnf
                      refine brn_i (fun hb => ?_) (fun hb => ?_)
                      · replace h10 := cond_t h10 hb
                        conv => whnf
                        refine Or.inl ?_
                        conv => whnf
                        refine And.intro (LenAll.cons rfl LenAll.nil) ?_
                        conv => whnf
                        refine And.intro (LenAll.map (fun _ => rfl)) ?_
                        conv => whnf
                        obtain ⟨hg, h10⟩ := grd_e h10
                        refine And.intro (by first | exact hg | (simp; done) | simpa using hg | simpa [chunk] using hg | (simp [chunk] at hg ⊢; omega)) ?_
                        conv => whnf
                        obtain rfl := Option.some.inj h10
                        exact end_i rfl [(0, 0), (1, 1), (2, 157), (3, 3), (4, 113)] rfl (cons2 rfl (cons2 rfl (cons2 (congrArg (fun X => some (AO.rows true X)) (by first | (simp; done) | rfl | (rw [List.map_append]; rfl) | (simp [outR]; done) | (simp only [outR, Sum.elim_inr, id, List.map_append, List.map_map]; rfl))) rfl))) rfl
                      · replace h10 := cond_f h10 hb
                        conv => whnf
                        obtain rfl := Option.some.inj h10
                        exact end_i rfl [(0, 0), (1, 1), (2, 2), (3, 3), (4, 113)] rfl rfl rfl
                    · replace h10 := cond_f h10 hb
                      conv => whnf
                      refine Or.inl ?_
                      conv => whnf
                      refine brn_i (fun hb => ?_) (fun hb => ?_)
                      · replace h10 := cond_t h10 hb
                        conv => whnf
                        obtain ⟨y_73, hy, h10⟩ := bind_e h10
                        refine Or.inr (callG_i [1, 0, 3, 4] (__wal_Wal__Sync_FC0 F c_52 c_53 c_54 c_51 fs_56 l_57 y_73 hy) rfl rfl rfl rfl ?_)
                        conv => whnf
                        refine Or.inl ?_
                        conv => whnf
                        refine brn_i (fun hb => ?_) (fun hb => ?_)
                        · replace h10 := cond_t h10 hb
                          conv => whnf
                          obtain rfl := Option.some.inj h10
                          obtain rfl := Option.some.inj k10
                          obtain rfl := Option.some.inj k6
                          exact rfl
                        · replace h10 := cond_f h10 hb
                          conv => whnf
                          obtain rfl := Option.some.inj h10
                          exact end_i rfl [(0, 0), (1, 1), (2, 2), (3, 3), (4, 113)] rfl rfl rfl
                      · replace h10 := cond_f h10 hb
                        conv => whnf
                        refine Or.inl ?_
                        conv => whnf
                        refine brn_i (fun hb => ?_) (fun hb => ?_)
                        · replace h10 := cond_t h10 hb
                          conv => whnf
                          refine Or.inl ?_
                          conv => whnf
                          refine brn_i (fun hb => ?_) (fun hb => ?_)
                          · replace h10 := cond_t h10 (by first | exact hb | (simp; done) | simpa using hb | simpa [chunk] using hb | (simp [chunk] at hb ⊢; omega))
                            conv => whnf
                            obtain rfl := Option.some.inj h10
                            exact end_i rfl [(0, 0), (1, 1), (2, 2), (3, 3), (4, 4)] rfl rfl rfl
                          · replace h10 := cond_f h10 (by first | exact hb | (simp; done) | simpa using hb | simpa [chunk] using hb | (simp [chunk] at hb ⊢; omega))
                            conv => whnf
                            obtain ⟨y_74, hy, h10⟩ := bind_e h10
                            refine Or.inr (callG_i [1, 0, 3, 4] (__wal_Wal__Reset_FC0 F y_71.Recs c_52 c_53 c_54 c_51 fs_56 l_57 y_74 hy) rfl rfl rfl rfl ?_)
                            conv => whnf
                            refine Or.inl ?_
                            conv => whnf
                            refine brn_i (fun hb => ?_) (fun hb => ?_)
                            · replace h10 := cond_t h10 hb
                              conv => whnf
                              obtain rfl := Option.some.inj h10
                              obtain rfl := Option.some.inj k10
                              obtain rfl := Option.some.inj k6
                              exact rfl
                            · replace h10 := cond_f h10 hb
                              conv => whnf
                              refine Or.inl ?_
                              conv => whnf
                              refine brn_i (fun hb => ?_) (fun hb => ?_)
                              · replace h10 := cond_t h10 hb
                                conv => whnf
                                refine Or.inl ?_
                                conv => whnf
                                refine And.intro (LenAll.map (fun _ => rfl)) ?_
                                conv => whnf
                                refine And.intro LenAll.nil ?_
                                conv => whnf
                                obtain ⟨hg, h10⟩ := grd_e h10
                                refine And.intro (by first | exact hg | (simp; done) | simpa using hg | simpa [chunk] using hg | (simp [chunk] at hg ⊢; omega)) ?_
                                conv => whnf
                                obtain rfl := Option.some.inj h10
                                exact end_i rfl [(0, 0), (1, 1), (2, 245), (3, 3), (4, 177)] rfl (cons2 rfl (cons2 rfl (cons2 (congrArg (fun X => some (AO.rows true X)) (by first | (simp; done) | rfl | (rw [List.map_append]; rfl) | (simp [outR]; done) | (simp only [outR, Sum.elim_inr, id, List.map_append, List.map_map]; rfl))) rfl))) rfl
                              · replace h10 := cond_f h10 hb
                                conv => whnf
                                obtain rfl := Option.some.inj h10
                                exact end_i rfl [(0, 0), (1, 1), (2, 2), (3, 3), (4, 177)] rfl rfl rfl
                        · replace h10 := cond_f h10 hb
                          conv => whnf
                          obtain rfl := Option.some.inj h10
                          exact end_i rfl [(0, 0), (1, 1), (2, 2), (3, 3), (4, 4)] rfl rfl rfl
                  · replace k10 := elim_e hR k10
                    generalize outR o10 = v at k10 ⊢
                    obtain ⟨synced_63, c_64, c_65, c_66, c_67, l_68, fs_69, l_70⟩ := v
                    conv => whnf
                    exact round_i (n_48, synced_63, (IntKind.wrap IntKind.i64 (i_50 + (1 : Int))), c_64, c_65, c_66, c_67, l_68, fs_69, l_70) [(0, 0), (1, 1), (2, 2), (3, 3), (4, 4)] k10 (Nat.lt_succ_self _) rfl rfl rfl
                · replace k9 := cond_f k9 hb
                  conv => whnf
                  obtain rfl := Option.some.inj k9
                  exact end_i rfl [(0, 0), (1, 2), (2, 3), (3, 4)] rfl rfl rfl
          · replace k6 := elim_e hR k6
            generalize outR o6 = v at k6 ⊢
            obtain ⟨synced_30, c_31, l_32, fs_33, l_34⟩ := v
            conv => whnf
            obtain ⟨y_75, hy, k6⟩ := bind_e k6
            refine Or.inr (callG_i [0, 2, 3] (__disk_Disk__Crash_FC0 F keep torn c_31 fs_33 l_34 y_75 hy) rfl rfl rfl rfl ?_)
            conv => whnf
            obtain ⟨y_76, hy, k6⟩ := bind_e k6
            rcases y_76 with y_76 | y_76
            · replace k6 := elim_l k6
              refine Or.inr (callG_i [0, 2, 31] (wal_Open_FC0 F y_75.1 y_75.2 [] y_76 hy) rfl rfl (cons2 rfl (cons2 rfl (cons2 (congrArg (fun X => some (AO.rows true X)) (by first | (simp; done) | rfl | (rw [List.map_append]; rfl) | (simp [outR]; done) | (simp only [outR, Sum.elim_inr, id, List.map_append, List.map_map]; rfl))) rfl))) rfl ?_)
              conv => whnf
              obtain ⟨o7, h7, k7⟩ := bind_e k6
              refine Or.inr (joins_i True ((11, (AV.osw 0 1)) :: ((12, (AV.int IntKind.i64 synced_30)) :: ((16, (AV.con (Value.pointer none))) :: ((17, (AV.osw 1 1)) :: ((18, (AV.int IntKind.i64 y_76.1)) :: ((104, (AV.bool true)) :: [])))))) ((0, (AO.rows true (List.map (cSl (cInt IntKind.u8)) l_32))) :: ((1, (AO.rows true (List.map (cSl (cInt IntKind.u8)) y_76.2.2.2.1))) :: [])) 2 ?_ (fun _ => ?_))
              · conv => whnf
                refine Or.inl ?_
                conv => whnf
                refine brn_i (fun hb => ?_) (fun hb => ?_)
                · replace h7 := cond_t h7 hb
                  conv => whnf
                  obtain rfl := Option.some.inj h7
                  exact end_i trivial [(0, 1), (1, 47)] rfl rfl rfl
                · replace h7 := cond_f h7 hb
                  conv => whnf
                  obtain rfl := Option.some.inj h7
                  exact end_i trivial [(0, 1), (1, 47)] rfl rfl rfl
              · conv => whnf
                refine Or.inl ?_
                conv => whnf
                obtain rfl := Option.some.inj k7
                exact rfl
            · replace k6 := elim_r k6
              refine Or.inr (callG_i [0, 2, 31] (wal_Open_FC1 F y_75.1 y_75.2 [] y_76 hy) rfl rfl (cons2 rfl (cons2 rfl (cons2 (congrArg (fun X => some (AO.rows true X)) (by first | (simp; done) | rfl | (rw [List.map_append]; rfl) | (simp [outR]; done) | (simp only [outR, Sum.elim_inr, id, List.map_append, List.map_map]; rfl))) rfl))) rfl ?_)
              conv => whnf
              obtain ⟨t104_77, h8, k8⟩ := bind_e k6
              refine Or.inr (joins_i True ((11, (AV.osw 0 1)) :: ((12, (AV.int IntKind.i64 synced_30)) :: ((16, (AV.ptr 1 0 0)) :: ((17, (AV.sl (List.map (cSl (cInt IntKind.u8)) y_76.1))) :: ((18, (AV.int IntKind.i64 y_76.2.1)) :: ((104, (AV.bool t104_77)) :: [])))))) ((0, (AO.rows true (List.map (cSl (cInt IntKind.u8)) l_32))) :: ((1, (AO.rows false (((AV.ptr 2 0 0) :: ((AV.str y_76.2.2.2.2.1) :: ((AV.int IntKind.i64 y_76.2.2.2.2.2.1) :: ((AV.int IntKind.i64 y_76.2.2.2.2.2.2.1) :: [])))) :: []))) :: ((2, (AO.rows false (((AV.mapo 3) :: ((AV.osw 4 2) :: ((AV.int IntKind.i64 y_76.2.2.1) :: []))) :: []))) :: ((3, (AO.fmap 1 (@encF (@List UInt8) Int (fun (k_13 : (@List UInt8)) => (AV.str k_13)) (cInt IntKind.u8) y_76.2.2.2.1) none)) :: ((4, (AO.rows true (List.map disk_write.c y_76.2.2.2.2.2.2.2))) :: []))))) 5 ?_ (fun _ => ?_))
              · conv => whnf
                refine Or.inl ?_
                conv => whnf
                refine brn_i (fun hb => ?_) (fun hb => ?_)
                · replace h8 := cond_t h8 hb
                  conv => whnf
                  obtain rfl := Option.some.inj h8
                  exact end_i trivial [(0, 1), (1, 47), (2, 0), (3, 2), (4, 48)] rfl rfl rfl
                · replace h8 := cond_f h8 hb
                  conv => whnf
                  obtain rfl := Option.some.inj h8
                  exact end_i trivial [(0, 1), (1, 47), (2, 0), (3, 2), (4, 48)] rfl rfl rfl
              · conv => whnf
                refine Or.inl ?_
                conv => whnf
                refine brn_i (fun hb => ?_) (fun hb => ?_)
                · replace k8 := cond_t k8 hb
                  conv => whnf
                  obtain rfl := Option.some.inj k8
                  exact rfl
                · replace k8 := cond_f k8 hb
                  conv => whnf
                  refine Or.inl ?_
                  conv => whnf
                  refine brn_i (fun hb => ?_) (fun hb => ?_)
                  · replace k8 := cond_t k8 (by first | exact hb | (simp; done) | simpa using hb | simpa [chunk] using hb | (simp [chunk] at hb ⊢; omega))
                    conv => whnf
                    refine brn_i (fun hb => ?_) (fun hb => ?_)
                    · replace k8 := cond_t k8 (by first | exact hb | (simp; done) | simpa using hb | simpa [chunk] using hb | (simp [chunk] at hb ⊢; omega))
                      conv => whnf
                      refine And.intro (LenAll.map (fun _ => rfl)) ?_
                      conv => whnf
                      refine Or.inr ?_
                      conv => whnf
                      refine ⟨_, _, rfl, rfl, rfl, rfl, ?_⟩
                      conv => whnf
                      refine And.intro (by omega) ?_
                      conv => whnf
                      obtain ⟨hg, k8⟩ := grd_e k8
                      refine And.intro (by first | exact hg | (simp; done) | simpa using hg | simpa [chunk] using hg | (simp [chunk] at hg ⊢; omega)) ?_
                      conv => whnf
                      refine Or.inl ?_
                      conv => whnf
                      obtain ⟨y_78, hy, k8⟩ := bind_e k8
                      refine ⟨_, _, (FC_arg2 (cons2 rfl (cons2 (congrArg AV.sl (by first | (simp; done) | rfl | (rw [List.map_append]; rfl) | (simp [outR]; done) | (simp only [outR, Sum.elim_inr, id, List.map_append, List.map_map]; rfl))) rfl)) (matinsref10_Lists_FC F y_76.1 (List.take (Int.toNat (@Nat.cast Int instNatCastInt (List.length (List.map (cSl (cInt IntKind.u8)) y_76.1)))) l_32) y_78 hy)), Or.inl ⟨rfl, rfl, ?_⟩⟩
                      conv => whnf
                      refine brn_i (fun hb => ?_) (fun hb => ?_)
                      · replace k8 := cond_t k8 hb
                        conv => whnf
                        obtain ⟨y_79, hy, k8⟩ := bind_e k8
                        refine Or.inr (callG_i [1, 2, 3, 4] (__wal_Wal__Count_FC0 F y_76.2.2.2.2.1 y_76.2.2.2.2.2.1 y_76.2.2.2.2.2.2.1 y_76.2.2.1 y_76.2.2.2.1 y_76.2.2.2.2.2.2.2 y_79 hy) rfl rfl rfl rfl ?_)
                        conv => whnf
                        obtain rfl := Option.some.inj k8
                        exact rfl
                      · replace k8 := cond_f k8 hb
                        conv => whnf
                        obtain rfl := Option.some.inj k8
                        exact rfl
                    · replace k8 := cond_f k8 (by first | exact hb | (simp; done) | simpa using hb | simpa [chunk] using hb | (simp [chunk] at hb ⊢; omega))
                      conv => whnf
                      obtain rfl := Option.some.inj k8
                      exact rfl
                  · replace k8 := cond_f k8 (by first | exact hb | (simp; done) | simpa using hb | simpa [chunk] using hb | (simp [chunk] at hb ⊢; omega))
                    conv => whnf
                    obtain rfl := Option.some.inj k8
                    exact rfl


end Go.T
