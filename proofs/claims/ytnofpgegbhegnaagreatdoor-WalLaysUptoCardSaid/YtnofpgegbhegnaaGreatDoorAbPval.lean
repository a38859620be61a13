/-
  AbPval: each operation that only computes runs in the model and gives the value told.
-/
import Derived.Test.YtnofpgegbhegnaaGreatDoorAbOps
namespace Go.Ab
section
variable {S : Nat → Prop} {w : World} {ι : Imap} {P : Program}

theorem add_plain (b o n : Nat) : (⟨b, o, none⟩ : Addr).add n = ⟨b, o + n, none⟩ := Addr.add_lit b o n

theorem RepL.fnr {f : Nat} {cs : List AV} {vs : Array Value} (h : RepL S w ι cs vs.toList) : Rep S w ι (.fn f cs) (fnV f vs) :=
  .fn _ _ _ (by simpa using h.1) (fun j x v hx hv => h.2 j x v hx (by rw [Array.getElem?_toList]; exact hv))
theorem RepL.tupr {cs : List AV} {vs : Array Value} (h : RepL S w ι cs vs.toList) : Rep S w ι (.tup cs) (.tuple vs) :=
  .tup _ _ (by simpa using h.1) (fun j x v hx hv => h.2 j x v hx (by rw [Array.getElem?_toList]; exact hv))

theorem RepL.map {α : Type} {e : α → AV} {ρ : α → Value} (h : ∀ x, Rep S w ι (e x) (ρ x)) (l : List α) : RepL S w ι (l.map e) (l.map ρ) := by
  refine ⟨by simp, fun j x v hx hv => ?_⟩
  rw [List.getElem?_map] at hx hv
  cases hj : l[j]? with
  | none => rw [hj] at hx; cases hx
  | some y =>
    rw [hj] at hx hv
    simp only [Option.map_some, Option.some.injEq] at hx hv
    subst hx; subst hv
    exact h y

theorem fieldAddr_ok {s : TypeId} {i : Nat} {fd : Field} {n : Nat} {b : Bool} (hf : fieldT P s i = some fd) (hk : kindT P fd.type = some (b, n + 1)) (bl o : Nat) :
    (Instr.fieldAt s (.pointer (some ⟨bl, o, none⟩)) i).run P w = .ok (.pointer (some ⟨bl, o + fd.offset, none⟩)) w := by
  unfold fieldT at hf
  split at hf
  · rename_i fs hs
    obtain ⟨_, h2⟩ := kindT_run hk w
    unfold Instr.fieldAt fieldPlace
    simp only [Sem.run_bind, run_underlying hs, Result.andThen_ok, hf, Instr.sureAddr, Sem.run_pure, h2, Nat.add_one_ne_zero, if_false, add_plain]
  · cases hf

theorem pval_ok {ev : Operand → AV} {ρ : Operand → Value} (hr : ∀ x, Rep S w ι (ev x) (ρ x)) (o : Oper) {v : AV} (h : pval P ev o.op = some v) :
    ∃ v', (execOp ρ o).run P w = .ok (.value v') w ∧ Rep S w ι v v' := by
  have lift : ∀ (s : Sem Value), (∃ v', s.run P w = .ok v' w ∧ Rep S w ι v v') → ∃ v', (do pure (Next.value (← s)) : Sem Next).run P w = .ok (.value v') w ∧ Rep S w ι v v' := by
    rintro s ⟨v', h1, h2⟩
    exact ⟨v', by simp only [Sem.run_bind, h1, Result.andThen_ok, Sem.run_pure], h2⟩
  unfold pval at h
  split at h
  · rename_i x ho
    injection h with h; subst h
    exact ⟨ρ x, by unfold execOp; rw [ho]; rfl, hr x⟩
  · rename_i x ho
    injection h with h; subst h
    exact ⟨ρ x, by unfold execOp; rw [ho]; rfl, hr x⟩
  · -- fieldAddr
    rename_i s x i ho
    split at h
    · cases h
    · rename_i fd hf
      split at h
      · rename_i bb n hk
        have hx := hr x
        unfold execOp; rw [ho]
        refine lift _ ?_
        split at h
        · rename_i ob r c hev
          injection h with h; subst h
          rw [hev] at hx
          obtain ⟨l, hl, hv⟩ := hx.ptr_inv
          rw [hv]
          refine ⟨_, fieldAddr_ok hf hk _ _, ?_⟩
          have := Rep.ptr (S := S) (w := w) ob r (c + fd.offset) l hl
          rw [show l.base + (r * l.esz + (c + fd.offset)) = l.base + (r * l.esz + c) + fd.offset by omega] at this
          exact this
        · rename_i row c hev
          injection h with h; subst h
          rw [hev] at hx
          cases hx with
          | imm _ _ hx =>
            generalize hrx : ρ x = vx at hx
            cases hx with
            | rp _ _ blk base vals hS hl hcell hrep =>
              refine ⟨_, fieldAddr_ok hf hk _ _, ?_⟩
              rw [Nat.add_assoc]
              exact .imm _ _ (.rp row (c + fd.offset) blk base vals hS hl hcell hrep)
        · cases h
      · cases h
  · -- field
    rename_i s x i ho
    split at h
    · cases h
    · rename_i fd hf
      have hx := hr x
      unfold execOp; rw [ho]
      refine lift _ ?_
      split at h
      · rename_i cs hev
        rw [hev] at hx
        obtain ⟨vs, hv, hL⟩ := hx.agg_inv
        unfold fieldT at hf
        split at hf
        · rename_i fs hs
          obtain ⟨v', h1, h2⟩ := part_ok hL h
          refine ⟨v', ?_, h2⟩
          unfold Instr.field
          simp only [Sem.run_bind, run_underlying hs, Result.andThen_ok, hf, hv, asAgg, Sem.run_pure]
          exact h1
        · cases hf
      · cases h
  · -- unOp
    rename_i op t x ho
    have hx := hr x
    unfold execOp; rw [ho]
    refine lift _ ?_
    unfold una at h
    split at h
    · rename_i k n hev
      injection h with h; subst h
      rw [hev] at hx; rw [hx.int_inv]
      exact ⟨_, by simp only [unary_neg, Op.intArith, Sem.run_pure], .imm _ _ (.int _ _)⟩
    · rename_i k n hev
      injection h with h; subst h
      rw [hev] at hx; rw [hx.int_inv]
      exact ⟨_, by simp only [unary_xor, Op.intBits, Sem.run_pure]; rfl, .imm _ _ (.int _ _)⟩
    · rename_i b hev
      injection h with h; subst h
      rw [hev] at hx; rw [hx.bool_inv]
      exact ⟨_, by simp only [unary_not, Sem.run_pure], .imm _ _ (.bool _)⟩
    · cases h
  · -- binOp
    rename_i op t x y t' ho
    unfold execOp; rw [ho]
    refine lift _ ?_
    exact bin_ok h (hr x) (hr y) x y
  · -- extract
    rename_i t i ho
    have hx := hr t
    unfold execOp; rw [ho]
    refine lift _ ?_
    split at h
    · rename_i vs hev
      rw [hev] at hx
      obtain ⟨us, hv, hL⟩ := hx.tup_inv
      obtain ⟨u, hu, hru⟩ := hL.get h
      rw [hv]
      have hu' : us[i]? = some u := by simpa using hu
      exact ⟨u, by simp only [Instr.extract, hu', Sem.run_pure], hru⟩
    · cases h
  · -- build
    rename_i t parts ho
    unfold execOp; rw [ho]
    refine lift _ ?_
    exact build_ok hr h
  · -- makeFunc
    rename_i f first cap ho
    unfold execOp; rw [ho]
    refine lift _ ?_
    cases hfirst : first.isEmpty with
    | true =>
      rw [hfirst] at h
      simp only [cond_true] at h
      cases hlt : Nat.blt f FB with
      | false => rw [hlt] at h; cases h
      | true =>
        rw [hlt] at h
        injection h with h; subst h
        have hf : first = #[] := by simpa using hfirst
        subst hf
        refine ⟨fnV f (cap.map ρ), by rw [fnV_lt hlt]; simp [Instr.makeFunc], RepL.fnr ?_⟩
        rw [Array.toList_map]
        exact RepL.map hr _
    | false =>
      rw [hfirst] at h
      simp only [cond_false] at h
      cases hcap : cap.isEmpty with
      | false => rw [hcap] at h; cases h
      | true =>
        rw [hcap] at h
        injection h with h; subst h
        have hf : cap = #[] := by simpa using hcap
        subst hf
        have hge : Nat.blt (FB + f) FB = false := by
          cases hb : Nat.blt (FB + f) FB with
          | false => rfl
          | true =>
            have := Nat.le_of_ble_eq_true hb
            omega
        refine ⟨fnV (FB + f) (first.map ρ), by unfold fnV; rw [hge, Nat.add_sub_cancel_left]; simp [Instr.makeFunc], RepL.fnr ?_⟩
        rw [Array.toList_map]
        exact RepL.map hr _
  · -- nilCheck
    rename_i x ho
    have hx := hr x
    unfold execOp; rw [ho]
    split at h
    · rename_i ob r c hev
      injection h with h; subst h
      rw [hev] at hx
      obtain ⟨l, hl, hv⟩ := hx.ptr_inv
      refine ⟨ρ x, ?_, hx⟩
      simp only [hv, Sem.run_pure]
    · rename_i row c hev
      injection h with h; subst h
      rw [hev] at hx
      refine ⟨ρ x, ?_, hx⟩
      have : ∃ p, ρ x = .pointer (some p) := by
        cases hx with
        | imm _ _ hx => generalize ρ x = vx at hx ⊢; cases hx; exact ⟨_, rfl⟩
      obtain ⟨p, hp⟩ := this
      simp only [hp, Sem.run_pure]
    · rename_i fid cap hev
      injection h with h; subst h
      rw [hev] at hx
      obtain ⟨us, hv, hL⟩ := hx.fn_inv
      refine ⟨ρ x, ?_, hx⟩
      obtain ⟨a1, b1, c1, hh⟩ : ∃ a1 b1 c1, fnV fid us = .func (.func a1) b1 c1 := by
        unfold fnV
        cases Nat.blt fid FB
        · exact ⟨_, _, _, rfl⟩
        · exact ⟨_, _, _, rfl⟩
      rw [hh] at hv
      simp only [hv, Sem.run_pure]
    · cases h
  · -- convert
    rename_i s d x ho
    have hx := hr x
    unfold execOp; rw [ho]
    refine lift _ ?_
    split at h
    · rename_i ds k k' n hs hd hev
      injection h with h; subst h
      rw [hev] at hx; rw [hx.int_inv]
      exact ⟨.int k (k.wrap n), by simp [convert, run_underlying hs, run_underlying hd, Conv.intToInt], .imm _ _ (.int _ _)⟩
    · rename_i ds l hs hd hev
      injection h with h; subst h
      rw [hev] at hx; rw [hx.str_inv]
      exact ⟨_, by simp [convert, run_underlying hs, run_underlying hd], .imm _ _ (IRep.str_mk l)⟩
    · cases h
  · -- len
    rename_i args ts ho
    unfold execOp; rw [ho]
    split at h
    · rename_i t x ht hx
      obtain ⟨v', h1, h2⟩ := len_ok (ty := o.type) h (hr x) ts ht (args.map ρ) (by simp [hx])
      refine ⟨v', ?_, h2⟩
      simp only [resolve, invoke, builtin, Sem.run_bind, Sem.run_pure, Result.andThen_ok, h1]
    · cases h
  · -- max
    rename_i args ts ho
    unfold execOp; rw [ho]
    split at h
    · rename_i x y hl
      have ha : args = #[x, y] := by apply Array.ext'; simpa using hl
      subst ha
      have hx := hr x; have hy := hr y
      split at h
      · rename_i k a k' b hev1 hev2
        injection h with h; subst h
        rw [hev1] at hx; rw [hev2] at hy
        refine ⟨.int k (if b > a then b else a), ?_, .imm _ _ (.int _ _)⟩
        simp [resolve, invoke, builtin, hx.int_inv, hy.int_inv, run_max_int2]
      · rename_i a b hev1 hev2
        injection h with h; subst h
        rw [hev1] at hx; rw [hev2] at hy
        refine ⟨.string ⟨(if !Op.bytesLess a b then a else b).toArray⟩, ?_, .imm _ _ (IRep.str_mk _)⟩
        simp only [resolve, invoke, builtin, Sem.run_bind, Sem.run_pure, Result.andThen_ok, List.map_toArray, List.map_cons, List.map_nil, hx.str_inv, hy.str_inv, Builtin.max_]
        simp [Builtin.max2, Op.stringOp, asBool]
        split <;> rfl
      · cases h
    · cases h
  · -- min
    rename_i args ts ho
    unfold execOp; rw [ho]
    split at h
    · rename_i x y hl
      have ha : args = #[x, y] := by apply Array.ext'; simpa using hl
      subst ha
      have hx := hr x; have hy := hr y
      split at h
      · rename_i k a k' b hev1 hev2
        injection h with h; subst h
        rw [hev1] at hx; rw [hev2] at hy
        refine ⟨.int k (if b < a then b else a), ?_, .imm _ _ (.int _ _)⟩
        simp [resolve, invoke, builtin, hx.int_inv, hy.int_inv, run_min_int2]
      · cases h
    · cases h
  · cases h
end
end Go.Ab
