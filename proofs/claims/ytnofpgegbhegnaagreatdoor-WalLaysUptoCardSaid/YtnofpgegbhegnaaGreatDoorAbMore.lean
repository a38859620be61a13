/-
  AbMore: contracts told otherwise; tables.
-/
import Derived.Test.YtnofpgegbhegnaaGreatDoorAbOnce
import Derived.Test.YtnofpgegbhegnaaGreatDoorAbShelf
import Derived.Lib.Strings
import Derived.Lib.ItoaNum
import Derived.Lib.AtoiAll
namespace Go.Ab

/-- rows that name no object may be told as pure ones -/
theorem FC_pure {P : Program} {G : Gmap} {f : Nat} {oin : Os} {args : List AV} {v : AV} {os os' : Os} (o : Nat) {rs : List (List AV)} (h : FC P G f oin args v os) (hin : oin.length ≤ W)
    (ho : lk os o = some (.rows false rs)) (hfree : (rs.all fun r => r.all idFree) = true) (hos : (os'.all fun e => decide (e.1 < W)) = true)
    (hE : EndG oin.length v os' v (updL os [(o, some (.rows true rs))])) : FC P G f oin args v os' := by
  refine ⟨h.1, fun o x hx => ?_, fun S0 ι0 w0 vs h0 hG hob hι hL => ?_⟩
  · have := List.all_eq_true.1 hos _ (lk_mem hx)
    simpa using this
  refine (h.2.2 S0 ι0 w0 vs h0 hG hob hι hL).mono ?_
  rintro e w ⟨u, S, ι, rfl, q1, q2, q3, q4, q5, q6, q7⟩
  obtain ⟨os2, σ, hfl, hcv⟩ := hE.h
  have him : ∀ j L, ι0 j = some L → j < oin.length := fun j L e => by
    rcases Nat.lt_or_ge j oin.length with q | q
    · exact q
    · rw [hι j q] at e; cases e
  let C' : Cx := ⟨fun _ => none, w0, ⟨0, 1, false⟩, OwOf w0 ι0 oin, S0, oin.length, ι0, him, fun _ => undef, [], []⟩
  have hi' : Inv C' S ι (fun x => W ≤ x) (toFS [(0, v)] os) { tmps := #[u], defers := [] } w := by
    refine ⟨fun t => ?_, rfl, ⟨rfl, fun t ht => absurd ht (Nat.not_lt_zero t), fun q hq => (by cases hq)⟩, q7.ob, q7.own, q7.inj, fun b hb => (q2 b hb).2, fun b hb => (q2 b hb).1, q5, q1, fun b hb => .inl hb, fun g row hg => (by cases hg), q3, fun j L e => q4 j _ e⟩
    cases t with
    | zero => exact q6
    | succ t => exact .imm _ _ (.undef _)
  have ho1 : (toFS [(0, v)] os).os o = some (.rows false rs) := ho
  have hob1 := hi'.ob o _ ho1
  have hi2 := hi'.reform (x' := .rows true rs) ho1 rfl rfl rfl (by
    rcases hob1 with h | ⟨l, vals, h1, h2, h3, h4, h5⟩
    · exact .inl h
    · refine .inr ⟨l, vals, h1, h2, h3, h4, fun j r hr => ?_⟩
      have hR := h5 j r hr
      simp only [Bool.false_eq_true, if_false] at hR
      simp only [if_true]
      exact hR.free (List.all_eq_true.1 hfree _ (List.mem_of_getElem? hr)))
  have e : ({ toFS [(0, v)] os with os := updO (toFS [(0, v)] os).os [(o, some (.rows true rs))] } : FS) = toFS [(0, v)] (updL os [(o, some (.rows true rs))]) := by
    unfold toFS
    rw [lk_updL]
  rw [e] at hi2
  obtain ⟨ι2, hi3⟩ := (Inv.fills hfl hi2).cov hcv
  exact ⟨u, S, ι2, rfl, hi3.fr, fun b hb => ⟨hi3.sn b hb, hi3.sb b hb⟩, hi3.s0, fun j L e => hi3.hj j L e, hi3.un, hi3.tm 0, ⟨hi3.ob, hi3.own, hi3.inj⟩⟩

/-- a list of its own that is handed in may be one that is empty and owns nothing -/
theorem FC_esl {P : Program} {G : Gmap} {f : Nat} {args : List AV} {rv : AV} {os : Os} (k z : Nat) (h : FC P G f [(0, .rows true [])] args rv os) (hk : args[k]? = some (.osw 0 z)) : FC P G f [] (args.set k .esl) rv os := by
  refine ⟨h.1, h.2.1, fun S0 ι0 w0 vs h0 hG hob hι hL => ?_⟩
  let ι1 : Imap := fun o => if o = 0 then some none else ι0 o
  have hle : ι0.le ι1 := fun o x e => by
    have := hι o (Nat.zero_le _)
    rw [this] at e; cases e
  have hOw : OwOf w0 ι1 [(0, .rows true [])] = OwOf w0 ι0 [] := by
    funext b
    apply propext
    constructor
    · rintro (h | ⟨o, x, l, h1, h2, h3, h4⟩)
      · exact .inl h
      · by_cases e : o = 0
        · subst e; simp only [ι1, if_true] at h3; cases h3
        · simp [lk, e] at h1
    · rintro (h | ⟨o, x, l, h1, _⟩)
      · exact .inl h
      · simp [lk] at h1
  have hkl := lt_of_get hk
  refine (h.2.2 S0 ι1 w0 vs h0 hG ?_ ?_ ⟨by rw [← hL.1]; simp, fun j x v hx hv => ?_⟩).mono ?_
  · rw [hOw]
    refine ⟨fun o x hx => ?_, fun o x hx hl l e => ?_, fun o o' x x' hx hx' hl hl' l l' e => ?_⟩
    · by_cases q : o = 0
      · subst q
        simp only [lk, if_true, Option.some.injEq] at hx; subst hx
        exact .inl ⟨by simp [ι1], rfl⟩
      · simp [lk, q] at hx
    · by_cases q : o = 0
      · subst q; simp only [ι1, if_true] at e; cases e
      · simp [lk, q] at hx
    · by_cases q : o = 0
      · subst q; simp only [ι1, if_true] at e; cases e
      · simp [lk, q] at hx
  · intro o ho
    have : o ≠ 0 := fun e => by subst e; simp at ho
    simp only [ι1, if_neg this]
    exact hι o (Nat.zero_le _)
  · by_cases q : j = k
    · subst q
      rw [hk] at hx; injection hx with hx; subst hx
      have := hL.2 j .esl v (by rw [List.getElem?_set_self hkl]) hv
      cases this with
      | imm _ _ h => cases h with | esl a => exact .oswv 0 z a (by simp [ι1])
    · exact (hL.2 j x v (by rw [List.getElem?_set_ne (fun e => q e.symm)]; exact hx) hv).mono (fun _ h => h) (fun _ _ => rfl) hle
  · rintro e w' ⟨v, S', ι', rfl, q1, q2, q3, q4, q5, q6, q7⟩
    rw [hOw] at q1 q2 q7
    exact ⟨v, S', ι', rfl, q1, q2, q3, fun o x e => q4 o x (hle o x e), q5, q6, q7⟩

/-- what package variables hold that differs from run to run -/
structure Gv where
  ml : Int
  e0 : Value
  e1 : Value
  h0 : e0 = .nilIface ∨ ∃ te pe, e0 = .iface te pe
  h1 : e1 = .nilIface ∨ ∃ te pe, e1 = .iface te pe

/-! sorted lists; the number in a log's name -/
def sortI (l : List Int) : List Int := l.mergeSort fun x y => decide (x ≤ y)
def sortS (l : List (List UInt8)) : List (List UInt8) := l.mergeSort fun x y => decide (x ≤ y)
def logS : List UInt8 := [108, 111, 103, 45]
def numberL (s : List UInt8) : Int :=
  match Lib.atoiAll (Lib.trimPrefix s logS) with
  | .ok n => if Lib.hasPrefix s logS = true ∧ (Lib.trimPrefix s logS).length ≤ 9 ∧ 1 ≤ n ∧ Lib.itoa n = Lib.trimPrefix s logS then n else 0
  | _ => 0

/-! a check sum by a table -/
set_option maxRecDepth 100000
theorem wrap_id64 {x : Int} (h1 : -9223372036854775808 ≤ x) (h2 : x ≤ 9223372036854775807) : IntKind.wrap IntKind.i64 x = x := by
  rw [IntKind.wrap_i64]; omega
def crow (d m s : Int) (tab : List Int) : List AV := .int .u32 d :: .int .i32 m :: .int .u32 s :: tab.map (fun n => .int .u32 n)
def stepC (c : Int) : Int := ibits BinOp.xor IntKind.u32 (c.fdiv (2 ^ min (Int.toNat 1) IntKind.u32.bits)) (IntKind.u32.wrap (3988292384 * ibits BinOp.and IntKind.u32 c 1))
def iterC : Nat → Int → Int
  | 0, c => c
  | k + 1, c => iterC k (stepC c)
def tabK (tab : List Int) : Nat → List Int
  | 0 => tab
  | k + 1 => (tabK tab k).set k (iterC 8 (IntKind.u32.wrap (k : Int)))
theorem tabK_len (tab : List Int) : ∀ k, (tabK tab k).length = tab.length
  | 0 => rfl
  | k + 1 => by simp [tabK, tabK_len tab k]
theorem crow_len (d m s : Int) (tab : List Int) : (crow d m s tab).length = tab.length + 3 := by simp [crow]
theorem crow_set (d m s : Int) (tab : List Int) (k : Nat) (v : Int) (h : k < tab.length) : setAt (crow d m s tab) (3 + k) [.int .u32 v] = crow d m s (tab.set k v) := by
  have h1 : setAt (crow d m s tab) (3 + k) [.int .u32 v] = (crow d m s tab).set (3 + k) (.int .u32 v) := by
    unfold setAt
    rw [List.set_eq_take_append_cons_drop, if_pos (by rw [crow_len]; omega)]
    rfl
  rw [h1, Nat.add_comm]
  simp [crow, List.map_set]
def tab0 : List Int := List.replicate 256 0
def crcTab : List Int := tabK tab0 256
def c0 : Int := ibits BinOp.xor IntKind.u32 (if IntKind.u32.signed = true then -1 else IntKind.u32.max) 0
def ixC (c x : Int) : Int := ibits .xor .u8 (IntKind.u8.wrap c) x
theorem ixC_lt (c x : Int) : 0 ≤ ixC c x ∧ ixC c x < 256 := by
  unfold ixC ibits
  rw [IntKind.wrap_u8]
  omega
theorem crow_get {d m s : Int} (ix : Int) (h : ix < 256) : (crow d m s crcTab)[0 + 3 + ix.toNat * 1]? = some (.int .u32 (crcTab.getD ix.toNat 0)) := by
  have hl : crcTab.length = 256 := by unfold crcTab; rw [tabK_len]; simp [tab0]
  rw [show 0 + 3 + ix.toNat * 1 = ix.toNat + 3 by omega]
  simp only [crow, List.getElem?_cons_succ, List.getElem?_map, List.getD_eq_getElem?_getD]
  rw [List.getElem?_eq_getElem (by omega)]
  rfl
def moreC (c : Int) : List Int → Int
  | [] => c
  | x :: r => moreC (ibits .xor .u32 (c.fdiv (2 ^ min (Int.toNat 8) IntKind.u32.bits)) (crcTab.getD (ixC c x).toNat 0)) r
def crcS (b : List Int) : Int := ibits BinOp.xor IntKind.u32 (if IntKind.u32.signed = true then -1 else IntKind.u32.max) (moreC c0 b)
end Go.Ab
