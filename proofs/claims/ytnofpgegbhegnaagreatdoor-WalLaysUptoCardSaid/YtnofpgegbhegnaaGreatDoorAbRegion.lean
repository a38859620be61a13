/-
  AbRegion: a chain of abstract steps is a region's run in the model.
-/
import Derived.Test.YtnofpgegbhegnaaGreatDoorAbChain
import Derived.Test.YtnofpgegbhegnaaGreatDoorAbPoke
import Derived.TacticsIn
import Derived.RangeFuncCalls
namespace Go.Ab
/-- the fence: none; in a round of a loop, or not -/
abbrev WF (r : Option Nat) : Fence := { Fence.wide with round := r }
theorem roomW (r : Option Nat) (n : Nat) : (WF r).room n := room_wide n
theorem callsW {r : Option Nat} {n : Nat} {P : Program} {f : FuncId} {args : Array Value} {w : World} {R : Ending → World → Prop} (h : Calls P f args w R) : CallsIn (WF r) n P f args w R :=
  callsIn_wide.2 h
def isDefer : Op → Bool
  | .defer _ => true
  | _ => false
theorem rowsW {r : Option Nat} {n : Nat} {P : Program} {row : String} {args : Array Value} {w : World} {R : Value → World → Prop} (h : Rows P row args w R) : RowsIn (WF r) n P row args w R :=
  fun c cs _ => by
    obtain ⟨v, w', a, b⟩ := h c cs
    refine ⟨v, w', a, ?_⟩
    show StepsIn (Machine.fenced P Fence.wide) _ _ _
    exact stepsIn_wide.2 b
/-- an operation that does as everywhere does so in a round -/
theorem operW {r : Option Nat} {n : Nat} {P : Program} {o : Oper} {a : Act} {w : World} {next : Act → World → Prop} {Q : Exit → Act → World → Prop} (hd : isDefer o.op = false) (h : o.wp P a w next Q) :
    o.wpIn (WF r) n P a w next Q := by
  refine ⟨fun _ _ => trivial, ?_⟩
  have e : Oper.semAt (WF r).round a.eval o = execOp a.eval o := by
    cases r with
    | none => rfl
    | some l => exact Oper.semAt_some l _ _ (fun c hc => by rw [hc] at hd; cases hd)
  rw [e]
  unfold Oper.wp at h
  generalize (execOp a.eval o).run P w = X at h ⊢
  cases X with
  | ok x w' =>
    cases x with
    | enter f args => exact ⟨fun h => (by cases h), callsW h⟩
    | row row args => exact ⟨fun h => (by cases h), rowsW h⟩
    | round l f t x y => exact h.elim
    | _ => exact h
  | halt x w' => cases x <;> exact h
section
variable {P : Program} {C : Cx} {ops : Array Oper} {nb : Nat} {L : Log} {Q : Exit → Act → World → Prop}

theorem want_ok {S : Nat → Prop} {ι : Imap} {un : Nat → Prop} {f : FS} {a : Act} {w : World} (h : Inv C S ι un f a w) {o : Oper} {b : Bool} (hw : wantA ops f.g o = some b) :
    Region.wanted o (yielded ops a.tmps) = b := by
  unfold wantA at hw
  unfold Region.wanted
  cases hg : o.guard with
  | none => rw [hg] at hw; injection hw
  | some jw =>
    obtain ⟨j, want⟩ := jw
    rw [hg] at hw
    simp only at hw ⊢
    split at hw
    · rename_i d hd
      split at hw
      · rename_i c hc
        injection hw with hw
        subst hw
        have ht := h.tm d
        rw [hc] at ht
        have hv := ht.bool_inv
        have hsome : a.tmps[d]? = some (.bool c) := by
          rw [Array.getD_eq_getD_getElem?] at hv
          cases hq : a.tmps[d]? with
          | none => rw [hq] at hv; simp [undef] at hv
          | some x => rw [hq] at hv; simp at hv; rw [hv]
        unfold yielded
        rw [hd]
        simp only [Option.bind_some, hsome]
        cases c <;> cases want <;> rfl
      · rename_i vs hc
        injection hw with hw
        subst hw
        have ht := h.tm d
        rw [hc] at ht
        obtain ⟨us, hv, _⟩ := ht.tup_inv
        have hne : ∀ b, a.tmps[d]? ≠ some (.bool b) := by
          intro b hb
          rw [Array.getD_eq_getD_getElem?, hb] at hv
          simp at hv
        unfold yielded
        rw [hd]
        simp only [Option.bind_some]
        first
          | rfl
          | (split
             · rename_i b hb; exact absurd hb (hne b)
             · rfl)
      · cases hw
    · cases hw

theorem chain_ok {r : Option Nat} : ∀ {l : List Nat} {f f' : FS}, RChain P C.G C.N ops nb L l f f' → l.Nodup → ∀ {S : Nat → Prop} {ι : Imap} {un : Nat → Prop} {a : Act} {w : World},
    Inv C S ι un f a w → (∀ i, i ∈ l → ∀ x, nb + i * W ≤ x → x < nb + i * W + W → un x) → (∀ i, i ∈ l → ∀ o, ops[i]? = some o → isDefer o.op = false) →
    (∀ S' ι' a' w', Inv C S' ι' (fun x => un x ∧ ∀ i, i ∈ l → ¬ (nb + i * W ≤ x ∧ x < nb + i * W + W)) f' a' w' → Q .normal a' w') → wpOpsIn (WF r) 0 P ops Q l a w := by
  intro l f f' hch
  induction hch with
  | nil f =>
    intro _ S ι un a w h _ _ hQ
    exact hQ S ι a w (h.less (fun x hx => hx.1))
  | cons i l f f1 f2 hstep _ ih =>
    intro hnd S ι un a w h hun hdf hQ
    obtain ⟨hil, hnd'⟩ := List.nodup_cons.1 hnd
    have happart : ∀ k, k ∈ l → ∀ x, nb + k * W ≤ x → x < nb + k * W + W → ¬ (nb + i * W ≤ x ∧ x < nb + i * W + W) := by
      intro k hk x h1 h2 h3
      have : k ≠ i := fun e => hil (e ▸ hk)
      have hW : W = 8 := rfl
      simp only [hW] at h1 h2 h3
      omega
    cases hstep with
    | run o v U RO ho hw hA hd hL =>
      simp only [wpOpsIn, ho]
      rw [if_pos (want_ok h hw)]
      refine operW (hdf i (by simp) o ho) (step_ok rfl h hA (fun x h1 h2 => hun i (by simp) x h1 h2) hd (fun S' ι' a' w' hinv => ?_))
      refine ih hnd' hinv (fun k hk x h1 h2 => ⟨hun k (by simp [hk]) x h1 h2, happart k hk x h1 h2⟩) (fun k hk => hdf k (by simp [hk])) (fun S2 ι2 a2 w2 hinv2 => ?_)
      refine hQ S2 ι2 a2 w2 (hinv2.less (fun x hx => ⟨⟨hx.1, hx.2 i (by simp)⟩, fun k hk => hx.2 k (by simp [hk])⟩))
    | skip o ho hw hd hL =>
      simp only [wpOpsIn, ho]
      rw [if_neg (by rw [want_ok h hw]; simp)]
      refine ⟨fun _ _ => trivial, ?_⟩
      have hinv : Inv C S ι un (f.upd o.dst (.tup []) []) (a.put o.dst undef) w := by
        have := h.put (dst := o.dst) (v := .tup []) (v' := undef) (.imm _ _ (.tup [] #[] rfl (fun j x v h => by simp at h))) hd
        have e : f.upd o.dst (.tup []) [] = f.put o.dst (.tup []) := by
          unfold FS.upd; cases o.dst <;> rfl
        rw [e]; exact this
      refine ih hnd' hinv (fun k hk x h1 h2 => hun k (by simp [hk]) x h1 h2) (fun k hk => hdf k (by simp [hk])) (fun S2 ι2 a2 w2 hinv2 => ?_)
      refine hQ S2 ι2 a2 w2 (hinv2.less (fun x hx => ⟨hx.1, fun k hk => hx.2 k (by simp [hk])⟩))

/-- A REGION: a chain in the text's order, and, where the order is drawn, that all that may change places can -/
theorem region_ok {r : Option Nat} {idr : Nat} {draw : Bool} {f f' : FS} (hm : P.follows .mixedOrders = true) (h : RChain P C.G C.N ops nb L (List.range ops.size) f f')
    (hd : draw = true → okRegion ops L = true) {S : Nat → Prop} {ι : Imap} {a : Act} {w : World} (hinv : Inv C S ι (fun x => nb ≤ x) f a w)
    (hdf : ∀ o, o ∈ ops.toList → isDefer o.op = false)
    (hQ : ∀ S' ι' a' w', Inv C S' ι' (fun x => nb + ops.size * W ≤ x) f' a' w' → Q .normal a' w') : (Code.region idr ops draw).wpIn (WF r) 0 P Q a w := by
  have hdf' : ∀ (i : Nat) (o : Oper), ops[i]? = some o → isDefer o.op = false := fun i o ho => hdf o (List.mem_of_getElem? (by simpa using ho))
  have hun : ∀ (l : List Nat), (∀ i, i ∈ l → i < ops.size) → ∀ S' ι' a' w', Inv C S' ι' (fun x => nb ≤ x ∧ ∀ i, i ∈ l → ¬ (nb + i * W ≤ x ∧ x < nb + i * W + W)) f' a' w' → Q .normal a' w' := by
    intro l hl S' ι' a' w' hi
    refine hQ S' ι' a' w' (hi.less (fun x hx => ⟨by omega, fun i him => ?_⟩))
    have := hl i him
    have : (i + 1) * W ≤ ops.size * W := Nat.mul_le_mul_right _ this
    rw [Nat.add_mul] at this
    omega
  cases draw with
  | false =>
    refine wpIn_region ?_
    exact chain_ok h List.nodup_range hinv (fun i _ x h1 _ => by omega) (fun i _ => hdf' i) (hun _ (fun i hi => by simpa using hi))
  | true =>
    refine wpIn_region_draw (fun t => ?_)
    have e : Region.schedule (P.follows .mixedOrders) ops t = Region.linearise .any ops t := by
      unfold Region.schedule; rw [hm]; simp
    rw [e]
    obtain ⟨h1, h2, h3⟩ := linear_ok (hd rfl) h t
    exact chain_ok h1 h2 hinv.drew (fun i _ x h1 _ => by omega) (fun i _ => hdf' i) (hun _ h3)
end
end Go.Ab
