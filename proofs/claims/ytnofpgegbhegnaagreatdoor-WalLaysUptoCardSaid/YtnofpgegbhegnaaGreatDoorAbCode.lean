/-
  AbCode: the evaluator over regions and code; what it says is so in the model; the contract of a function out of it.
-/
import Derived.Test.YtnofpgegbhegnaaGreatDoorAbRun
import Derived.RangeFuncSeq
namespace Go.Ab

def dstL (N : Sl) : List Oper → Bool
  | [] => true
  | o :: r => (match o.dst with | some d => (decide (N.lo ≤ d) && decide (d < N.n)) | none => true) && !isDefer o.op && dstL N r

abbrev Lg := List (List Nat × List Nat)
def logOf (log : Lg) : Log := fun k => log.reverse.getD k ([], [])

/-- the operations of a region; ops: all of them; log: what each has written and read, the last first -/
def xops (P : Program) (G : Gmap) (ops : Array Oper) (nb : Nat) : List Oper → Nat → Tm → Os → Lg → (Tm → Os → Lg → Prop) → Prop
  | [], _, g, os, log, K => K g os log
  | o :: r, i, g, os, log, K =>
    let go : Tm → Prop := fun g => fN (nb + i * W) fun id => xop P G (evA G (lookG g)) (lk os) (os.map (·.1)) id o.type o.op fun v U RO => fO (updL os U) fun os =>
      match o.dst with
      | some d => xops P G ops nb r (i + 1) ((d, v) :: g) os ((U.map (·.1), RO) :: log) K
      | none => xops P G ops nb r (i + 1) g os ((U.map (·.1), RO) :: log) K
    let no : Tm → Prop := fun g =>
      match o.dst with
      | some d => xops P G ops nb r (i + 1) ((d, .tup []) :: g) os (([], []) :: log) K
      | none => xops P G ops nb r (i + 1) g os (([], []) :: log) K
    match o.guard with
    | none => go g
    | some (j, want) => match (ops[j]?).bind (·.dst) with
      | some d => match lookG g d with
        | .bool b => brn b (match want with | true => go ((d, .bool true) :: g) | false => no ((d, .bool true) :: g))
            (match want with | true => no ((d, .bool false) :: g) | false => go ((d, .bool false) :: g))
        | .tup _ => no g
        | _ => False
      | none => False

theorem lookG_again {g : Tm} {d : Nat} {b : Bool} (h : lookG g d = .bool b) : lookG ((d, .bool b) :: g) = lookG g := by
  funext t
  simp only [lookG]
  split
  · rename_i e; subst e; exact h.symm
  · rfl

theorem xops_ok {P : Program} {G : Gmap} {N : Sl} {ops : Array Oper} {nb : Nat} : ∀ (l : List Oper) (i : Nat) (g : Tm) (os : Os) (log : Lg) (K : Tm → Os → Lg → Prop),
    (∀ (k : Nat) o, l[k]? = some o → ops[i + k]? = some o) → dstL N l = true → log.length = i → xops P G ops nb l i g os log K →
    ∃ g' os' ext, K g' os' (ext ++ log) ∧ ext.length = l.length ∧ ∀ L : Log, (∀ k, i ≤ k → k < i + l.length → L k = logOf (ext ++ log) k) →
      RChain P G N ops nb L (List.range' i l.length) (toFS g os) (toFS g' os') := by
  intro l
  induction l with
  | nil =>
    intro i g os log K _ _ _ h
    exact ⟨g, os, [], h, rfl, fun L _ => .nil _⟩
  | cons o r ih =>
    intro i g os log K hl hdst hlog h
    have ho : ops[i]? = some o := by simpa using hl 0 o rfl
    simp only [dstL, Bool.and_eq_true] at hdst
    have hd : ∀ d, o.dst = some d → N.lo ≤ d ∧ d < N.n := by
      intro d e
      have := hdst.1.1
      rw [e] at this
      simpa using this
    have hl' : ∀ (k : Nat) o', r[k]? = some o' → ops[i + 1 + k]? = some o' := by
      intro k o' hk
      have := hl (k + 1) o' (by simpa using hk)
      rw [show i + 1 + k = i + (k + 1) by omega]; exact this
    have hlogL : ∀ (x : List Nat × List Nat) (ext : Lg), logOf (ext ++ x :: log) i = x := by
      intro x ext
      unfold logOf
      rw [List.getD_eq_getElem?_getD]
      simp only [List.reverse_append, List.reverse_cons, List.append_assoc]
      rw [List.getElem?_append_right (by simp; omega)]
      simp [hlog]
    -- carried out
    have go : ∀ g0 : Tm, lookG g0 = lookG g → wantA ops (lookG g) o = some true →
        (fN (nb + i * W) fun id => xop P G (evA G (lookG g0)) (lk os) (os.map (·.1)) id o.type o.op fun v U RO => fO (updL os U) fun os =>
          match o.dst with
          | some d => xops P G ops nb r (i + 1) ((d, v) :: g0) os ((U.map (·.1), RO) :: log) K
          | none => xops P G ops nb r (i + 1) g0 os ((U.map (·.1), RO) :: log) K) →
        ∃ g' os' ext, K g' os' (ext ++ log) ∧ ext.length = (o :: r).length ∧ ∀ L : Log, (∀ k, i ≤ k → k < i + (o :: r).length → L k = logOf (ext ++ log) k) →
          RChain P G N ops nb L (List.range' i (o :: r).length) (toFS g os) (toFS g' os') := by
      intro g0 hg0 hw hx
      rw [fN_eq] at hx
      obtain ⟨v, U, RO, hA, hK⟩ := xop_ok hx
      rw [fO_eq] at hK
      rw [hg0] at hA
      have hK' : xops P G ops nb r (i + 1) (match o.dst with | some d => (d, v) :: g0 | none => g0) (updL os U) ((U.map (·.1), RO) :: log) K := by
        cases hdd : o.dst with
        | none => rw [hdd] at hK; exact hK
        | some d => rw [hdd] at hK; exact hK
      obtain ⟨g', os', ext, h1, h2, h3⟩ := ih (i + 1) _ _ _ K hl' hdst.2 (by simp [hlog]) hK'
      refine ⟨g', os', ext ++ [(U.map (·.1), RO)], by simpa using h1, by simp [h2], fun L hL => ?_⟩
      rw [List.length_cons, List.range'_succ]
      have hL0 := hL i (Nat.le_refl _) (by simp)
      rw [show ext ++ [(U.map (·.1), RO)] ++ log = ext ++ (U.map (·.1), RO) :: log by simp, hlogL] at hL0
      refine .cons i _ _ _ _ (.run o v U RO ho hw hA hd hL0) ?_
      have := h3 L (fun k hk1 hk2 => by
        have := hL k (by omega) (by simp; omega)
        rw [show ext ++ [(U.map (·.1), RO)] ++ log = ext ++ (U.map (·.1), RO) :: log by simp] at this
        exact this)
      have e : (toFS g os).upd o.dst v U = toFS (match o.dst with | some d => (d, v) :: g0 | none => g0) (updL os U) := by
        rw [toFS_upd]
        unfold toFS
        congr 1
        cases o.dst with
        | none => exact hg0.symm
        | some d => funext t; simp only [lookG]; rw [hg0]
      rw [e]; exact this
    have no : ∀ g0 : Tm, lookG g0 = lookG g → wantA ops (lookG g) o = some false →
        (match o.dst with
          | some d => xops P G ops nb r (i + 1) ((d, .tup []) :: g0) os (([], []) :: log) K
          | none => xops P G ops nb r (i + 1) g0 os (([], []) :: log) K) →
        ∃ g' os' ext, K g' os' (ext ++ log) ∧ ext.length = (o :: r).length ∧ ∀ L : Log, (∀ k, i ≤ k → k < i + (o :: r).length → L k = logOf (ext ++ log) k) →
          RChain P G N ops nb L (List.range' i (o :: r).length) (toFS g os) (toFS g' os') := by
      intro g0 hg0 hw hK
      have hK' : xops P G ops nb r (i + 1) (match o.dst with | some d => (d, .tup []) :: g0 | none => g0) os (([], []) :: log) K := by
        cases hdd : o.dst with
        | none => rw [hdd] at hK; exact hK
        | some d => rw [hdd] at hK; exact hK
      obtain ⟨g', os', ext, h1, h2, h3⟩ := ih (i + 1) _ _ _ K hl' hdst.2 (by simp [hlog]) hK'
      refine ⟨g', os', ext ++ [([], [])], by simpa using h1, by simp [h2], fun L hL => ?_⟩
      rw [List.length_cons, List.range'_succ]
      have hL0 := hL i (Nat.le_refl _) (by simp)
      rw [show ext ++ [(([] : List Nat), ([] : List Nat))] ++ log = ext ++ ([], []) :: log by simp, hlogL] at hL0
      refine .cons i _ _ _ _ (.skip o ho hw hd hL0) ?_
      have := h3 L (fun k hk1 hk2 => by
        have := hL k (by omega) (by simp; omega)
        rw [show ext ++ [(([] : List Nat), ([] : List Nat))] ++ log = ext ++ ([], []) :: log by simp] at this
        exact this)
      have e : (toFS g os).upd o.dst (.tup []) [] = toFS (match o.dst with | some d => (d, .tup []) :: g0 | none => g0) os := by
        rw [toFS_upd]
        unfold toFS
        congr 1
        cases o.dst with
        | none => exact hg0.symm
        | some d => funext t; simp only [lookG]; rw [hg0]
      rw [e]; exact this
    simp only [xops] at h
    cases hg : o.guard with
    | none =>
      rw [hg] at h
      exact go g rfl (by unfold wantA; rw [hg]) h
    | some jw =>
      obtain ⟨j, want⟩ := jw
      rw [hg] at h
      simp only at h
      cases hb : (ops[j]?).bind (·.dst) with
      | none => rw [hb] at h; exact h.elim
      | some d =>
        rw [hb] at h
        simp only at h
        split at h
        · rename_i b hgd
          have hwant : wantA ops (lookG g) o = some (b == want) := by unfold wantA; rw [hg]; simp only [hb, hgd]
          rcases brn_e h with ⟨hbb, h'⟩ | ⟨hbb, h'⟩
          · subst hbb
            cases want with
            | true => exact go _ (lookG_again hgd) hwant h'
            | false => exact no _ (lookG_again hgd) hwant h'
          · subst hbb
            cases want with
            | true => exact no _ (lookG_again hgd) hwant h'
            | false => exact go _ (lookG_again hgd) hwant h'
        · rename_i vs hgd
          exact no g rfl (by unfold wantA; rw [hg]; simp only [hb, hgd]) h
        · exact h.elim

inductive Frm where
  | code (c : Code)
  | blk (id : Nat)
  | stop (κ : Tm → Os → Nat → Prop)

def exitF (id : Nat) : List Frm → Option (List Frm)
  | [] => none
  | .blk i :: k => if id = i then some k else exitF id k
  | _ :: k => exitF id k

/-- renaming by a list of pairs; what is not listed stays -/
def ap : List (Nat × Nat) → Nat → Nat
  | [], o => o
  | (k, x) :: r, o => if o = k then x else ap r o

/-- the state (g, os) is the state (gx, osx), its objects under other numbers, and more -/
def Cov (m : Nat) (g : Tm) (os : Os) (σ : List (Nat × Nat)) (gx : Tm) (osx : Os) (nx : Nat) : Prop :=
  (gx.all (fun e => idsB nx e.2) && osx.all (fun e => decide (e.1 < nx) && idsBO nx e.2) && decide ((osx.map fun e => ap σ e.1).Nodup) && decide (m ≤ nx) && (List.range m).all (fun j => ap σ j == j)) = true ∧
  WkL (gx.map fun e => lookG g e.1) (gx.map fun e => renAV (ap σ) e.2) ∧
  WkOs (osx.map fun e => lk os (ap σ e.1)) (osx.map fun e => some (renO (ap σ) e.2))

/-- a loop: a state of its head for each x, and a measure -/
structure Loops (m : Nat) (g : Tm) (os : Os) (body : (Tm → Os → Nat → Prop) → Tm → Os → Nat → Prop) : Prop where
  h : ∃ (α : Type) (gx : α → Tm) (osx : α → Os) (nx : Nat) (I : α → Prop) (μ : α → Nat) (x0 : α) (σ0 : List (Nat × Nat)),
    I x0 ∧ Cov m g os σ0 (gx x0) (osx x0) nx ∧
    ∀ x, I x → body (fun g' os' _ => ∃ x' σ, I x' ∧ μ x' < μ x ∧ Cov m g' os' σ (gx x') (osx x') nx) (gx x) (osx x) nx

theorem loops_i {m : Nat} {g : Tm} {os : Os} {body : (Tm → Os → Nat → Prop) → Tm → Os → Nat → Prop} {α : Type} (gx : α → Tm) (osx : α → Os) (nx : Nat) (I : α → Prop) (μ : α → Nat) (x0 : α) (σ0 : List (Nat × Nat)) (hI : I x0)
    (h2 : (gx x0).map (fun e => renAV (ap σ0) e.2) = (gx x0).map (fun e => lookG g e.1)) (h3 : (osx x0).map (fun e => some (renO (ap σ0) e.2)) = (osx x0).map fun e => lk os (ap σ0 e.1))
    (h1 : ((gx x0).all (fun e => idsB nx e.2) && (osx x0).all (fun e => decide (e.1 < nx) && idsBO nx e.2) && decide (((osx x0).map fun e => ap σ0 e.1).Nodup) && decide (m ≤ nx) && (List.range m).all (fun j => ap σ0 j == j)) = true)
    (hr : ∀ x, I x → body (fun g' os' _ => ∃ x' σ, I x' ∧ μ x' < μ x ∧ Cov m g' os' σ (gx x') (osx x') nx) (gx x) (osx x) nx) : Loops m g os body :=
  ⟨α, gx, osx, nx, I, μ, x0, σ0, hI, ⟨h1, .of_eq h2, .of_eq h3⟩, hr⟩
theorem loops_w {m : Nat} {g : Tm} {os : Os} {body : (Tm → Os → Nat → Prop) → Tm → Os → Nat → Prop} {α : Type} (gx : α → Tm) (osx : α → Os) (nx : Nat) (I : α → Prop) (μ : α → Nat) (x0 : α) (σ0 : List (Nat × Nat)) (hI : I x0)
    (h2 : WkL ((gx x0).map fun e => lookG g e.1) ((gx x0).map fun e => renAV (ap σ0) e.2)) (h3 : WkOs ((osx x0).map fun e => lk os (ap σ0 e.1)) ((osx x0).map fun e => some (renO (ap σ0) e.2)))
    (h1 : ((gx x0).all (fun e => idsB nx e.2) && (osx x0).all (fun e => decide (e.1 < nx) && idsBO nx e.2) && decide (((osx x0).map fun e => ap σ0 e.1).Nodup) && decide (m ≤ nx) && (List.range m).all (fun j => ap σ0 j == j)) = true)
    (hr : ∀ x, I x → body (fun g' os' _ => ∃ x' σ, I x' ∧ μ x' < μ x ∧ Cov m g' os' σ (gx x') (osx x') nx) (gx x) (osx x) nx) : Loops m g os body :=
  ⟨α, gx, osx, nx, I, μ, x0, σ0, hI, ⟨h1, h2, h3⟩, hr⟩

/-- the end of a round -/
theorem round_i {m : Nat} {α : Type} {gx : α → Tm} {osx : α → Os} {nx : Nat} {I : α → Prop} {μ : α → Nat} {x : α} {g' : Tm} {os' : Os} (x' : α) (σ : List (Nat × Nat)) (hI : I x') (hμ : μ x' < μ x)
    (h2 : (gx x').map (fun e => renAV (ap σ) e.2) = (gx x').map (fun e => lookG g' e.1)) (h3 : (osx x').map (fun e => some (renO (ap σ) e.2)) = (osx x').map fun e => lk os' (ap σ e.1))
    (h1 : ((gx x').all (fun e => idsB nx e.2) && (osx x').all (fun e => decide (e.1 < nx) && idsBO nx e.2) && decide (((osx x').map fun e => ap σ e.1).Nodup) && decide (m ≤ nx) && (List.range m).all (fun j => ap σ j == j)) = true) :
    ∃ x' σ, I x' ∧ μ x' < μ x ∧ Cov m g' os' σ (gx x') (osx x') nx := ⟨x', σ, hI, hμ, h1, .of_eq h2, .of_eq h3⟩
theorem round_w {m : Nat} {α : Type} {gx : α → Tm} {osx : α → Os} {nx : Nat} {I : α → Prop} {μ : α → Nat} {x : α} {g' : Tm} {os' : Os} (x' : α) (σ : List (Nat × Nat)) (hI : I x') (hμ : μ x' < μ x)
    (h2 : WkL ((gx x').map fun e => lookG g' e.1) ((gx x').map fun e => renAV (ap σ) e.2)) (h3 : WkOs ((osx x').map fun e => lk os' (ap σ e.1)) ((osx x').map fun e => some (renO (ap σ) e.2)))
    (h1 : ((gx x').all (fun e => idsB nx e.2) && (osx x').all (fun e => decide (e.1 < nx) && idsBO nx e.2) && decide (((osx x').map fun e => ap σ e.1).Nodup) && decide (m ≤ nx) && (List.range m).all (fun j => ap σ j == j)) = true) :
    ∃ x' σ, I x' ∧ μ x' < μ x ∧ Cov m g' os' σ (gx x') (osx x') nx := ⟨x', σ, hI, hμ, h1, h2, h3⟩

def noStop : List Frm → Bool
  | [] => true
  | .stop _ :: _ => false
  | _ :: k => noStop k
/-- the ints that a slice holds -/
def IntsAt (W : World) (v : Value) (zs : List Int) : Prop :=
  ∃ a cap, v = .slice a zs.length cap ∧ ∀ (j : Nat) z, zs[j]? = some z → ∃ ad : Addr, a = some ad ∧ ad.spot = none ∧ W.cell? ⟨ad.block, ad.off + j, none⟩ = some (.int .i64 z)
/-- what the iterator of slices.Backward does -/
def BackOk (P : Program) (f : Nat) : Prop := callB P f = true ∧
  ∀ (l : Nat) (pa : Addr) (zs : List Int) (J : Nat → World → Prop) (W : World), zs.length ≤ LIM → (∀ k W, J k W → ∃ v, W.cell? pa = some v ∧ IntsAt W v zs) →
    (∀ (k : Nat) (z : Int) (W : World), zs.reverse[k]? = some z → J k W → YieldAt Fence.wide 0 P l #[.int .i64 ((zs.length - 1 - k : Nat) : Int), .int .i64 z] W fun e W' => e = .returned (.bool true) ∧ J (k + 1) W') →
    J 0 W → CallsIn Fence.wide 0 P f #[.func (.yield l) #[] #[], .pointer (some pa)] W fun e W' => (∃ v, e = .returned v) ∧ J zs.length W'
def setps (g : Tm) (p q : Nat) (i z : Int) : Tm := (q, .int .i64 z) :: (p, .int .i64 i) :: g
/-- a range over slices.Backward: a state of its head for each x; k rounds are over; the temporaries from lo on are the rounds' own -/
structure Ranges (P : Program) (N : Sl) (m : Nat) (g : Tm) (os : Os) (nx : Nat) (gv : AV) (ps : List Tmp) (X : Nat → Bool → (Tm → Os → Nat → Prop) → Tm → Os → Nat → Prop) (K : Tm → Os → Nat → Prop) : Prop where
  h : ∃ (fB : Nat) (zs : List Int) (p q lo : Nat) (α : Type) (gx : Tm) (osx : α → Os) (nx' : Nat) (I : Nat → α → Prop) (x0 : α) (σ0 : List (Nat × Nat)),
    BackOk P fB ∧ gv = .fn fB [.rp [.sl (zs.map fun z => [.int .i64 z])] 0] ∧ ps = [p, q] ∧
    (decide (lo ≤ p) && decide (p < N.n) && decide (lo ≤ q) && decide (q < N.n) && decide (p ≠ q) && gx.all (fun e => decide (e.1 < lo))) = true ∧
    I 0 x0 ∧ Cov m g os σ0 gx (osx x0) nx' ∧
    (∀ (k : Nat) (z : Int) x, zs.reverse[k]? = some z → I k x → X lo false (fun g1 os1 nx1 => X lo true (fun g2 os2 _ => ∃ x' σ, I (k + 1) x' ∧ Cov m g2 os2 σ gx (osx x') nx') g1 os1 nx1)
      (setps gx p q ((zs.length - 1 - k : Nat) : Int) z) (osx x) nx') ∧
    (∀ x, I zs.length x → K gx (osx x) nx')
theorem ranges_i {P : Program} {N : Sl} {m : Nat} {g : Tm} {os : Os} {nx : Nat} {gv : AV} {ps : List Tmp} {X : Nat → Bool → (Tm → Os → Nat → Prop) → Tm → Os → Nat → Prop} {K : Tm → Os → Nat → Prop}
    (fB : Nat) (zs : List Int) (p q lo : Nat) {α : Type} (gx : Tm) (osx : α → Os) (nx' : Nat) (I : Nat → α → Prop) (x0 : α) (σ0 : List (Nat × Nat))
    (hB : BackOk P fB) (hgv : gv = .fn fB [.rp [.sl (zs.map fun z => [.int .i64 z])] 0]) (hps : ps = [p, q])
    (hd : (decide (lo ≤ p) && decide (p < N.n) && decide (lo ≤ q) && decide (q < N.n) && decide (p ≠ q) && gx.all (fun e => decide (e.1 < lo))) = true) (hI : I 0 x0)
    (h2 : WkL (gx.map fun e => lookG g e.1) (gx.map fun e => renAV (ap σ0) e.2)) (h3 : WkOs ((osx x0).map fun e => lk os (ap σ0 e.1)) ((osx x0).map fun e => some (renO (ap σ0) e.2)))
    (h1 : (gx.all (fun e => idsB nx' e.2) && (osx x0).all (fun e => decide (e.1 < nx') && idsBO nx' e.2) && decide (((osx x0).map fun e => ap σ0 e.1).Nodup) && decide (m ≤ nx') && (List.range m).all (fun j => ap σ0 j == j)) = true)
    (hr : ∀ (k : Nat) (z : Int) x, zs.reverse[k]? = some z → I k x → X lo false (fun g1 os1 nx1 => X lo true (fun g2 os2 _ => ∃ x' σ, I (k + 1) x' ∧ Cov m g2 os2 σ gx (osx x') nx') g1 os1 nx1)
      (setps gx p q ((zs.length - 1 - k : Nat) : Int) z) (osx x) nx')
    (hK : ∀ x, I zs.length x → K gx (osx x) nx') : Ranges P N m g os nx gv ps X K :=
  ⟨fB, zs, p, q, lo, α, gx, osx, nx', I, x0, σ0, hB, hgv, hps, hd, hI, ⟨h1, h2, h3⟩, hr, hK⟩
/-- the end of such a round -/
theorem rround_i {m : Nat} {α : Type} {gx : Tm} {osx : α → Os} {nx k : Nat} {I : Nat → α → Prop} {g' : Tm} {os' : Os} (x' : α) (σ : List (Nat × Nat)) (hI : I (k + 1) x')
    (h2 : WkL (gx.map fun e => lookG g' e.1) (gx.map fun e => renAV (ap σ) e.2)) (h3 : WkOs ((osx x').map fun e => lk os' (ap σ e.1)) ((osx x').map fun e => some (renO (ap σ) e.2)))
    (h1 : (gx.all (fun e => idsB nx e.2) && (osx x').all (fun e => decide (e.1 < nx) && idsBO nx e.2) && decide (((osx x').map fun e => ap σ e.1).Nodup) && decide (m ≤ nx) && (List.range m).all (fun j => ap σ j == j)) = true) :
    ∃ x' σ, I (k + 1) x' ∧ Cov m g' os' σ gx (osx x') nx := ⟨x', σ, hI, h1, h2, h3⟩

/-- a statement after which all ways stand in one state; R: does any way come there? -/
structure Joins (m : Nat) (body : (Tm → Os → Nat → Prop) → Prop) (K : Tm → Os → Nat → Prop) : Prop where
  h : ∃ (R : Prop) (gx : Tm) (osx : Os) (nx : Nat), body (fun g' os' _ => R ∧ ∃ σ, Cov m g' os' σ gx osx nx) ∧ (R → K gx osx nx)
theorem joins_i {m : Nat} {body : (Tm → Os → Nat → Prop) → Prop} {K : Tm → Os → Nat → Prop} (R : Prop) (gx : Tm) (osx : Os) (nx : Nat)
    (hb : body (fun g' os' _ => R ∧ ∃ σ, Cov m g' os' σ gx osx nx)) (hk : R → K gx osx nx) : Joins m body K := ⟨R, gx, osx, nx, hb, hk⟩
/-- an end of a joined statement -/
theorem end_i {m : Nat} {R : Prop} {gx : Tm} {osx : Os} {nx : Nat} {g' : Tm} {os' : Os} (hR : R) (σ : List (Nat × Nat))
    (h2 : gx.map (fun e => renAV (ap σ) e.2) = gx.map (fun e => lookG g' e.1)) (h3 : osx.map (fun e => some (renO (ap σ) e.2)) = osx.map fun e => lk os' (ap σ e.1))
    (h1 : (gx.all (fun e => idsB nx e.2) && osx.all (fun e => decide (e.1 < nx) && idsBO nx e.2) && decide ((osx.map fun e => ap σ e.1).Nodup) && decide (m ≤ nx) && (List.range m).all (fun j => ap σ j == j)) = true) :
    R ∧ ∃ σ, Cov m g' os' σ gx osx nx := ⟨hR, σ, h1, .of_eq h2, .of_eq h3⟩
theorem end_w {m : Nat} {R : Prop} {gx : Tm} {osx : Os} {nx : Nat} {g' : Tm} {os' : Os} (hR : R) (σ : List (Nat × Nat))
    (h2 : WkL (gx.map fun e => lookG g' e.1) (gx.map fun e => renAV (ap σ) e.2)) (h3 : WkOs (osx.map fun e => lk os' (ap σ e.1)) (osx.map fun e => some (renO (ap σ) e.2)))
    (h1 : (gx.all (fun e => idsB nx e.2) && osx.all (fun e => decide (e.1 < nx) && idsBO nx e.2) && decide ((osx.map fun e => ap σ e.1).Nodup) && decide (m ≤ nx) && (List.range m).all (fun j => ap σ j == j)) = true) :
    R ∧ ∃ σ, Cov m g' os' σ gx osx nx := ⟨hR, σ, h1, h2, h3⟩
/-- a place in an array, not known beforehand -/
def arrOp (P : Program) : Op → Bool
  | .indexAddr t _ (.tmp _) => match P.underlying t with | some (.array ..) => true | _ => false
  | .index t _ (.tmp _) => match P.underlying t with | some (.array ..) => true | _ => false
  | _ => false
/-- may it be joined? -/
def joinable (P : Program) : Code → Bool
  | .cond .. => true
  | .block .. => true
  | .region _ ops _ => ops.toList.any fun o => o.guard.isSome || arrOp P o.op
  | _ => false
/-- joined, or not -/
def orJ (j : Bool) (A B : Prop) : Prop := Bool.rec (motive := fun _ => Prop) A (A ∨ B) j
theorem orJ_e {j : Bool} {A B : Prop} (h : orJ j A B) : A ∨ B := by
  cases j
  · exact .inl h
  · exact h

/-- THE EVALUATOR -/
def xcode (P : Program) (G : Gmap) : Sl → Nat → (Tm → Os → Prop) → Nat → List Frm → Tm → Os → Nat → Prop
  | _, _, _, 0, _, _, _, _ => False
  | _, _, fin, _ + 1, [], g, os, _ => fin g os
  | N, m, fin, n + 1, .blk _ :: k, g, os, nx => xcode P G N m fin n k g os nx
  | _, _, _, _ + 1, .stop κ :: _, g, os, nx => κ g os nx
  | N, m, fin, n + 1, .code c :: k, g, os, nx =>
    orJ (joinable P c) (match c with
    | .skip => xcode P G N m fin n k g os nx
    | .seq a b => xcode P G N m fin n (.code a :: .code b :: k) g os nx
    | .region _ ops draw => brn (dstL N ops.toList) (xops P G ops nx ops.toList 0 g os [] fun g os log =>
        match draw with
        | false => fN (nx + ops.size * W) fun nx => xcode P G N m fin n k g os nx
        | true => okRegion ops (logOf log) = true ∧ fN (nx + ops.size * W) fun nx => xcode P G N m fin n k g os nx) False
    | .cond c x y => match evA G (lookG g) c with
      | .bool b => brn b (xcode P G N m fin n (.code x :: k) g os nx) (xcode P G N m fin n (.code y :: k) g os nx)
      | .anyb p => (p → xcode P G N m fin n (.code x :: k) g os nx) ∧ xcode P G N m fin n (.code y :: k) g os nx
      | _ => False
    | .block id c => xcode P G N m fin n (.code c :: .blk id :: k) g os nx
    | .exit id => match exitF id k with
      | some k' => xcode P G N m fin n k' g os nx
      | none => False
    | .ret => fin g os
    | .rangeFunc gop ps assign body => (!N.no && noStop k) = true ∧ Ranges P N m g os nx (evA G (lookG g) gop) ps.toList
        (fun lo b κ g os nx => xcode P G ⟨lo, N.n, true⟩ m (fun _ _ => False) n [.code (bif b then body else assign), .stop κ] g os nx)
        (fun g os nx => xcode P G { N with no := true } m fin n k g os nx)
    | .loop body => Loops m g os fun κ => xcode P G N m fin n (.code body :: .stop κ :: k)
    | _ => False) (Joins m (fun κ => xcode P G N m fin n (.code c :: .stop κ :: k) g os nx) (xcode P G N m fin n k))

/-- what a list of frames asks of the model -/
def KQ (P : Program) (C : Cx) (r : Option Nat) (B : Exit → Act → World → Prop) : List Frm → Exit → Act → World → Prop
  | [] => B
  | .code c :: k => Exit.then (c.wpIn (WF r) 0 P (KQ P C r B k)) (KQ P C r B k)
  | .blk id :: k => Exit.inBlock id (KQ P C r B k)
  | .stop κ :: k => Exit.then (fun a w => ∃ g os nx S ι, κ g os nx ∧ Inv C S ι (fun x => nx ≤ x) (toFS g os) a w) (KQ P C r B k)

theorem KQ_exit {P : Program} {C : Cx} {r : Option Nat} {B : Exit → Act → World → Prop} {id : Nat} : ∀ {k k' : List Frm}, exitF id k = some k' → ∀ {a : Act} {w : World}, KQ P C r B k' .normal a w → KQ P C r B k (.exit id) a w := by
  intro k
  induction k with
  | nil => intro k' h; simp [exitF] at h
  | cons f k ih =>
    intro k' h a w hq
    cases f with
    | code c => exact ih (by simpa [exitF] using h) hq
    | stop κ => exact ih (by simpa [exitF] using h) hq
    | blk i =>
      simp only [exitF] at h
      simp only [KQ, Exit.inBlock]
      split at h
      · rename_i e; subst e
        injection h with h; subst h
        rw [if_pos rfl]; exact hq
      · rename_i e
        rw [if_neg e]
        exact ih h hq

theorem KQ_ret {P : Program} {C : Cx} {r : Option Nat} {B : Exit → Act → World → Prop} : ∀ {k : List Frm} {a : Act} {w : World}, B .ret a w → KQ P C r B k .ret a w := by
  intro k
  induction k with
  | nil => intro a w h; exact h
  | cons f k ih => intro a w h; cases f <;> exact ih h

/-- a loop by a family of invariants, each round to a lesser one -/
theorem wp_loop_lt {r : Option Nat} {P : Program} {Q : Exit → Act → World → Prop} {c : Code} (I : Nat → Act → World → Prop)
    (round : ∀ n a w, I n a w → c.wpIn (WF r) 0 P (Exit.then (fun a' w' => ∃ m, m < n ∧ I m a' w') Q) a w) : ∀ n a w, I n a w → (Code.loop c).wpIn (WF r) 0 P Q a w := by
  intro n a w hI
  have key : ∀ n a w, I n a w → ∀ (b : Frame) (k : List Item) (cs : List Frame), b.roundOf = r →
      ∃ e a' w', Q e a' w' ∧ ArrivesIn (Machine.fenced P (WF r)) P (lone (b.atR a (.code c :: .inLoop c :: k)) cs w) b k cs e a' w' := by
    intro n
    induction n using Nat.strongRecOn with
    | _ n ih =>
      intro a w hI b k cs hro
      obtain ⟨e, a₁, w₁, hq, harr⟩ := round n a w hI b (.inLoop c :: k) cs hro trivial (roomW _ _)
      cases e with
      | normal =>
        obtain ⟨m, hlt, hI₁⟩ := hq
        obtain ⟨e₂, a₂, w₂, hq₂, harr₂⟩ := ih m hlt a₁ w₁ hI₁ b k cs hro
        exact ⟨e₂, a₂, w₂, hq₂, .of_steps (StepsIn.trans harr (.one (fenced_wide P _) stepR_inLoop)) harr₂⟩
      | exit id => exact ⟨_, a₁, w₁, hq, .pass (x := .inLoop c) rfl (fun _ _ => .inl (by simp)) harr⟩
      | goto l => exact ⟨_, a₁, w₁, hq, .pass (x := .inLoop c) rfl (fun _ _ => .inl (by simp)) harr⟩
      | ret => exact ⟨_, a₁, w₁, hq, .pass (x := .inLoop c) rfl (fun _ _ => .inl (by simp)) harr⟩
      | panic ch => exact ⟨_, a₁, w₁, hq, .pass (x := .inLoop c) rfl (fun _ _ => .inl (by simp)) harr⟩
      | outgrown => exact ⟨_, a₁, w₁, hq, .pass (x := .inLoop c) rfl (fun _ _ => .inl (by simp)) harr⟩
  intro b k cs hro _ _
  obtain ⟨e, a', w', hq, harr⟩ := key n a w hI b k cs hro
  exact ⟨e, a', w', hq, .of_steps (.one (fenced_wide P _) stepR_loop) harr⟩

theorem Exit.then_mono {r : Option Nat} {P : Program} {c : Code} {N1 N2 : Act → World → Prop} {Q : Exit → Act → World → Prop} {a : Act} {w : World}
    (h : c.wpIn (WF r) 0 P (Exit.then N1 Q) a w) (hn : ∀ a w, N1 a w → N2 a w) : c.wpIn (WF r) 0 P (Exit.then N2 Q) a w :=
  wpIn_mono h (fun e a w hq => by cases e <;> first | exact hn a w hq | exact hq)

theorem dst_nodefer {N : Sl} : ∀ {l : List Oper}, dstL N l = true → ∀ o, o ∈ l → isDefer o.op = false := by
  intro l
  induction l with
  | nil => intro _ o h; cases h
  | cons x r ih =>
    intro h o ho
    simp only [dstL, Bool.and_eq_true] at h
    rcases List.mem_cons.1 ho with rfl | ho
    · simpa using h.1.2
    · exact ih h.2 o ho
end Go.Ab
