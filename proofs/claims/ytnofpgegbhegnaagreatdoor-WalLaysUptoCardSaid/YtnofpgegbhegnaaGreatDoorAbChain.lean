/-
  AbChain: the operations of a region one behind the other, in any order that its edges allow.
-/
import Derived.Test.YtnofpgegbhegnaaGreatDoorAbLocal
namespace Go.Ab

/-- is an operation carried out? -/
def wantA (ops : Array Oper) (g : Nat → AV) (o : Oper) : Option Bool :=
  match o.guard with
  | none => some true
  | some (j, want) => match (ops[j]?).bind (·.dst) with
    | some d => match g d with
      | .bool b => some (b == want)
      | .tup _ => some false
      | _ => none
    | none => none

/-- the temporaries that a step names -/
def stepTmps (ops : Array Oper) (o : Oper) : List Nat :=
  o.dst.toList ++ (opTmps o.op ++ (match o.guard with | none => [] | some (j, _) => ((ops[j]?).bind (·.dst)).toList))

/-- the objects that a step of a region writes, and reads -/
abbrev Log := Nat → List Nat × List Nat

inductive RStep (P : Program) (G : Gmap) (N : Sl) (ops : Array Oper) (nb : Nat) (L : Log) (f : FS) (i : Nat) : FS → Prop
  | run (o : Oper) (v : AV) (U : List (Nat × Option AO)) (RO : List Nat) (ho : ops[i]? = some o) (hw : wantA ops f.g o = some true)
      (h : AStep P G (evA G f.g) f.os (nb + i * W) o.op v U RO) (hd : ∀ d, o.dst = some d → N.lo ≤ d ∧ d < N.n) (hL : L i = (U.map (·.1), RO)) : RStep P G N ops nb L f i (f.upd o.dst v U)
  | skip (o : Oper) (ho : ops[i]? = some o) (hw : wantA ops f.g o = some false) (hd : ∀ d, o.dst = some d → N.lo ≤ d ∧ d < N.n) (hL : L i = ([], [])) : RStep P G N ops nb L f i (f.upd o.dst (.tup []) [])

inductive RChain (P : Program) (G : Gmap) (N : Sl) (ops : Array Oper) (nb : Nat) (L : Log) : List Nat → FS → FS → Prop
  | nil (f : FS) : RChain P G N ops nb L [] f f
  | cons (i : Nat) (l : List Nat) (f f1 f2 : FS) (h : RStep P G N ops nb L f i f1) (hr : RChain P G N ops nb L l f1 f2) : RChain P G N ops nb L (i :: l) f f2

def disj (a b : List Nat) : Bool := a.all fun x => !b.contains x

/-- two steps that may change places -/
def okPair (ops : Array Oper) (L : Log) (i j : Nat) : Bool :=
  match ops[i]?, ops[j]? with
  | some a, some b =>
    disj a.dst.toList (stepTmps ops b) && disj b.dst.toList (stepTmps ops a) &&
    disj (L i).1 (L j).1 && disj (L i).1 (L j).2 && disj (L j).1 (L i).2
  | _, _ => false

theorem disj_not {a b : List Nat} (h : disj a b = true) {x : Nat} (hx : x ∈ a) : x ∉ b := by
  have := List.all_eq_true.1 h x hx
  simpa using this

theorem updO_out {os : Nat → Option AO} : ∀ {U : List (Nat × Option AO)} {o : Nat}, o ∉ U.map (·.1) → updO os U o = os o := by
  intro U
  induction U with
  | nil => intro o _; rfl
  | cons e r ih =>
    intro o h
    simp only [List.map_cons, List.mem_cons, not_or] at h
    simp only [updO, h.1, if_false]
    exact ih h.2

theorem updO_comm {os : Nat → Option AO} {U U' : List (Nat × Option AO)} (h : ∀ x, x ∈ U.map (·.1) → x ∉ U'.map (·.1)) : updO (updO os U) U' = updO (updO os U') U := by
  funext o
  by_cases h1 : o ∈ U'.map (·.1)
  · have h2 : o ∉ U.map (·.1) := fun q => h o q h1
    rw [updO_out h2 (os := updO os U')]
    -- both are decided by U'
    have : ∀ (os1 os2 : Nat → Option AO) (V : List (Nat × Option AO)), o ∈ V.map (·.1) → updO os1 V o = updO os2 V o := by
      intro os1 os2 V
      induction V with
      | nil => intro h; simp at h
      | cons e r ih =>
        intro h
        simp only [updO]
        by_cases hk : o = e.1
        · simp [hk]
        · simp only [hk, if_false]
          refine ih ?_
          simpa [hk] using h
    exact this _ _ U' h1
  · rw [updO_out h1]
    by_cases h2 : o ∈ U.map (·.1)
    · have : ∀ (os1 os2 : Nat → Option AO) (V : List (Nat × Option AO)), o ∈ V.map (·.1) → updO os1 V o = updO os2 V o := by
        intro os1 os2 V
        induction V with
        | nil => intro h; simp at h
        | cons e r ih =>
          intro h
          simp only [updO]
          by_cases hk : o = e.1
          · simp [hk]
          · simp only [hk, if_false]
            refine ih ?_
            simpa [hk] using h
      exact this _ _ U h2
    · rw [updO_out h2, updO_out h2, updO_out h1]

theorem FS.upd_comm {f : FS} {d d' : Option Nat} {v v' : AV} {U U' : List (Nat × Option AO)} (hd : ∀ x, x ∈ d.toList → x ∉ d'.toList)
    (hU : ∀ x, x ∈ U.map (·.1) → x ∉ U'.map (·.1)) : (f.upd d v U).upd d' v' U' = (f.upd d' v' U').upd d v U := by
  have e1 : ∀ (f : FS) d v U, (f.upd d v U).os = updO f.os U := fun _ _ _ _ => rfl
  have e2 : ∀ (f : FS) d v U, (f.upd d v U).g = (f.put d v).g := fun _ _ _ _ => rfl
  have e3 : ∀ (f : FS) d v, (f.put d v).g = match d with | some k => fun t => if t = k then v else f.g t | none => f.g := by intro f d v; cases d <;> rfl
  have hg : ((f.upd d v U).upd d' v' U').g = ((f.upd d' v' U').upd d v U).g := by
    rw [e2, e2, e3, e3]
    cases d with
    | none => cases d' <;> simp [e2, e3]
    | some k => cases d' with
      | none => simp [e2, e3]
      | some k' =>
        have hne : k ≠ k' := by intro e; exact hd k (by simp) (by simp [e])
        simp only [e2, e3]
        funext t
        by_cases h1 : t = k
        · subst h1; simp [hne]
        · simp [h1]
  have ho : ((f.upd d v U).upd d' v' U').os = ((f.upd d' v' U').upd d v U).os := by
    rw [e1, e1, e1, e1]; exact updO_comm hU
  cases hA : (f.upd d v U).upd d' v' U' with
  | mk g os => cases hB : (f.upd d' v' U').upd d v U with
    | mk g' os' => rw [hA, hB] at hg ho; simp only at hg ho; rw [hg, ho]

section
variable {P : Program} {G : Gmap} {N : Sl} {ops : Array Oper} {nb : Nat} {L : Log}

theorem upd_g (f : FS) (d : Option Nat) (v : AV) (U : List (Nat × Option AO)) (t : Nat) (h : t ∉ d.toList) : (f.upd d v U).g t = f.g t := by
  cases d with
  | none => rfl
  | some k =>
    show (if t = k then v else f.g t) = f.g t
    rw [if_neg (by intro e; exact h (by simp [e]))]
theorem upd_os (f : FS) (d : Option Nat) (v : AV) (U : List (Nat × Option AO)) : (f.upd d v U).os = updO f.os U := rfl

/-- a step, and what it does to any state that agrees on what it names -/
theorem RStep.move {f f1 : FS} {i : Nat} (h : RStep P G N ops nb L f i f1) : ∃ (o : Oper) (v : AV) (U : List (Nat × Option AO)), ops[i]? = some o ∧ f1 = f.upd o.dst v U ∧
    U.map (·.1) = (L i).1 ∧
    ∀ f' : FS, (∀ t, t ∈ stepTmps ops o → f'.g t = f.g t) → (∀ k, k ∈ (L i).1 ∨ k ∈ (L i).2 → f'.os k = f.os k) → RStep P G N ops nb L f' i (f'.upd o.dst v U) := by
  have hwant : ∀ (o : Oper) (f' : FS), (∀ t, t ∈ stepTmps ops o → f'.g t = f.g t) → wantA ops f'.g o = wantA ops f.g o := by
    intro o f' ht
    unfold wantA
    cases hg : o.guard with
    | none => rfl
    | some jw =>
      obtain ⟨j, want⟩ := jw
      simp only
      cases hb : (ops[j]?).bind (·.dst) with
      | none => rfl
      | some d =>
        simp only
        rw [ht d (by unfold stepTmps; rw [hg]; simp [hb])]
  cases h with
  | run o v U RO ho hw hA hd hL =>
    refine ⟨o, v, U, ho, rfl, by rw [hL], fun f' ht hk => ?_⟩
    refine .run o v U RO ho (by rw [hwant o f' ht]; exact hw) (hA.local (fun x hx => ?_) (fun k hk' => ?_)) hd hL
    · cases x with
      | tmp t =>
        show f'.g t = f.g t
        refine ht t ?_
        unfold stepTmps opTmps
        simp only [List.mem_append, List.mem_filterMap]
        exact .inr (.inl ⟨.tmp t, hx, rfl⟩)
      | _ => rfl
    · exact hk k (by rw [hL]; exact hk'.symm)
  | skip o ho hw hd hL =>
    refine ⟨o, .tup [], [], ho, rfl, by rw [hL]; rfl, fun f' ht hk => ?_⟩
    exact .skip o ho (by rw [hwant o f' ht]; exact hw) hd hL

theorem RStep.swap {f f1 f2 : FS} {i j : Nat} (h1 : RStep P G N ops nb L f i f1) (h2 : RStep P G N ops nb L f1 j f2) (hok : okPair ops L i j = true) :
    ∃ f1', RStep P G N ops nb L f j f1' ∧ RStep P G N ops nb L f1' i f2 := by
  obtain ⟨o, v, U, ho, rfl, hU, hmove⟩ := h1.move
  obtain ⟨o', v', U', ho', rfl, hU', hmove'⟩ := h2.move
  unfold okPair at hok
  rw [ho, ho'] at hok
  simp only [Bool.and_eq_true] at hok
  obtain ⟨⟨⟨⟨k1, k2⟩, k3⟩, k4⟩, k5⟩ := hok
  refine ⟨f.upd o'.dst v' U', hmove' f (fun t ht => ?_) (fun k hk => ?_), ?_⟩
  · rw [upd_g]; intro hq; exact disj_not k1 hq ht
  · rw [upd_os, updO_out]; rw [hU]; intro hq
    rcases hk with hk | hk
    · exact disj_not k3 hq hk
    · exact disj_not k4 hq hk
  · have := hmove (f.upd o'.dst v' U') (fun t ht => ?_) (fun k hk => ?_)
    · rw [FS.upd_comm] at this
      · exact this
      · intro x hx hx'
        exact disj_not k2 hx (by unfold stepTmps; simp only [List.mem_append]; exact .inl hx')
      · intro x hx hx'
        rw [hU'] at hx; rw [hU] at hx'
        exact disj_not k3 hx' hx
    · rw [upd_g]; intro hq; exact disj_not k2 hq ht
    · rw [upd_os, updO_out]; rw [hU']; intro hq
      rcases hk with hk | hk
      · exact disj_not k3 hk hq
      · exact disj_not k5 hq hk

/-- a step that may change places with all ahead of it comes first -/
theorem RChain.front {i : Nat} : ∀ {a : List Nat} {b : List Nat} {f f2 : FS}, RChain P G N ops nb L (a ++ i :: b) f f2 → (∀ j, j ∈ a → okPair ops L j i = true) →
    RChain P G N ops nb L (i :: (a ++ b)) f f2 := by
  intro a
  induction a with
  | nil => intro b f f2 h _; exact h
  | cons j r ih =>
    intro b f f2 h hok
    cases h with
    | cons _ _ _ f1 _ hj hr =>
      have := ih hr (fun k hk => hok k (by simp [hk]))
      cases this with
      | cons _ _ _ f3 _ hi hr' =>
        obtain ⟨f1', h1, h2⟩ := hj.swap hi (hok j (by simp))
        exact .cons i _ f f1' f2 h1 (.cons j _ f1' f3 f2 h2 hr')

/-- what comes ahead, through the edges: bits -/
def maskOf (prev : List Nat) (o : Oper) : Nat :=
  o.after.toList.foldl (fun s e => if Region.binds .any e then s ||| (2 ^ e.on ||| prev.getD e.on 0) else s) 0
def masks : List Oper → List Nat → List Nat
  | [], acc => acc
  | o :: r, acc => masks r (acc ++ [maskOf acc o])

/-- all that may change places can -/
def okRegion (ops : Array Oper) (L : Log) : Bool :=
  let m := masks ops.toList []
  (ops.toList.zipIdx.all fun (o, i) => o.after.toList.all fun e => !Region.binds .any e || decide (e.on < i)) &&
  (List.range ops.size).all fun i => (List.range i).all fun j => (m.getD i 0).testBit j || okPair ops L j i

theorem foldl_mask {prev : List Nat} {j : Nat} : ∀ (l : List Edge) (s : Nat), (l.foldl (fun s e => if Region.binds .any e then s ||| (2 ^ e.on ||| prev.getD e.on 0) else s) s).testBit j = true →
    s.testBit j = true ∨ ∃ e, e ∈ l ∧ Region.binds .any e = true ∧ (e.on = j ∨ (prev.getD e.on 0).testBit j = true) := by
  intro l
  induction l with
  | nil => intro s h; exact .inl h
  | cons e r ih =>
    intro s h
    simp only [List.foldl_cons] at h
    rcases ih _ h with h | ⟨e', he, h1, h2⟩
    · by_cases hb : Region.binds .any e = true
      · rw [if_pos hb, Nat.testBit_or, Nat.testBit_or] at h
        simp only [Bool.or_eq_true] at h
        rcases h with h | h | h
        · exact .inl h
        · right
          refine ⟨e, by simp, hb, .inl ?_⟩
          rw [Nat.testBit_two_pow] at h
          simpa using h
        · exact .inr ⟨e, by simp, hb, .inr h⟩
      · rw [if_neg hb] at h; exact .inl h
    · exact .inr ⟨e', by simp [he], h1, h2⟩

theorem masks_get : ∀ (l : List Oper) (acc : List Nat) (i : Nat), (∀ k, k < acc.length → (masks l acc)[k]? = acc[k]?) ∧
    (∀ o, l[i]? = some o → ∃ prev, (masks l acc).getD (acc.length + i) 0 = maskOf prev o ∧ ∀ k, k < acc.length + i → prev[k]? = (masks l acc)[k]?) := by
  intro l
  induction l with
  | nil => intro acc i; exact ⟨fun k _ => rfl, fun o h => by simp at h⟩
  | cons o r ih =>
    intro acc i
    simp only [masks]
    have h1 := (ih (acc ++ [maskOf acc o]) 0).1
    have hkeep : ∀ k, k < acc.length → (masks r (acc ++ [maskOf acc o]))[k]? = acc[k]? := by
      intro k hk
      rw [h1 k (by simp; omega), List.getElem?_append_left hk]
    refine ⟨hkeep, fun o' ho' => ?_⟩
    cases i with
    | zero =>
      simp only [List.getElem?_cons_zero, Option.some.injEq] at ho'
      subst ho'
      refine ⟨acc, ?_, fun k hk => (hkeep k (by omega)).symm⟩
      rw [List.getD_eq_getElem?_getD, Nat.add_zero, h1 acc.length (by simp)]
      simp
    | succ i =>
      obtain ⟨prev, hp, hk⟩ := (ih (acc ++ [maskOf acc o]) i).2 o' (by simpa using ho')
      simp only [List.length_append, List.length_singleton] at hp hk
      exact ⟨prev, by rw [show acc.length + (i + 1) = acc.length + 1 + i by omega]; exact hp, fun k hk' => hk k (by omega)⟩

/-- whoever is ready has all that comes ahead behind it -/
theorem ready_mask {listed : Nat → Bool} (hcl : ∀ (i : Nat) o, ops[i]? = some o → listed i = true → ∀ e, e ∈ o.after.toList → Region.binds .any e = true → listed e.on = true)
    (hlt : ∀ (i : Nat) o, ops[i]? = some o → ∀ e, e ∈ o.after.toList → Region.binds .any e = true → e.on < i) :
    ∀ (n i : Nat) o, i ≤ n → ops[i]? = some o → (∀ e, e ∈ o.after.toList → Region.binds .any e = true → listed e.on = true) →
      ∀ j, ((masks ops.toList []).getD i 0).testBit j = true → listed j = true := by
  intro n
  induction n with
  | zero =>
    intro i o hi ho hr j hj
    obtain ⟨prev, hp, hk⟩ := (masks_get ops.toList [] i).2 o (by simpa using ho)
    simp only [List.length_nil, Nat.zero_add] at hp hk
    rw [hp] at hj
    rcases foldl_mask _ _ hj with h | ⟨e, he, hb, h⟩
    · simp at h
    · have := hlt i o ho e he hb; omega
  | succ n ih =>
    intro i o hi ho hr j hj
    obtain ⟨prev, hp, hk⟩ := (masks_get ops.toList [] i).2 o (by simpa using ho)
    simp only [List.length_nil, Nat.zero_add] at hp hk
    rw [hp] at hj
    rcases foldl_mask _ _ hj with h | ⟨e, he, hb, h⟩
    · simp at h
    · have hlist := hr e he hb
      rcases h with h | h
      · rw [← h]; exact hlist
      · have hei := hlt i o ho e he hb
        have : (masks ops.toList []).getD e.on 0 = prev.getD e.on 0 := by
          rw [List.getD_eq_getElem?_getD, List.getD_eq_getElem?_getD, hk e.on hei]
        rw [← this] at h
        have hesz : e.on < ops.size := by
          have : i < ops.size := by
            rcases Nat.lt_or_ge i ops.size with q | q
            · exact q
            · rw [Array.getElem?_eq_none q] at ho; cases ho
          omega
        exact ih e.on ops[e.on] (by omega) (Array.getElem?_eq_getElem hesz) (hcl e.on _ (Array.getElem?_eq_getElem hesz) hlist) j h

theorem filter_split {p : Nat → Bool} {i : Nat} : ∀ (l : List Nat), l.Pairwise (· < ·) → i ∈ l → p i = true →
    ∃ a b, l.filter p = a ++ i :: b ∧ (∀ j, j ∈ a → j < i ∧ p j = true) ∧ l.filter (fun k => p k && decide (k ≠ i)) = a ++ b := by
  intro l
  induction l with
  | nil => intro _ h; cases h
  | cons x r ih =>
    intro hp hi hpi
    have hpr := (List.pairwise_cons.1 hp)
    cases hi with
    | head =>
      refine ⟨[], r.filter p, by simp [hpi], by simp, ?_⟩
      rw [List.filter_cons, if_neg (by simp), List.nil_append]
      apply List.filter_congr
      intro k hk
      have := hpr.1 k hk
      simp; intro _; omega
    | tail _ hi =>
      obtain ⟨a, b, h1, h2, h3⟩ := ih hpr.2 hi hpi
      have hxi := hpr.1 i hi
      have hne : x ≠ i := by omega
      by_cases hx : p x = true
      · refine ⟨x :: a, b, by rw [List.filter_cons, if_pos hx, h1]; rfl, ?_, ?_⟩
        · intro j hj
          cases hj with
          | head => exact ⟨hxi, hx⟩
          | tail _ hj => exact h2 j hj
        · rw [List.filter_cons, if_pos (by simp [hx, hne]), h3]; rfl
      · refine ⟨a, b, by rw [List.filter_cons, if_neg hx, h1], h2, ?_⟩
        rw [List.filter_cons, if_neg (by simp [hx]), h3]

theorem range_sorted (n : Nat) : (List.range n).Pairwise (· < ·) := List.pairwise_lt_range

/-- THE ORDERS: whatever the draw, the chain in the order of the text gives one in that order -/
theorem linear_go (hok : okRegion ops L = true) {f' : FS} : ∀ (fuel t : Nat) (listed : Array Bool) (acc : List Nat) (f : FS), listed.size = ops.size →
    (∀ (i : Nat) o, ops[i]? = some o → listed.getD i true = true → ∀ e, e ∈ o.after.toList → Region.binds .any e = true → listed.getD e.on true = true) →
    ((List.range ops.size).filter fun i => !listed.getD i true).length ≤ fuel →
    RChain P G N ops nb L ((List.range ops.size).filter fun i => !listed.getD i true) f f' →
    ∃ rest, Region.linearise.go .any ops fuel t listed acc = acc.reverse ++ rest ∧ RChain P G N ops nb L rest f f' ∧ rest.Nodup ∧ ∀ i, i ∈ rest → i < ops.size ∧ listed.getD i true = false := by
  unfold okRegion at hok
  simp only [Bool.and_eq_true] at hok
  obtain ⟨hedge, hpairs⟩ := hok
  have hlt : ∀ (i : Nat) o, ops[i]? = some o → ∀ e, e ∈ o.after.toList → Region.binds .any e = true → e.on < i := by
    intro i o ho e he hb
    have := List.all_eq_true.1 hedge (o, i) (by
      rw [List.mem_iff_getElem?]
      refine ⟨i, ?_⟩
      simp [List.getElem?_zipIdx, ho])
    have := List.all_eq_true.1 this e he
    simpa [hb] using this
  intro fuel
  induction fuel with
  | zero =>
    intro t listed acc f hsz hcl hlen hch
    have he : (List.range ops.size).filter (fun i => !listed.getD i true) = [] := List.length_eq_zero_iff.1 (by omega)
    rw [he] at hch
    exact ⟨[], by simp [Region.linearise.go], hch, by simp, by simp⟩
  | succ fuel ih =>
    intro t listed acc f hsz hcl hlen hch
    simp only [Region.linearise.go]
    generalize hrs : (List.range ops.size).filter (fun i => !listed.getD i true && ((ops[i]?).map (·.after.all fun e => !Region.binds .any e || listed.getD e.on false)).getD false) = rs
    cases hpick : rs[t % rs.length]? with
    | none =>
      have hrs0 : rs = [] := by
        cases hr : rs with
        | nil => rfl
        | cons x r =>
          rw [hr] at hpick
          rw [List.getElem?_eq_getElem (Nat.mod_lt _ (by simp))] at hpick
          cases hpick
      -- the least that is left is ready
      have he : (List.range ops.size).filter (fun i => !listed.getD i true) = [] := by
        cases hr : (List.range ops.size).filter (fun i => !listed.getD i true) with
        | nil => rfl
        | cons x r =>
          exfalso
          have hx : x ∈ (List.range ops.size).filter (fun i => !listed.getD i true) := by rw [hr]; simp
          have hx' := List.mem_filter.1 hx
          have hxs : x < ops.size := by simpa using hx'.1
          have hsort : (x :: r).Pairwise (· < ·) := by rw [← hr]; exact (range_sorted _).filter _
          have hmin : ∀ j, j < x → listed.getD j true = true := by
            intro j hj
            cases hlj : listed.getD j true with
            | true => rfl
            | false =>
              have : j ∈ (List.range ops.size).filter (fun i => !listed.getD i true) := List.mem_filter.2 ⟨by simp; omega, by rw [hlj]; rfl⟩
              rw [hr] at this
              cases this with
              | head => omega
              | tail _ h => have := (List.pairwise_cons.1 hsort).1 j h; omega
          have : x ∈ rs := by
            rw [← hrs]
            refine List.mem_filter.2 ⟨hx'.1, ?_⟩
            simp only [Bool.and_eq_true]
            refine ⟨hx'.2, ?_⟩
            rw [Array.getElem?_eq_getElem hxs]
            simp only [Option.map_some, Option.getD_some]
            rw [← Array.all_toList, List.all_eq_true]
            intro e he
            by_cases hb : Region.binds .any e = true
            · have hlt' := hlt x _ (Array.getElem?_eq_getElem hxs) e he hb
              have := hmin e.on hlt'
              have hes : e.on < listed.size := by omega
              simp only [hb, Bool.not_true, Bool.false_or]
              simp only [Array.getD_eq_getD_getElem?, Array.getElem?_eq_getElem hes, Option.getD_some] at this ⊢
              exact this
            · simp [hb]
          rw [hrs0] at this; cases this
      rw [he] at hch
      exact ⟨[], by simp, hch, by simp, by simp⟩
    | some i =>
      simp only
      have hi : i ∈ rs := List.mem_of_getElem? hpick
      rw [← hrs] at hi
      have hi' := List.mem_filter.1 hi
      have his : i < ops.size := by simpa using hi'.1
      simp only [Bool.and_eq_true] at hi'
      obtain ⟨_, hun, hready⟩ := hi'
      rw [Array.getElem?_eq_getElem his] at hready
      simp only [Option.map_some, Option.getD_some] at hready
      have hpred : ∀ e, e ∈ (ops[i]).after.toList → Region.binds .any e = true → listed.getD e.on true = true := by
        intro e he hb
        rw [← Array.all_toList, List.all_eq_true] at hready
        have := hready e he
        simp only [hb, Bool.not_true, Bool.false_or] at this
        have hlt' := hlt i _ (Array.getElem?_eq_getElem his) e he hb
        have hes : e.on < listed.size := by omega
        simp only [Array.getD_eq_getD_getElem?, Array.getElem?_eq_getElem hes, Option.getD_some] at this ⊢
        exact this
      obtain ⟨a, b, h1, h2, h3⟩ := filter_split (p := fun i => !listed.getD i true) (List.range ops.size) (range_sorted _) (by simpa using his) hun
      rw [h1] at hch
      have hfront := hch.front (fun j hj => by
        obtain ⟨hji, hju⟩ := h2 j hj
        have := List.all_eq_true.1 hpairs i (by simpa using his)
        have := List.all_eq_true.1 this j (by simpa using hji)
        simp only [Bool.or_eq_true] at this
        rcases this with hm | hm
        · exfalso
          have := ready_mask (ops := ops) (listed := fun k => listed.getD k true) hcl hlt i i ops[i] (Nat.le_refl _) (Array.getElem?_eq_getElem his) hpred j hm
          have h9 : listed.getD j true = true := this
          rw [h9] at hju; cases hju
        · exact hm)
      cases hfront with
      | cons _ _ _ f1 _ hstep hrest =>
        have hset : ∀ k, (listed.setIfInBounds i true).getD k true = if k = i then true else listed.getD k true := by
          intro k
          simp only [Array.getD_eq_getD_getElem?]
          by_cases hk : k = i
          · subst hk; rw [Array.getElem?_setIfInBounds_self_of_lt (by omega)]; simp
          · rw [Array.getElem?_setIfInBounds_ne (fun e => hk e.symm)]; simp [hk]
        have hfil : (List.range ops.size).filter (fun k => !(listed.setIfInBounds i true).getD k true) = a ++ b := by
          rw [← h3]
          apply List.filter_congr
          intro k _
          rw [hset]
          by_cases hk : k = i <;> simp [hk]
        obtain ⟨rest, hr1, hr2, hr3, hr4⟩ := ih (t / rs.length) (listed.setIfInBounds i true) (i :: acc) f1 (by simpa using hsz) (fun k o ho hk e he hb => by
            rw [hset] at hk ⊢
            by_cases hki : k = i
            · subst hki
              have : o = ops[k] := by rw [Array.getElem?_eq_getElem his] at ho; injection ho with ho; exact ho.symm
              subst this
              split
              · rfl
              · exact hpred e he hb
            · rw [if_neg hki] at hk
              split
              · rfl
              · exact hcl k o ho hk e he hb)
          (by rw [hfil]; rw [h1] at hlen; simp at hlen ⊢; omega) (by rw [hfil]; exact hrest)
        refine ⟨i :: rest, by rw [hr1]; simp, .cons i rest f f1 f' hstep hr2, ?_, ?_⟩
        · refine List.nodup_cons.2 ⟨fun hm => ?_, hr3⟩
          have := (hr4 i hm).2
          rw [hset, if_pos rfl] at this; cases this
        · intro k hk
          cases hk with
          | head => exact ⟨his, by simpa using hun⟩
          | tail _ hk =>
            have := hr4 k hk
            refine ⟨this.1, ?_⟩
            have h5 := this.2
            rw [hset] at h5
            split at h5
            · cases h5
            · exact h5

theorem linear_ok (hok : okRegion ops L = true) {f f' : FS} (h : RChain P G N ops nb L (List.range ops.size) f f') (t : Nat) :
    RChain P G N ops nb L (Region.linearise .any ops t) f f' ∧ (Region.linearise .any ops t).Nodup ∧ ∀ i, i ∈ Region.linearise .any ops t → i < ops.size := by
  have hfalse : ∀ i, i < ops.size → (Array.replicate ops.size false).getD i true = false := by
    intro i hi
    simp [Array.getD_eq_getD_getElem?, hi]
  have hfil : (List.range ops.size).filter (fun i => !(Array.replicate ops.size false).getD i true) = List.range ops.size := by
    rw [List.filter_eq_self]
    intro i hi
    rw [hfalse i (by simpa using hi)]; rfl
  obtain ⟨rest, h1, h2, h3, h4⟩ := linear_go hok ops.size t (Array.replicate ops.size false) [] f (by simp) (fun i o ho hl => by
      have hi : i < ops.size := by
        rcases Nat.lt_or_ge i ops.size with q | q
        · exact q
        · rw [Array.getElem?_eq_none q] at ho; cases ho
      rw [hfalse i hi] at hl; cases hl) (by rw [hfil]; simp) (by rw [hfil]; exact h)
  unfold Region.linearise
  rw [h1]
  exact ⟨h2, h3, fun i hi => (h4 i hi).1⟩
end
end Go.Ab
