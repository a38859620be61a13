/-
  AbRun0: the evaluator: states as lists, operations one behind the other, as one proposition that whnf unfolds; each is a chain of abstract steps.
-/
import Derived.Test.YtnofpgegbhegnaaGreatDoorAbRegion
namespace Go.Ab

/-- a test that is decided, or left to whoever proves -/
def brn (b : Bool) (A B : Prop) : Prop := Bool.rec (motive := fun _ => Prop) B A b
theorem brn_i {b : Bool} {A B : Prop} (h1 : b = true → A) (h2 : b = false → B) : brn b A B := by
  cases b
  · exact h2 rfl
  · exact h1 rfl
theorem brn_e {b : Bool} {A B : Prop} (h : brn b A B) : (b = true ∧ A) ∨ (b = false ∧ B) := by
  cases b
  · exact .inr ⟨rfl, h⟩
  · exact .inl ⟨rfl, h⟩

/-- something that must be there -/
def opt {α : Type} (x : Option α) (K : α → Prop) : Prop := Option.rec (motive := fun _ => Prop) False (fun y => K y) x
theorem opt_i {α : Type} {x : Option α} {K : α → Prop} (y : α) (h : x = some y) (hK : K y) : opt x K := by rw [h]; exact hK
theorem opt_e {α : Type} {x : Option α} {K : α → Prop} (h : opt x K) : ∃ y, x = some y ∧ K y := by
  cases x with
  | none => exact h.elim
  | some y => exact ⟨y, rfl, h⟩

mutual
/-- a value, its outer form worked out -/
def fAV : AV → (AV → Prop) → Prop
  | .int k n, K => K (.int k n)
  | .bool b, K => K (.bool b)
  | .str s, K => K (.str s)
  | .esl, K => K .esl
  | .sl xs, K => K (.sl xs)
  | .agg cs, K => fL cs fun cs => K (.agg cs)
  | .tup cs, K => fL cs fun cs => K (.tup cs)
  | .rp row c, K => K (.rp row c)
  | .fn f cs, K => fL cs fun cs => K (.fn f cs)
  | .con v, K => K (.con v)
  | .ptr o r c, K => K (.ptr o r c)
  | .osl o a b c, K => K (.osl o a b c)
  | .osw o z, K => K (.osw o z)
  | .mapo o, K => K (.mapo o)
  | .undef, K => K .undef
  | .anyb p, K => K (.anyb p)
def fL : List AV → (List AV → Prop) → Prop
  | [], K => K []
  | x :: r, K => fAV x fun x => fL r fun r => K (x :: r)
end

mutual
theorem fAV_eq : ∀ (x : AV) (K : AV → Prop), fAV x K = K x
  | .int k n, K => rfl
  | .bool b, K => rfl
  | .str s, K => rfl
  | .esl, K => rfl
  | .sl xs, K => rfl
  | .agg cs, K => by simp only [fAV]; rw [fL_eq]
  | .tup cs, K => by simp only [fAV]; rw [fL_eq]
  | .rp row c, K => rfl
  | .fn f cs, K => by simp only [fAV]; rw [fL_eq]
  | .con v, K => rfl
  | .ptr o r c, K => rfl
  | .osl o a b c, K => rfl
  | .osw o z, K => rfl
  | .mapo o, K => rfl
  | .undef, K => rfl
  | .anyb p, K => rfl
theorem fL_eq : ∀ (l : List AV) (K : List AV → Prop), fL l K = K l
  | [], K => rfl
  | x :: r, K => by simp only [fL]; rw [fAV_eq, fL_eq]
end
theorem fL_i {l : List AV} {K : List AV → Prop} (h : K l) : fL l K := by rw [fL_eq]; exact h
theorem fAV_i {x : AV} {K : AV → Prop} (h : K x) : fAV x K := by rw [fAV_eq]; exact h

def fR : List (List AV) → (List (List AV) → Prop) → Prop
  | [], K => K []
  | x :: r, K => fL x fun x => fR r fun r => K (x :: r)
theorem fR_eq : ∀ (l : List (List AV)) (K : List (List AV) → Prop), fR l K = K l
  | [], K => rfl
  | x :: r, K => by simp only [fR]; rw [fL_eq, fR_eq]

abbrev Tm := List (Nat × AV)
abbrev Os := List (Nat × AO)

def lookG (g : Tm) (t : Nat) : AV :=
  match g with
  | [] => .undef
  | (k, v) :: r => if t = k then v else lookG r t

def setO (k : Nat) (x : AO) : Os → Os
  | [] => [(k, x)]
  | (k', y) :: r => if k = k' then (k, x) :: r else (k', y) :: setO k x r
def delO (k : Nat) : Os → Os
  | [] => []
  | (k', y) :: r => if k = k' then delO k r else (k', y) :: delO k r
def updL (os : Os) : List (Nat × Option AO) → Os
  | [] => os
  | (k, some x) :: r => setO k x (updL os r)
  | (k, none) :: r => delO k (updL os r)

theorem lk_setO (k : Nat) (x : AO) : ∀ (os : Os) (o : Nat), lk (setO k x os) o = if o = k then some x else lk os o := by
  intro os
  induction os with
  | nil => intro o; simp [setO, lk]
  | cons e r ih =>
    intro o
    obtain ⟨k', y⟩ := e
    simp only [setO]
    by_cases h : k = k'
    · subst h
      simp only [if_true, lk]
      split <;> rfl
    · simp only [h, if_false, lk, ih]
      by_cases h1 : o = k'
      · have : o ≠ k := fun e => h (e ▸ h1)
        rw [if_pos h1, if_neg this, if_pos h1]
      · rw [if_neg h1]; split <;> rfl
theorem lk_delO (k : Nat) : ∀ (os : Os) (o : Nat), lk (delO k os) o = if o = k then none else lk os o := by
  intro os
  induction os with
  | nil => intro o; simp [delO, lk]
  | cons e r ih =>
    intro o
    obtain ⟨k', y⟩ := e
    simp only [delO]
    by_cases h : k = k'
    · subst h
      simp only [if_true, ih, lk]
      by_cases h1 : o = k <;> simp [h1]
    · simp only [h, if_false, lk, ih]
      by_cases h1 : o = k'
      · subst h1
        rw [if_pos rfl, if_neg (fun e => h e.symm), if_pos rfl]
      · rw [if_neg h1]; split <;> rfl
theorem lk_updL (os : Os) : ∀ (U : List (Nat × Option AO)), lk (updL os U) = updO (lk os) U := by
  intro U
  induction U with
  | nil => rfl
  | cons e r ih =>
    obtain ⟨k, x⟩ := e
    funext o
    cases x with
    | some x => simp only [updL, lk_setO, updO, ih]
    | none => simp only [updL, lk_delO, updO, ih]

theorem lookG_put (g : Tm) (os : Nat → Option AO) (d : Option Nat) (v : AV) : (FS.mk (lookG g) os).put d v = FS.mk (lookG (match d with | some d => (d, v) :: g | none => g)) os := by
  cases d with
  | none => rfl
  | some d => rfl

def toFS (g : Tm) (os : Os) : FS := ⟨lookG g, lk os⟩

theorem toFS_upd (g : Tm) (os : Os) (d : Option Nat) (v : AV) (U : List (Nat × Option AO)) :
    (toFS g os).upd d v U = toFS (match d with | some d => (d, v) :: g | none => g) (updL os U) := by
  unfold toFS FS.upd
  rw [lookG_put, lk_updL]

/-- the list of objects, worked out -/
def fO : Os → (Os → Prop) → Prop
  | [], K => K []
  | (k, x) :: r, K => fO r fun r => K ((k, x) :: r)
theorem fO_eq : ∀ (os : Os) (K : Os → Prop), fO os K = K os
  | [], K => rfl
  | (k, x) :: r, K => by simp only [fO]; rw [fO_eq]
/-- a number, worked out -/
def fN (n : Nat) (K : Nat → Prop) : Prop := Nat.rec (motive := fun _ => Prop) (K 0) (fun m _ => K (m + 1)) n
theorem fN_eq (n : Nat) (K : Nat → Prop) : fN n K = K n := by cases n <;> rfl

/-- an object's new content, worked out where it is a box -/
def fU (p : Bool) (rs : List (List AV)) (K : AO → Prop) : Prop :=
  Bool.rec (motive := fun _ => Prop) (fR rs fun rs => K (.rows false rs)) (K (.rows true rs)) p
theorem fU_eq (p : Bool) (rs : List (List AV)) (K : AO → Prop) : fU p rs K = K (.rows p rs) := by
  cases p
  · simp only [fU]; rw [fR_eq]
  · rfl

/-- the rows of an object that is read -/
def rowsR (ol : Nat → Option AO) (o : Nat) : Option (List (List AV)) :=
  match ol o with
  | some (.rows true rs) => some rs
  | some (.rows false rs) => some rs
  | some (.froz rs) => some rs
  | _ => none

theorem rowsR_inv {ol : Nat → Option AO} {o : Nat} {rs : List (List AV)} (h : rowsR ol o = some rs) : ∃ y, ol o = some y ∧ (y = .rows true rs ∨ y = .rows false rs ∨ y = .froz rs) := by
  unfold rowsR at h
  split at h
  · rename_i q; injection h with h; subst h; exact ⟨_, q, .inl rfl⟩
  · rename_i q; injection h with h; subst h; exact ⟨_, q, .inr (.inl rfl)⟩
  · rename_i q; injection h with h; subst h; exact ⟨_, q, .inr (.inr rfl)⟩
  · cases h
end Go.Ab
