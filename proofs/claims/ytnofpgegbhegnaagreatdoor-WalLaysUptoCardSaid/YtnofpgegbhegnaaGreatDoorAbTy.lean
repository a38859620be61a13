/-
  AbTy: how typed data stand as cells, and small lemmas that the printed proofs use.
-/
import Derived.Test.YtnofpgegbhegnaaGreatDoorAbFC
namespace Go.Ab

def cInt (k : IntKind) (n : Int) : List AV := [.int k n]
def cBool (b : Bool) : List AV := [.bool b]
def cStr (s : List UInt8) : List AV := [.str s]
def cSl {α : Type} (c : α → List AV) (l : List α) : List AV := [.sl (l.map c)]

theorem bind_e {α β : Type} {X : Option α} {f : α → Option β} {r : β} (h : Option.bind X f = some r) : ∃ y, X = some y ∧ f y = some r := by
  cases X with
  | none => cases h
  | some y => exact ⟨y, rfl, h⟩
theorem cond_t {α : Type} {b : Bool} {X Y : Option α} {r : α} (h : cond b X Y = some r) (hb : b = true) : X = some r := by subst hb; exact h
theorem cond_f {α : Type} {b : Bool} {X Y : Option α} {r : α} (h : cond b X Y = some r) (hb : b = false) : Y = some r := by subst hb; exact h
theorem grd_e {α : Type} {p : Prop} {_ : Decidable p} {X : Option α} {r : α} (h : cond (decide p) X none = some r) : p ∧ X = some r := by
  by_cases hp : p
  · rw [decide_eq_true hp] at h; exact ⟨hp, h⟩
  · rw [decide_eq_false hp] at h; cases h
theorem getE {α : Type} {X : List (List AV)} {c : α → List AV} {L : List α} {i : Nat} {y : α} (hX : X = L.map c) (h : L[i]? = some y) : X[i]? = some (c y) := by
  subst hX; rw [List.getElem?_map, h]; rfl
theorem cons2 {α : Type} {a b : α} {l l' : List α} (h : a = b) (h' : l = l') : a :: l = b :: l' := by subst h; subst h'; rfl
def outR {R V : Type} [Inhabited V] (o : R ⊕ V) : V := Sum.elim (fun _ => default) id o
theorem FC_args {P : Program} {G : Gmap} {f : Nat} {args args' : List AV} {rv : AV} {os : Os} (h : FC P G f [] args rv os) (e : args = args') : FC P G f [] args' rv os := e ▸ h
theorem FC_arg2 {P : Program} {G : Gmap} {f : Nat} {args args' : List AV} {rv : AV} {os : Os} (e : args = args') (h : FC P G f [] args rv os) : FC P G f [] args' rv os := e ▸ h
theorem LenAll.take {n k : Nat} {rs : List (List AV)} (h : LenAll n rs) : LenAll n (rs.take k) := fun r hr => h r (List.mem_of_mem_take hr)
theorem LenAll.drop {n k : Nat} {rs : List (List AV)} (h : LenAll n rs) : LenAll n (rs.drop k) := fun r hr => h r (List.mem_of_mem_drop hr)
theorem LenAll.set {n k : Nat} {rs : List (List AV)} {x : List AV} (h : LenAll n rs) (hx : x.length = n) : LenAll n (rs.set k x) := fun r hr => by
  rcases List.mem_or_eq_of_mem_set hr with hr | rfl
  · exact h r hr
  · exact hx
theorem LenAll.replicate {n k : Nat} {x : List AV} (hx : x.length = n) : LenAll n (List.replicate k x) := fun r hr => by
  rw [(List.mem_replicate.1 hr).2]; exact hx
def G0 : Gmap := fun _ => none
/-- a list of numbers as bytes -/
def bytesOk (L : List Int) : Bool := L.all fun n => decide (0 ≤ n) && decide (n < 256)
def toBytes (L : List Int) : List UInt8 := L.map fun n => UInt8.ofNat n.toNat
theorem bytes_e {α : Type} {L : List Int} {X : Option α} {r : α} (h : cond (bytesOk L) X none = some r) : bytesOk L = true ∧ X = some r := by
  cases hb : bytesOk L with
  | false => rw [hb] at h; cases h
  | true => rw [hb] at h; exact ⟨rfl, h⟩
theorem bytes_eq2 {X : List (List AV)} {L : List Int} (hX : X = L.map (cInt .u8)) (h : bytesOk L = true) : X = enc8 (toBytes L) := by
  subst hX
  induction L with
  | nil => rfl
  | cons n r ih =>
    simp only [bytesOk, List.all_cons, Bool.and_eq_true, decide_eq_true_eq] at h
    have ih := ih (by simpa [bytesOk] using h.2)
    simp only [enc8, toBytes, List.map_cons, List.map_map, cInt] at ih ⊢
    refine cons2 ?_ ?_
    · have : ((UInt8.ofNat n.toNat).toNat : Int) = n := by
        simp only [UInt8.toNat_ofNat']
        omega
      simp only [this]
    · exact ih
theorem length_enc8 (s : List UInt8) : (enc8 s).length = s.length := by simp [enc8]
theorem elim_l {R V α : Type} {f : R → α} {g : V → α} {e : R} {X : α} (h : Sum.elim f g (Sum.inl e) = X) : f e = X := h
theorem elim_r {R V α : Type} {f : R → α} {g : V → α} {e : V} {X : α} (h : Sum.elim f g (Sum.inr e) = X) : g e = X := h
@[simp] theorem cInt_eq (k : IntKind) (n : Int) : cInt k n = [.int k n] := rfl
@[simp] theorem cBool_eq (b : Bool) : cBool b = [.bool b] := rfl
@[simp] theorem cStr_eq (s : List UInt8) : cStr s = [.str s] := rfl
@[simp] theorem cSl_eq {α : Type} (c : α → List AV) (l : List α) : cSl c l = [.sl (l.map c)] := rfl
@[simp] theorem enc8_eq (l : List UInt8) : enc8 l = l.map fun b => [.int .u8 b.toNat] := rfl
@[simp] theorem setAt_eq {α : Type} (row : List α) (c : Nat) (xs : List α) : setAt row c xs = row.take c ++ (xs ++ row.drop (c + xs.length)) := rfl
@[simp] theorem cut_nn {α : Type} (xs : List α) (a b : Nat) : cut none none xs a b = xs := rfl
@[simp] theorem cut_ns {α : Type} (h : Operand) (xs : List α) (a b : Nat) : cut none (some h) xs a b = xs.take b := rfl
@[simp] theorem cut_sn {α : Type} (l : Operand) (xs : List α) (a b : Nat) : cut (some l) none xs a b = xs.drop a := rfl
@[simp] theorem cut_ss {α : Type} (l h : Operand) (xs : List α) (a b : Nat) : cut (some l) (some h) xs a b = (xs.take b).drop a := rfl
theorem elim_e {R V α : Type} [Inhabited V] {f : R → α} {g : V → α} {o : R ⊕ V} {X : α} (hR : o = Sum.inr (outR o)) (h : Sum.elim f g o = X) : g (outR o) = X := by
  rw [hR] at h; exact h
/-- a number of its kind -/
def okI (k : IntKind) (n : Int) : Prop := (Lit.int k n).wf = true
theorem okI_i64 {n : Int} (h : okI .i64 n) : -9223372036854775808 ≤ n ∧ n ≤ 9223372036854775807 := by
  simpa [okI, Lit.wf, IntKind.min, IntKind.max, IntKind.signed, IntKind.bits] using h
theorem okI_u64 {n : Int} (h : okI .u64 n) : 0 ≤ n ∧ n ≤ 18446744073709551615 := by
  simpa [okI, Lit.wf, IntKind.min, IntKind.max, IntKind.signed, IntKind.bits] using h
theorem okI_u8 {n : Int} (h : okI .u8 n) : 0 ≤ n ∧ n ≤ 255 := by
  simpa [okI, Lit.wf, IntKind.min, IntKind.max, IntKind.signed, IntKind.bits] using h
end Go.Ab
