/-
  AbCore: abstract values (trees) for Go values, and what it means that a value in memory reads as one.
  IRep: a value that names no object of the running function. Rep: a value that may.
-/
import GoSem.Claims
import Derived.Calls
import Derived.WalkKit
namespace Go.Ab

/-- the longest slice -/
def LIM : Nat := 1073741824

inductive AV where
  | int (k : IntKind) (n : Int)
  | bool (b : Bool)
  | str (s : List UInt8)
  | esl
  | sl (xs : List (List AV))
  | agg (cs : List AV)
  | tup (vs : List AV)
  | rp (row : List AV) (off : Nat)
  | fn (f : Nat) (cap : List AV)
  | con (v : Value)
  | ptr (o row off : Nat)
  | osl (o off len room : Nat)
  | osw (o z : Nat)
  | mapo (o : Nat)
  | undef
  | anyb (p : Prop)
  deriving Inhabited

structure Loc where
  blk : Nat
  base : Nat
  esz : Nat
  size : Nat
  cnt : Nat

abbrev Imap := Nat → Option (Option Loc)

/-- numbers of functions lie below it; FB + f: function f, what it is bound to ahead of its arguments -/
def FB : Nat := 1000000000
def fnV (f : Nat) (vs : Array Value) : Value := bif Nat.blt f FB then .func (.func f) #[] vs else .func (.func (f - FB)) vs #[]
theorem fnV_one (f : Nat) (vs : Array Value) : (fnV f vs).oneCell' = true := by
  unfold fnV
  cases Nat.blt f FB <;> rfl
theorem fnV_lt {f : Nat} (h : Nat.blt f FB = true) (vs : Array Value) : fnV f vs = .func (.func f) #[] vs := by
  unfold fnV
  rw [h]; rfl

/-- the cell `j` of block `b` -/
abbrev cellOf (w : World) (b j : Nat) : Option Value := w.cell? ⟨b, j, none⟩

inductive IRep (S : Nat → Prop) (w : World) : AV → Value → Prop
  | int (k : IntKind) (n : Int) : IRep S w (.int k n) (.int k n)
  | bool (b : Bool) : IRep S w (.bool b) (.bool b)
  | str (s : ByteArray) : IRep S w (.str s.data.toList) (.string s)
  | esl (a : Option Addr) : IRep S w .esl (.slice a 0 0)
  | snil : IRep S w (.sl []) (.slice none 0 0)
  | sl (xs : List (List AV)) (a : Addr) (cap sz : Nat) (vals : Nat → List Value)
      (hcap : xs.length ≤ cap) (hlim : xs.length ≤ LIM)
      (hS : xs ≠ [] → S a.block ∧ a.spot = none)
      (hlen : ∀ (i : Nat) r, xs[i]? = some r → r.length = sz ∧ (vals i).length = sz)
      (hcell : ∀ (i j : Nat) v, i < xs.length → (vals i)[j]? = some v → cellOf w a.block (a.off + (i * sz + j)) = some v ∧ v.oneCell' = true)
      (hrep : ∀ (i j : Nat) r x v, xs[i]? = some r → r[j]? = some x → (vals i)[j]? = some v → IRep S w x v) :
      IRep S w (.sl xs) (.slice (some a) xs.length cap)
  | agg (cs : List AV) (vs : Array Value) (hl : cs.length = vs.size)
      (h : ∀ (j : Nat) x v, cs[j]? = some x → vs[j]? = some v → IRep S w x v) : IRep S w (.agg cs) (.agg vs)
  | tup (cs : List AV) (vs : Array Value) (hl : cs.length = vs.size)
      (h : ∀ (j : Nat) x v, cs[j]? = some x → vs[j]? = some v → IRep S w x v) : IRep S w (.tup cs) (.tuple vs)
  | rp (row : List AV) (off blk base : Nat) (vals : List Value) (hS : S blk) (hl : row.length = vals.length)
      (hcell : ∀ (j : Nat) v, vals[j]? = some v → cellOf w blk (base + j) = some v ∧ v.oneCell' = true)
      (h : ∀ (j : Nat) x v, row[j]? = some x → vals[j]? = some v → IRep S w x v) :
      IRep S w (.rp row off) (.pointer (some ⟨blk, base + off, none⟩))
  | fn (f : Nat) (cap : List AV) (vs : Array Value) (hl : cap.length = vs.size)
      (h : ∀ (j : Nat) x v, cap[j]? = some x → vs[j]? = some v → IRep S w x v) : IRep S w (.fn f cap) (fnV f vs)
  | con (v : Value) (h : v.oneCell' = true) : IRep S w (.con v) v
  | undef (v : Value) : IRep S w .undef v
  | anyb (p : Prop) (b : Bool) (h : b = true → p) : IRep S w (.anyb p) (.bool b)

/-- blocks in S are as they were -/
def SameOn (S : Nat → Prop) (w w' : World) : Prop := ∀ b : Nat, S b → w'.heap[b]? = w.heap[b]?

theorem cell_same {w w' : World} {b j : Nat} (h : w'.heap[b]? = w.heap[b]?) : cellOf w' b j = cellOf w b j := by
  simp only [cellOf, World.cell?, h]

theorem frozen_same {w w' : World} {b j : Nat} (h : w'.heap[b]? = w.heap[b]?) : w'.frozen? ⟨b, j, none⟩ = w.frozen? ⟨b, j, none⟩ := by
  simp only [World.frozen?, h]

theorem IRep.mono {S S' : Nat → Prop} {w w' : World} (hs : ∀ b, S b → S' b) (hw : SameOn S w w') {x : AV} {v : Value}
    (h : IRep S w x v) : IRep S' w' x v := by
  induction h with
  | int k n => exact .int k n
  | bool b => exact .bool b
  | str s => exact .str s
  | esl a => exact .esl a
  | snil => exact .snil
  | sl xs a cap sz vals hcap hlim hS hlen hcell _ ih =>
    refine .sl xs a cap sz vals hcap hlim (fun hn => ⟨hs _ (hS hn).1, (hS hn).2⟩) hlen (fun i j v hi hv => ?_) (fun i j r x v h1 h2 h3 => ih i j r x v h1 h2 h3)
    have hn : xs ≠ [] := by intro e; subst e; simp at hi
    rw [cell_same (hw _ (hS hn).1)]
    exact hcell i j v hi hv
  | agg cs vs hl _ ih => exact .agg cs vs hl ih
  | tup cs vs hl _ ih => exact .tup cs vs hl ih
  | rp row off blk base vals hS hl hcell _ ih =>
    refine .rp row off blk base vals (hs _ hS) hl (fun j v hv => ?_) ih
    rw [cell_same (hw _ hS)]
    exact hcell j v hv
  | fn f cap vs hl _ ih => exact .fn f cap vs hl ih
  | con v h => exact .con v h
  | undef v => exact .undef v
  | anyb p b h => exact .anyb p b h

inductive Rep (S : Nat → Prop) (w : World) (ι : Imap) : AV → Value → Prop
  | imm (x : AV) (v : Value) (h : IRep S w x v) : Rep S w ι x v
  | agg (cs : List AV) (vs : Array Value) (hl : cs.length = vs.size)
      (h : ∀ (j : Nat) x v, cs[j]? = some x → vs[j]? = some v → Rep S w ι x v) : Rep S w ι (.agg cs) (.agg vs)
  | tup (cs : List AV) (vs : Array Value) (hl : cs.length = vs.size)
      (h : ∀ (j : Nat) x v, cs[j]? = some x → vs[j]? = some v → Rep S w ι x v) : Rep S w ι (.tup cs) (.tuple vs)
  | fn (f : Nat) (cap : List AV) (vs : Array Value) (hl : cap.length = vs.size)
      (h : ∀ (j : Nat) x v, cap[j]? = some x → vs[j]? = some v → Rep S w ι x v) : Rep S w ι (.fn f cap) (fnV f vs)
  | ptr (o r c : Nat) (l : Loc) (h : ι o = some (some l)) : Rep S w ι (.ptr o r c) (.pointer (some ⟨l.blk, l.base + (r * l.esz + c), none⟩))
  | osl (o off len room cap : Nat) (a : Addr) (l : Loc) (h : ι o = some (some l)) (h1 : len ≤ room) (h2 : room ≤ cap)
      (h3 : l.base + (off + cap) * l.esz ≤ l.size) (h4 : len ≤ LIM) (h5 : off + room ≤ l.cnt) (ha : cap ≠ 0 → a = ⟨l.blk, l.base + off * l.esz, none⟩) :
      Rep S w ι (.osl o off len room) (.slice (some a) len cap)
  | osw (o z cap : Nat) (a : Addr) (l : Loc) (h : ι o = some (some l)) (h2 : l.cnt ≤ cap)
      (h3 : l.base + cap * l.esz ≤ l.size) (h4 : l.cnt ≤ LIM) (hz : l.cnt = 0 → cap ≠ 0 → l.esz = z) (ha : cap ≠ 0 → a = ⟨l.blk, l.base, none⟩) :
      Rep S w ι (.osw o z) (.slice (some a) l.cnt cap)
  | oswv (o z : Nat) (a : Option Addr) (h : ι o = some none) : Rep S w ι (.osw o z) (.slice a 0 0)
  | oslv (o : Nat) (a : Option Addr) (h : ι o = some none) : Rep S w ι (.osl o 0 0 0) (.slice a 0 0)
  | mapo (o : Nat) (l : Loc) (h : ι o = some (some l)) : Rep S w ι (.mapo o) (.map (some l.blk))

/-- allocated numbers keep their places -/
def Imap.le (ι ι' : Imap) : Prop := ∀ o x, ι o = some x → ι' o = some x

theorem Rep.mono {S S' : Nat → Prop} {w w' : World} {ι ι' : Imap} (hs : ∀ b, S b → S' b) (hw : SameOn S w w') (hι : ι.le ι') {x : AV} {v : Value}
    (h : Rep S w ι x v) : Rep S' w' ι' x v := by
  induction h with
  | imm x v h => exact .imm x v (h.mono hs hw)
  | agg cs vs hl _ ih => exact .agg cs vs hl ih
  | tup cs vs hl _ ih => exact .tup cs vs hl ih
  | fn f cap vs hl _ ih => exact .fn f cap vs hl ih
  | ptr o r c l h => exact .ptr o r c l (hι _ _ h)
  | osl o off len room cap a l h h1 h2 h3 h4 h5 ha => exact .osl o off len room cap a l (hι _ _ h) h1 h2 h3 h4 h5 ha
  | osw o z cap a l h h2 h3 h4 hz ha => exact .osw o z cap a l (hι _ _ h) h2 h3 h4 hz ha
  | oswv o z a h => exact .oswv o z a (hι _ _ h)
  | oslv o a h => exact .oslv o a (hι _ _ h)
  | mapo o l h => exact .mapo o l (hι _ _ h)

theorem Imap.le_refl (ι : Imap) : ι.le ι := fun _ _ h => h
theorem Imap.le_trans {a b c : Imap} (h : a.le b) (h' : b.le c) : a.le c := fun _ _ e => h' _ _ (h _ _ e)

/-- may it stand in one cell? -/
def isCell : AV → Bool
  | .int .. | .bool _ | .str _ | .esl | .sl _ | .rp .. | .fn .. | .con _ | .ptr .. | .osl .. | .osw .. | .mapo _ => true
  | .agg _ | .tup _ | .undef => false
  | .anyb _ => false

theorem IRep.cell {S : Nat → Prop} {w : World} {x : AV} {v : Value} (h : IRep S w x v) (hc : isCell x = true) : v.oneCell' = true := by
  cases h <;> first | rfl | assumption | exact fnV_one _ _ | (simp [isCell] at hc; done)

theorem Rep.cell {S : Nat → Prop} {w : World} {ι : Imap} {x : AV} {v : Value} (h : Rep S w ι x v) (hc : isCell x = true) : v.oneCell' = true := by
  cases h with
  | imm _ _ h => exact h.cell hc
  | _ => first | rfl | exact fnV_one _ _ | (simp [isCell] at hc; done)

/-- the cells of a value that is to be stored -/
def cellsOfAV : AV → Option (List AV)
  | .agg cs => if cs.all isCell then some cs else none
  | .int k n => some [.int k n]
  | .bool b => some [.bool b]
  | .str s => some [.str s]
  | .esl => some [.esl]
  | .sl xs => some [.sl xs]
  | .rp r o => some [.rp r o]
  | .fn f c => some [.fn f c]
  | .con v => some [.con v]
  | .ptr o r c => some [.ptr o r c]
  | .osl o a b c => some [.osl o a b c]
  | .osw o z => some [.osw o z]
  | .mapo o => some [.mapo o]
  | .tup _ => none
  | .undef => none
  | .anyb _ => none

/-- lists of values -/
def RepL (S : Nat → Prop) (w : World) (ι : Imap) (cs : List AV) (vs : List Value) : Prop :=
  cs.length = vs.length ∧ ∀ (j : Nat) x v, cs[j]? = some x → vs[j]? = some v → Rep S w ι x v
def IRepL (S : Nat → Prop) (w : World) (cs : List AV) (vs : List Value) : Prop :=
  cs.length = vs.length ∧ ∀ (j : Nat) x v, cs[j]? = some x → vs[j]? = some v → IRep S w x v

theorem IRepL.rep {S : Nat → Prop} {w : World} {ι : Imap} {cs : List AV} {vs : List Value} (h : IRepL S w cs vs) : RepL S w ι cs vs :=
  ⟨h.1, fun j x v a b => .imm _ _ (h.2 j x v a b)⟩
theorem RepL.mono {S S' : Nat → Prop} {w w' : World} {ι ι' : Imap} (hs : ∀ b, S b → S' b) (hw : SameOn S w w') (hι : ι.le ι') {cs : List AV} {vs : List Value}
    (h : RepL S w ι cs vs) : RepL S' w' ι' cs vs := ⟨h.1, fun j x v a b => (h.2 j x v a b).mono hs hw hι⟩
theorem IRepL.mono {S S' : Nat → Prop} {w w' : World} (hs : ∀ b, S b → S' b) (hw : SameOn S w w') {cs : List AV} {vs : List Value}
    (h : IRepL S w cs vs) : IRepL S' w' cs vs := ⟨h.1, fun j x v a b => (h.2 j x v a b).mono hs hw⟩

theorem RepL.nil {S : Nat → Prop} {w : World} {ι : Imap} : RepL S w ι [] [] := ⟨rfl, fun j x v h => by simp at h⟩
theorem RepL.cons {S : Nat → Prop} {w : World} {ι : Imap} {x : AV} {v : Value} {cs : List AV} {vs : List Value} (h : Rep S w ι x v) (hr : RepL S w ι cs vs) :
    RepL S w ι (x :: cs) (v :: vs) := by
  refine ⟨by simp [hr.1], fun j y u hy hu => ?_⟩
  cases j with
  | zero => simp at hy hu; subst hy; subst hu; exact h
  | succ j => exact hr.2 j y u (by simpa using hy) (by simpa using hu)
theorem RepL.append {S : Nat → Prop} {w : World} {ι : Imap} {as bs : List AV} {us vs : List Value} (ha : RepL S w ι as us) (hb : RepL S w ι bs vs) :
    RepL S w ι (as ++ bs) (us ++ vs) := by
  refine ⟨by simp [ha.1, hb.1], fun j x v hx hv => ?_⟩
  by_cases hj : j < as.length
  · rw [List.getElem?_append_left hj] at hx
    rw [List.getElem?_append_left (by have := ha.1; omega)] at hv
    exact ha.2 j x v hx hv
  · rw [List.getElem?_append_right (by omega)] at hx
    rw [List.getElem?_append_right (by have := ha.1; omega)] at hv
    refine hb.2 (j - as.length) x v hx ?_
    rw [ha.1]; exact hv
theorem RepL.take {S : Nat → Prop} {w : World} {ι : Imap} {as : List AV} {us : List Value} (n : Nat) (h : RepL S w ι as us) : RepL S w ι (as.take n) (us.take n) := by
  refine ⟨by simp [h.1], fun j x v hx hv => ?_⟩
  rw [List.getElem?_take] at hx hv
  split at hx
  · rename_i hlt
    simp only [hlt, if_true] at hv
    exact h.2 j x v hx hv
  · simp at hx
theorem RepL.drop {S : Nat → Prop} {w : World} {ι : Imap} {as : List AV} {us : List Value} (n : Nat) (h : RepL S w ι as us) : RepL S w ι (as.drop n) (us.drop n) := by
  refine ⟨by simp [h.1], fun j x v hx hv => ?_⟩
  rw [List.getElem?_drop] at hx hv
  exact h.2 _ x v hx hv

theorem Rep.agg_inv {S : Nat → Prop} {w : World} {ι : Imap} {cs : List AV} {v : Value} (h : Rep S w ι (.agg cs) v) :
    ∃ vs : Array Value, v = .agg vs ∧ RepL S w ι cs vs.toList := by
  cases h with
  | imm _ _ h =>
    cases h with
    | agg _ vs hl h => exact ⟨vs, rfl, by simpa using hl, fun j x v a b => .imm _ _ (h j x v a (by simpa using b))⟩
  | agg _ vs hl h => exact ⟨vs, rfl, by simpa using hl, fun j x v a b => h j x v a (by simpa using b)⟩
theorem Rep.tup_inv {S : Nat → Prop} {w : World} {ι : Imap} {cs : List AV} {v : Value} (h : Rep S w ι (.tup cs) v) :
    ∃ vs : Array Value, v = .tuple vs ∧ RepL S w ι cs vs.toList := by
  cases h with
  | imm _ _ h =>
    cases h with
    | tup _ vs hl h => exact ⟨vs, rfl, by simpa using hl, fun j x v a b => .imm _ _ (h j x v a (by simpa using b))⟩
  | tup _ vs hl h => exact ⟨vs, rfl, by simpa using hl, fun j x v a b => h j x v a (by simpa using b)⟩
theorem Rep.fn_inv {S : Nat → Prop} {w : World} {ι : Imap} {f : Nat} {cs : List AV} {v : Value} (h : Rep S w ι (.fn f cs) v) :
    ∃ vs : Array Value, v = fnV f vs ∧ RepL S w ι cs vs.toList := by
  cases h with
  | imm _ _ h =>
    cases h with
    | fn _ _ vs hl h => exact ⟨vs, rfl, by simpa using hl, fun j x v a b => .imm _ _ (h j x v a (by simpa using b))⟩
  | fn _ _ vs hl h => exact ⟨vs, rfl, by simpa using hl, fun j x v a b => h j x v a (by simpa using b)⟩
theorem Rep.int_inv {S : Nat → Prop} {w : World} {ι : Imap} {k : IntKind} {n : Int} {v : Value} (h : Rep S w ι (.int k n) v) : v = .int k n := by
  cases h with | imm _ _ h => cases h; rfl
theorem Rep.bool_inv {S : Nat → Prop} {w : World} {ι : Imap} {b : Bool} {v : Value} (h : Rep S w ι (.bool b) v) : v = .bool b := by
  cases h with | imm _ _ h => cases h; rfl
theorem Rep.str_inv {S : Nat → Prop} {w : World} {ι : Imap} {l : List UInt8} {v : Value} (h : Rep S w ι (.str l) v) : v = .string ⟨l.toArray⟩ := by
  cases h with | imm _ _ h => cases h; rfl
theorem Rep.con_inv {S : Nat → Prop} {w : World} {ι : Imap} {u v : Value} (h : Rep S w ι (.con u) v) : v = u := by
  cases h with | imm _ _ h => cases h; rfl
theorem Rep.ptr_inv {S : Nat → Prop} {w : World} {ι : Imap} {o r c : Nat} {v : Value} (h : Rep S w ι (.ptr o r c) v) :
    ∃ l, ι o = some (some l) ∧ v = .pointer (some ⟨l.blk, l.base + (r * l.esz + c), none⟩) := by
  cases h with
  | imm _ _ h => cases h
  | ptr _ _ _ l h => exact ⟨l, h, rfl⟩
theorem Rep.anyb_inv {S : Nat → Prop} {w : World} {ι : Imap} {p : Prop} {v : Value} (h : Rep S w ι (.anyb p) v) : ∃ b : Bool, v = .bool b ∧ (b = true → p) := by
  cases h with | imm _ _ h => cases h with | anyb _ b h => exact ⟨b, rfl, h⟩
theorem Rep.mapo_inv {S : Nat → Prop} {w : World} {ι : Imap} {o : Nat} {v : Value} (h : Rep S w ι (.mapo o) v) :
    ∃ l, ι o = some (some l) ∧ v = .map (some l.blk) := by
  cases h with
  | imm _ _ h => cases h
  | mapo _ l h => exact ⟨l, h, rfl⟩

theorem IRep.str_mk {S : Nat → Prop} {w : World} (l : List UInt8) : IRep S w (.str l) (.string ⟨l.toArray⟩) := by
  have := IRep.str (S := S) (w := w) ⟨l.toArray⟩
  simpa using this

theorem cellsOfAV_rep {S : Nat → Prop} {w : World} {ι : Imap} {x : AV} {cs : List AV} {v : Value} (hc : cellsOfAV x = some cs) (h : Rep S w ι x v) :
    RepL S w ι cs v.cells.toList ∧ cs.all isCell = true := by
  have one : ∀ y, cellsOfAV y = some [y] → isCell y = true → y = x → RepL S w ι cs v.cells.toList ∧ cs.all isCell = true := by
    intro y e hy hxy
    subst hxy
    rw [e] at hc
    injection hc with hc
    subst hc
    refine ⟨?_, by simp [hy]⟩
    have hv := h.cell hy
    have : v.cells.toList = [v] := by cases v <;> simp [Value.oneCell'] at hv <;> simp [Value.cells]
    rw [this]
    exact RepL.cons h .nil
  cases x with
  | agg ds =>
    simp only [cellsOfAV] at hc
    split at hc
    · rename_i hall
      injection hc with hc
      subst hc
      obtain ⟨vs, rfl, hr⟩ := h.agg_inv
      exact ⟨hr, hall⟩
    · simp at hc
  | tup _ => simp [cellsOfAV] at hc
  | undef => simp [cellsOfAV] at hc
  | anyb p => simp [cellsOfAV] at hc
  | int k n => exact one _ rfl rfl rfl
  | bool b => exact one _ rfl rfl rfl
  | str s => exact one _ rfl rfl rfl
  | esl => exact one _ rfl rfl rfl
  | sl xs => exact one _ rfl rfl rfl
  | rp r o => exact one _ rfl rfl rfl
  | fn f c => exact one _ rfl rfl rfl
  | con v => exact one _ rfl rfl rfl
  | ptr o r c => exact one _ rfl rfl rfl
  | osl o a b c => exact one _ rfl rfl rfl
  | osw o z => exact one _ rfl rfl rfl
  | mapo o => exact one _ rfl rfl rfl

end Go.Ab
