import Derived.Test.YtnofpgegbhegnaaGreatDoorLWalP
/-
  LWalD0: files by name; forgetting what waits.
-/
set_option linter.unusedVariables false
set_option linter.unusedSimpArgs false
namespace Go.T
open Go Go.Ab

abbrev Fs := List (List UInt8 × List Int)
def tot (fs : Fs) : Nat := (fs.map fun e => e.2.length).sum

theorem mget_mem {q : List UInt8} {x : List Int} : ∀ {fs : Fs}, mget q fs = some x → (q, x) ∈ fs
  | [], h => by cases h
  | e :: r, h => by
    unfold mget at h
    split at h
    · rename_i hq
      injection h with h
      subst hq h
      exact List.mem_cons_self ..
    · exact List.mem_cons_of_mem _ (mget_mem h)
theorem mget_none {q : List UInt8} : ∀ {fs : Fs}, mget q fs = none ↔ ∀ e, e ∈ fs → e.1 ≠ q
  | [] => by simp [mget]
  | e :: r => by
    unfold mget
    split
    · rename_i hq
      simp only [reduceCtorEq, false_iff]
      exact fun h => h e (List.mem_cons_self ..) hq.symm
    · rename_i hq
      rw [mget_none (fs := r)]
      constructor
      · intro h e' he
        rcases List.mem_cons.1 he with rfl | he
        · exact fun q => hq q.symm
        · exact h e' he
      · exact fun h e' he => h e' (List.mem_cons_of_mem _ he)
theorem mget_nk {fs : Fs} (h : (fs.map Prod.fst).Nodup) {e : List UInt8 × List Int} (he : e ∈ fs) : mget e.1 fs = some e.2 := by
  induction fs with
  | nil => cases he
  | cons d r ih =>
    simp only [List.map_cons, List.nodup_cons] at h
    unfold mget
    rcases List.mem_cons.1 he with rfl | he
    · rw [if_pos rfl]
    · rw [if_neg, ih h.2 he]
      intro q
      exact h.1 (q ▸ List.mem_map_of_mem he)

theorem mput_new {q : List UInt8} (x : List Int) : ∀ {fs : Fs}, mget q fs = none → mput q x fs = fs ++ [(q, x)]
  | [], _ => rfl
  | e :: r, h => by
    unfold mget at h
    split at h
    · cases h
    · rename_i hq
      unfold mput
      rw [if_neg hq, mput_new x h]; rfl
theorem mput_keys {q : List UInt8} (x y : List Int) : ∀ {fs : Fs}, mget q fs = some y → (mput q x fs).map Prod.fst = fs.map Prod.fst ∧ tot (mput q x fs) + y.length = tot fs + x.length ∧ (mput q x fs).length = fs.length
  | [], h => by cases h
  | e :: r, h => by
    unfold mget at h
    unfold mput
    split at h
    · rename_i hq
      injection h with h
      rw [if_pos hq]
      subst hq h
      simp [tot]; omega
    · rename_i hq
      rw [if_neg hq]
      obtain ⟨h1, h2, h3⟩ := mput_keys x y h
      simp only [List.map_cons, h1, tot, List.sum_cons, List.length_cons, h3, true_and, and_true]
      unfold tot at h2
      omega
theorem mput_mem {q : List UInt8} {x : List Int} {e : List UInt8 × List Int} : ∀ {fs : Fs}, e ∈ mput q x fs → e = (q, x) ∨ e ∈ fs
  | [], h => by simpa [mput] using h
  | d :: r, h => by
    unfold mput at h
    split at h
    · rcases List.mem_cons.1 h with rfl | h
      · exact .inl rfl
      · exact .inr (List.mem_cons_of_mem _ h)
    · rcases List.mem_cons.1 h with rfl | h
      · exact .inr (List.mem_cons_self ..)
      · exact (mput_mem h).imp id (List.mem_cons_of_mem _)
theorem mget_mput {q : List UInt8} (x : List Int) : ∀ (fs : Fs), mget q (mput q x fs) = some x
  | [] => by simp [mput, mget]
  | d :: r => by
    unfold mput
    split
    · simp [mget]
    · rename_i hq
      unfold mget
      rw [if_neg hq, mget_mput x r]
theorem mget_app {q : List UInt8} : ∀ {fs gs : Fs}, mget q fs = none → mget q (fs ++ gs) = mget q gs
  | [], gs, _ => rfl
  | d :: r, gs, h => by
    unfold mget at h
    split at h
    · cases h
    · rename_i hq
      rw [List.cons_append, mget, if_neg hq, mget_app h]
theorem mget_app1 {q : List UInt8} {x : List Int} : ∀ {fs gs : Fs}, mget q fs = some x → mget q (fs ++ gs) = some x
  | [], gs, h => by cases h
  | d :: r, gs, h => by
    unfold mget at h
    rw [List.cons_append, mget]
    split at h
    · rename_i hq
      rw [if_pos hq, h]
    · rename_i hq
      rw [if_neg hq, mget_app1 h]
theorem mput_app {q : List UInt8} (x y : List Int) : ∀ {fs : Fs}, mget q fs = none → mput q x (fs ++ [(q, y)]) = fs ++ [(q, x)]
  | [], _ => by simp [mput]
  | d :: r, h => by
    unfold mget at h
    split at h
    · cases h
    · rename_i hq
      rw [List.cons_append, mput, if_neg hq, mput_app x y h]; rfl

theorem mdel_sub {q : List UInt8} : ∀ (fs : Fs), (mdel q fs).Sublist fs
  | [] => .slnil
  | d :: r => by
    unfold mdel
    split
    · exact List.sublist_cons_self ..
    · exact (mdel_sub r).cons_cons _
theorem mdel_tot {q : List UInt8} {x : List Int} : ∀ {fs : Fs}, mget q fs = some x → tot (mdel q fs) + x.length = tot fs
  | [], h => by cases h
  | d :: r, h => by
    unfold mget at h
    unfold mdel
    split at h
    · rename_i hq
      injection h with h
      rw [if_pos hq]
      subst h
      simp [tot]; omega
    · rename_i hq
      rw [if_neg hq]
      have := mdel_tot h
      simp only [tot, List.map_cons, List.sum_cons] at this ⊢
      omega
theorem mdel_none {q : List UInt8} : ∀ {fs : Fs}, (fs.map Prod.fst).Nodup → mget q (mdel q fs) = none
  | [], _ => rfl
  | d :: r, h => by
    simp only [List.map_cons, List.nodup_cons] at h
    unfold mdel
    split
    · rename_i hq
      rw [mget_none]
      intro e he hc
      exact h.1 (by rw [← hq, ← hc]; exact List.mem_map_of_mem he)
    · rename_i hq
      unfold mget
      rw [if_neg hq, mdel_none h.2]
theorem mdel_other {p q : List UInt8} (hpq : p ≠ q) : ∀ (fs : Fs), mget p (mdel q fs) = mget p fs
  | [] => rfl
  | d :: r => by
    unfold mdel
    split
    · rename_i hq
      rw [mget, if_neg (by rw [← hq]; exact hpq)]
    · rw [mget, mget, mdel_other hpq r]
theorem mdel_app {q : List UInt8} {x : List Int} : ∀ {fs gs : Fs}, mget q fs = some x → mdel q (fs ++ gs) = mdel q fs ++ gs
  | [], gs, h => by cases h
  | d :: r, gs, h => by
    unfold mget at h
    rw [List.cons_append, mdel, mdel]
    split at h
    · rename_i hq
      rw [if_pos hq, if_pos hq]
    · rename_i hq
      rw [if_neg hq, if_neg hq, mdel_app h]; rfl

/-- what holds of a disk -/
structure DI (c : Int) (fs : Fs) : Prop where
  nk : (fs.map Prod.fst).Nodup
  tot : c = (tot fs : Int)
  le : Go.T.tot fs ≤ 1048576
  n64 : fs.length ≤ 64
  names : ∀ e, e ∈ fs → e.1.length ≤ 16
  byt : ∀ e, e ∈ fs → Byt e.2

theorem tot_mem {fs : Fs} {e : List UInt8 × List Int} (h : e ∈ fs) : e.2.length ≤ tot fs := by
  induction fs with
  | nil => cases h
  | cons d r ih =>
    simp only [tot, List.map_cons, List.sum_cons] at ih ⊢
    rcases List.mem_cons.1 h with rfl | h
    · omega
    · have := ih h; omega
theorem tot_app (a b : Fs) : tot (a ++ b) = tot a + tot b := by simp [tot]

theorem DI.put {c : Int} {fs : Fs} (h : DI c fs) (q : List UInt8) (b : List Int) (hq : q.length ≤ 16) (hb : Byt b) (hle : Go.T.tot fs + b.length ≤ 1048576) (h64 : mget q fs = none → fs.length < 64) :
    DI (c + (b.length : Int)) (mput q ((mget q fs).getD [] ++ b) fs) := by
  cases hg : mget q fs with
  | none =>
    simp only [Option.getD_none, List.nil_append]
    rw [mput_new b hg]
    have hn := mget_none.1 hg
    refine ⟨?_, ?_, ?_, ?_, ?_, ?_⟩
    · rw [List.map_append, List.map_singleton, List.nodup_append]
      refine ⟨h.nk, by simp, ?_⟩
      intro a ha b' hb' hab
      simp only [List.mem_singleton] at hb'
      obtain ⟨e, he, rfl⟩ := List.mem_map.1 ha
      exact hn e he (hab.trans hb')
    · rw [tot_app, h.tot]; simp [Go.T.tot]
    · rw [tot_app]; simpa [Go.T.tot] using hle
    · have := h64 hg; simp; omega
    · intro e he
      rcases List.mem_append.1 he with he | he
      · exact h.names e he
      · simp only [List.mem_singleton] at he; subst he; exact hq
    · intro e he
      rcases List.mem_append.1 he with he | he
      · exact h.byt e he
      · simp only [List.mem_singleton] at he; subst he; exact hb
  | some y =>
    simp only [Option.getD_some]
    obtain ⟨h1, h2, h3⟩ := mput_keys (y ++ b) y hg
    rw [List.length_append] at h2
    refine ⟨by rw [h1]; exact h.nk, ?_, by omega, by rw [h3]; exact h.n64, ?_, ?_⟩
    · rw [h.tot]; omega
    · intro e he
      rcases mput_mem he with rfl | he
      · exact hq
      · exact h.names e he
    · intro e he
      rcases mput_mem he with rfl | he
      · exact Byt.append (h.byt _ (mget_mem hg)) hb
      · exact h.byt e he

theorem DI.del {c : Int} {fs : Fs} (h : DI c fs) (q : List UInt8) (x : List Int) (hg : mget q fs = some x) : DI (c - (x.length : Int)) (mdel q fs) := by
  have hs := mdel_sub (q := q) fs
  have ht := mdel_tot hg
  refine ⟨h.nk.sublist (hs.map _), ?_, ?_, ?_, fun e he => h.names e (hs.subset he), fun e he => h.byt e (hs.subset he)⟩
  · rw [h.tot]; omega
  · have := h.le; omega
  · have := hs.length_le; have := h.n64; omega
end Go.T
/-
  LWalD1: forgetting what waits.
-/
set_option linter.unusedVariables false
set_option linter.unusedSimpArgs false
namespace Go.T
open Go Go.Ab

/-- what waits under other names -/
def fgt (q : List UInt8) (l : List disk_write) : List disk_write := l.filter fun w => !(w.name == q)

theorem ge0 (n : Nat) : decide ((0 : Int) ≤ (n : Int)) = true := by simp
theorem wadd (i : Nat) (h : i < 9000000000000000000) : IntKind.wrap IntKind.i64 ((i : Int) + 1) = ((i + 1 : Nat) : Int) := by rw [IntKind.wrap_i64]; omega

theorem index_l0 (s : List disk_write) (q : List UInt8) (hs : s.length ≤ 2000000) : ∀ (d i m : Nat), i + d = s.length → d < m →
    (slices_IndexFunc___disk_write_disk_write__l0 FF s q m (i : Int) = some (.inr ()) ∧ ∀ w, w ∈ s.drop i → (w.name == q) = false) ∨
    ∃ k : Nat, slices_IndexFunc___disk_write_disk_write__l0 FF s q m (i : Int) = some (.inl (k : Int)) ∧ i ≤ k ∧ k < s.length ∧ fgt q (s.drop i) = (s.drop i).take (k - i) ++ fgt q (s.drop (k + 1)) := by
  intro d
  induction d with
  | zero =>
    intro i m h hm
    obtain ⟨m, rfl⟩ : ∃ k, m = k + 1 := ⟨m - 1, by omega⟩
    refine .inl ⟨?_, ?_⟩
    · unfold slices_IndexFunc___disk_write_disk_write__l0
      rw [decide_eq_false (by omega), cond_false]
    · intro w hw
      rw [List.drop_of_length_le (by omega)] at hw
      cases hw
  | succ d ih =>
    intro i m h hm
    obtain ⟨m, rfl⟩ : ∃ k, m = k + 1 := ⟨m - 1, by omega⟩
    have hi : i < s.length := by omega
    have hdr := List.drop_eq_getElem_cons hi
    have hstep : slices_IndexFunc___disk_write_disk_write__l0 FF s q (m + 1) (i : Int) = bif ((s[i]).name == q) then some (.inl (i : Int)) else slices_IndexFunc___disk_write_disk_write__l0 FF s q m ((i + 1 : Nat) : Int) := by
      conv => lhs; unfold slices_IndexFunc___disk_write_disk_write__l0
      rw [decide_eq_true (by omega), cond_true, ge0, cond_true, cI, List.getElem?_eq_getElem hi, Option.bind_some]
      unfold __disk_Disk__forget_1
      rw [Option.bind_some, wadd i (by omega)]
    rw [hstep]
    cases hc : ((s[i]).name == q) with
    | true =>
      refine .inr ⟨i, rfl, Nat.le_refl _, hi, ?_⟩
      rw [hdr, Nat.sub_self, List.take_zero, List.nil_append]
      unfold fgt
      rw [List.filter_cons, hc]; rfl
    | false =>
      rcases ih (i + 1) m (by omega) (by omega) with ⟨h1, h2⟩ | ⟨k, h1, h2, h3, h4⟩
      · refine .inl ⟨h1, fun w hw => ?_⟩
        rw [hdr] at hw
        rcases List.mem_cons.1 hw with rfl | hw
        · exact hc
        · exact h2 w hw
      · refine .inr ⟨k, h1, by omega, h3, ?_⟩
        rw [hdr, show k - i = (k - (i + 1)) + 1 by omega, List.take_succ_cons, List.cons_append, ← h4]
        unfold fgt
        rw [List.filter_cons, hc]; rfl

theorem fgt_none {q : List UInt8} {l : List disk_write} (h : ∀ w, w ∈ l → (w.name == q) = false) : fgt q l = l := by
  unfold fgt
  rw [List.filter_eq_self]
  intro w hw
  rw [h w hw]; rfl

theorem delete_l0 (q : List UInt8) : ∀ (d i j m : Nat) (L : List disk_write), L.length ≤ 2000000 → j + d = L.length → i ≤ j → (i = j → d = 0) → d < m →
    ∃ (i' : Nat) (L' : List disk_write), slices_DeleteFunc___disk_write_disk_write__i1_l0 FF q m (i : Int) (j : Int) L = some ((i' : Int), L') ∧ L'.length = L.length ∧ i' ≤ L'.length ∧ L'.take i' = L.take i ++ fgt q (L.drop j) := by
  intro d
  induction d with
  | zero =>
    intro i j m L hL h hij _ hm
    obtain ⟨m, rfl⟩ : ∃ k, m = k + 1 := ⟨m - 1, by omega⟩
    refine ⟨i, L, ?_, rfl, by omega, ?_⟩
    · unfold slices_DeleteFunc___disk_write_disk_write__i1_l0
      rw [decide_eq_false (by omega), cond_false]
    · rw [List.drop_of_length_le (by omega)]; simp [fgt]
  | succ d ih =>
    intro i j m L hL h hij hne hm
    obtain ⟨m, rfl⟩ : ∃ k, m = k + 1 := ⟨m - 1, by omega⟩
    have hj : j < L.length := by omega
    have hi : i < L.length := by omega
    have hlt : i < j := by
      rcases Nat.lt_or_ge i j with h' | h'
      · exact h'
      · have := hne (by omega); omega
    have hdr := List.drop_eq_getElem_cons hj
    cases hc : ((L[j]).name == q) with
    | false =>
      obtain ⟨i', L', h1, h2, h3, h4⟩ := ih (i + 1) (j + 1) m (L.set i L[j]) (by simpa using hL) (by simp; omega) (by omega) (by omega) (by omega)
      refine ⟨i', L', ?_, by simpa using h2, h3, ?_⟩
      · rw [← h1]
        conv => lhs; unfold slices_DeleteFunc___disk_write_disk_write__i1_l0
        rw [decide_eq_true (by omega), cond_true, ge0, cond_true, cI, List.getElem?_eq_getElem hj, Option.bind_some, Option.bind_some]
        unfold __disk_Disk__forget_1_i1
        rw [Option.bind_some, hc, Bool.not_false, cond_true, ge0, cond_true, cI, List.getElem?_eq_getElem hi, Option.bind_some, Option.bind_some, Option.bind_some]
        simp only
        rw [wadd i (by omega), wadd j (by omega)]
      · have e : (L.set i L[j]).drop (j + 1) = L.drop (j + 1) := List.drop_set_of_lt (by omega)
        rw [h4, e, hdr]
        have e2 : (L.set i L[j]).take (i + 1) = L.take i ++ [L[j]] := by
          rw [List.take_set, List.take_add_one, List.getElem?_eq_getElem hi, List.set_append_right _ _ (by simp; omega)]
          simp [Nat.min_eq_left (Nat.le_of_lt hi)]
        rw [e2, List.append_assoc]
        congr 1
        unfold fgt
        rw [List.filter_cons, hc]; rfl
    | true =>
      obtain ⟨i', L', h1, h2, h3, h4⟩ := ih i (j + 1) m L hL (by omega) (by omega) (by omega) (by omega)
      refine ⟨i', L', ?_, h2, h3, ?_⟩
      · rw [← h1]
        conv => lhs; unfold slices_DeleteFunc___disk_write_disk_write__i1_l0
        rw [decide_eq_true (by omega), cond_true, ge0, cond_true, cI, List.getElem?_eq_getElem hj, Option.bind_some, Option.bind_some]
        unfold __disk_Disk__forget_1_i1
        rw [Option.bind_some, hc, Bool.not_true, cond_false, Option.bind_some]
        simp only
        rw [wadd j (by omega)]
      · rw [h4, hdr]
        congr 1
        unfold fgt
        rw [List.filter_cons, hc]; rfl

theorem delete_eq (l : List disk_write) (q : List UInt8) (hl : l.length ≤ 2000000) : slices_DeleteFunc___disk_write_disk_write__i1 FF l q = some (fgt q l) := by
  unfold slices_DeleteFunc___disk_write_disk_write__i1 slices_IndexFunc___disk_write_disk_write_
  rcases index_l0 l q hl l.length 0 FF (by omega) (by show _ < 4000000; omega) with ⟨h1, h2⟩ | ⟨k, h1, h2, h3, h4⟩
  · rw [show slices_IndexFunc___disk_write_disk_write__l0 FF l q FF 0 = some (.inr ()) from h1]
    simp only [Option.bind_some, Sum.elim_inr, beq_self_eq_true, cond_true]
    rw [fgt_none (by simpa using h2)]
  · rw [show slices_IndexFunc___disk_write_disk_write__l0 FF l q FF 0 = some (.inl (k : Int)) from h1]
    simp only [Option.bind_some, Sum.elim_inl]
    rw [show (((k : Int) == -1) = false) from by simp, cond_false, wadd k (by omega)]
    obtain ⟨i', L', g1, g2, g3, g4⟩ := delete_l0 q (l.length - (k + 1)) k (k + 1) FF l hl (by omega) (by omega) (by omega) (by show _ < 4000000; omega)
    rw [g1, Option.bind_some]
    simp only [ge0, cond_true, cI, decide_eq_true g3, decide_eq_true (Nat.le_refl L'.length), List.length_map]
    rw [decide_eq_true (by omega), cond_true, decide_eq_true (by omega), cond_true]
    congr 1
    rw [List.take_append_of_le_length (by rw [List.length_take]; omega), List.take_take, Nat.min_self, g4]
    simpa using h4.symm

theorem forget_eq (q : List UInt8) (c : Int) (fs : Fs) (l : List disk_write) (hl : l.length ≤ 2000000) : __disk_Disk__forget FF q c fs l = some (c, fgt q l) := by
  unfold __disk_Disk__forget
  rw [delete_eq l q hl]; rfl

theorem there_eq (q : List UInt8) (c : Int) (fs : Fs) (l : List disk_write) : __disk_Disk__there FF q c fs l = some (if (mget q fs).isSome then 0 else 80) := by
  unfold __disk_Disk__there
  cases (mget q fs) <;> rfl

theorem sync_none {q : List UInt8} {c : Int} {fs : Fs} {l : List disk_write} (h : mget q fs = none) : __disk_Disk__Sync FF q c fs l = some (80, c, l) := by
  unfold __disk_Disk__Sync
  rw [there_eq, h]; rfl
theorem sync_some {q : List UInt8} {x : List Int} {c : Int} {fs : Fs} {l : List disk_write} (h : mget q fs = some x) (hl : l.length ≤ 2000000) : __disk_Disk__Sync FF q c fs l = some (0, c, fgt q l) := by
  unfold __disk_Disk__Sync
  rw [there_eq, h]
  simp only [Option.isSome_some, if_true, Option.bind_some, beq_self_eq_true, cond_true, forget_eq q c fs l hl]
theorem remove_none {q : List UInt8} {c : Int} {fs : Fs} {l : List disk_write} (h : mget q fs = none) : __disk_Disk__Remove FF q c fs l = some (80, c, fs, l) := by
  unfold __disk_Disk__Remove
  rw [there_eq, h]; rfl
theorem remove_some {q : List UInt8} {x : List Int} {c : Int} {fs : Fs} {l : List disk_write} (h : mget q fs = some x) (hl : l.length ≤ 2000000) (hc : -9000000000000000000 ≤ c - (x.length : Int) ∧ c - (x.length : Int) ≤ 9000000000000000000) : __disk_Disk__Remove FF q c fs l = some (0, c - (x.length : Int), mdel q fs, fgt q l) := by
  unfold __disk_Disk__Remove
  rw [there_eq, h]
  simp only [Option.isSome_some, if_true, Option.bind_some, beq_self_eq_true, cond_true, forget_eq q _ _ l hl, Option.getD_some, List.length_map]
  rw [show IntKind.wrap IntKind.i64 (c - (x.length : Int)) = c - (x.length : Int) by rw [IntKind.wrap_i64]; omega]
theorem clone_eq (x : List Int) (h : x.length ≤ LIM) : slices_Clone___byte_byte__i1 FF x = some x := by
  unfold slices_Clone___byte_byte__i1
  rw [decide_eq_true h, cond_true]
theorem dread_none {q : List UInt8} {c : Int} {fs : Fs} {l : List disk_write} (h : mget q fs = none) : __disk_Disk__Read FF q c fs l = some (.inl (80, [])) := by
  unfold __disk_Disk__Read
  rw [there_eq, h]; rfl
theorem dread_some {q : List UInt8} {x : List Int} {c : Int} {fs : Fs} {l : List disk_write} (h : mget q fs = some x) (hx : x.length ≤ LIM) : __disk_Disk__Read FF q c fs l = some (.inl (0, x)) := by
  unfold __disk_Disk__Read
  rw [there_eq, h]
  simp only [Option.isSome_some, if_true, Option.bind_some, show ((0 : Int) != 0) = false from rfl, cond_false, cond_true, Option.getD_some, clone_eq x hx]
end Go.T
/-
  LWalD2: Append.
-/
set_option linter.unusedVariables false
set_option linter.unusedSimpArgs false
namespace Go.T
open Go Go.Ab

theorem named_l0 (q : List UInt8) (hq : q.length ≤ 2000000) : ∀ (d i m : Nat), i + d = q.length → d < m → disk_named_l0 FF q m (i : Int) = some (.inl false) ∨ disk_named_l0 FF q m (i : Int) = some (.inr ()) := by
  intro d
  induction d with
  | zero =>
    intro i m h hm
    obtain ⟨m, rfl⟩ : ∃ k, m = k + 1 := ⟨m - 1, by omega⟩
    right
    unfold disk_named_l0
    rw [decide_eq_false (by omega), cond_false]
  | succ d ih =>
    intro i m h hm
    obtain ⟨m, rfl⟩ : ∃ k, m = k + 1 := ⟨m - 1, by omega⟩
    have hi := ih (i + 1) m (by omega) (by omega)
    unfold disk_named_l0
    rw [decide_eq_true (by omega), cond_true, ge0, cond_true, cI, List.getElem?_eq_getElem (by rw [List.length_map]; omega), Option.bind_some, Option.bind_some, wadd i (by omega)]
    generalize (List.map (fun (b : UInt8) => (((UInt8.toNat b) : Nat) : Int)) q)[i]'(by rw [List.length_map]; omega) = y
    generalize decide (y < (97 : Int)) = b1
    generalize decide (y < (48 : Int)) = b2
    generalize (y != (45 : Int)) = b3
    generalize (y != (46 : Int)) = b4
    generalize decide ((57 : Int) < y) = b5
    generalize decide ((122 : Int) < y) = b6
    cases b1 <;> cases b2 <;> cases b3 <;> cases b4 <;> cases b5 <;> cases b6 <;> simp only [cond_true, cond_false, Option.bind_some] <;> first | exact hi | exact .inl trivial | exact .inl rfl

theorem named_all (q : List UInt8) (hq : q.length ≤ 2000000) : ∃ ok, disk_named FF q = some ok ∧ (ok = true → q.length ≤ 16) := by
  unfold disk_named
  rw [decide_eq_true (by simp only [LIM]; omega), cond_true]
  rcases named_l0 q hq q.length 0 FF (by omega) (by show _ < 4000000; omega) with h | h
  · rw [show disk_named_l0 FF q FF 0 = _ from h]
    exact ⟨false, rfl, fun q => by cases q⟩
  · rw [show disk_named_l0 FF q FF 0 = _ from h]
    simp only [Option.bind_some, Sum.elim_inr]
    by_cases h1 : (1 : Int) ≤ (q.length : Int)
    · rw [decide_eq_true h1, cond_true]
      refine ⟨_, rfl, fun h => ?_⟩
      have := of_decide_eq_true h
      omega
    · rw [decide_eq_false h1, cond_false]
      exact ⟨_, rfl, fun q => by cases q⟩

theorem append_spec (q : List UInt8) (b : List Int) (c : Int) (fs : Fs) (l : List disk_write) (hq : q.length ≤ 2000000) (hb : b.length ≤ 2000000) (h : DI c fs) (hl : l.length ≤ 2000000) :
    (∃ e, (e = 1 ∨ e = 3) ∧ __disk_Disk__Append FF q b c fs l = some (e, c, fs, l) ∧ (disk_named FF q ≠ some true ∨ 1048576 < tot fs + b.length ∨ (mget q fs = none ∧ 64 ≤ fs.length))) ∨
    (__disk_Disk__Append FF q b c fs l = some (0, c + (b.length : Int), mput q ((mget q fs).getD [] ++ b) fs, l ++ [disk_write.mk q (b.length : Int)]) ∧ q.length ≤ 16 ∧ tot fs + b.length ≤ 1048576 ∧ (mget q fs = none → fs.length < 64)) := by
  obtain ⟨ok, h1, h2⟩ := named_all q hq
  have hc := h.tot
  have hle := h.le
  have h64 := h.n64
  have hw : IntKind.wrap IntKind.i64 (c + (b.length : Int)) = c + (b.length : Int) := by rw [IntKind.wrap_i64]; omega
  have hlf : decide (fs.length + 1 ≤ LIM) = true := decide_eq_true (by simp only [LIM]; omega)
  have hll : decide (l.length + 1 ≤ LIM) = true := decide_eq_true (by simp only [LIM]; omega)
  unfold __disk_Disk__Append
  rw [h1, Option.bind_some]
  cases ok with
  | false => exact .inl ⟨1, .inl rfl, by rw [Bool.not_false, cond_true], .inl (fun q => by injection q with q; cases q)⟩
  | true =>
    rw [Bool.not_true, cond_false]
    cases hg : mget q fs with
    | some x =>
      have hx := tot_mem (mget_mem hg)
      simp only at hx
      simp only [Option.isSome_some, cond_true, Option.getD_some, List.length_map, hw]
      by_cases hf : (1048576 : Int) < c + (b.length : Int)
      · rw [decide_eq_true hf, cond_true]
        exact .inl ⟨3, .inr rfl, rfl, .inr (.inl (by omega))⟩
      · rw [decide_eq_false hf, cond_false, decide_eq_true (by simp only [LIM]; omega), cond_true, hlf, cond_true, hll, cond_true]
        exact .inr ⟨rfl, h2 rfl, by omega, fun q => by cases q⟩
    | none =>
      simp only [Option.isSome_none, cond_false, Option.getD_none, List.nil_append, List.length_map, hw, encF]
      by_cases hf : (64 : Int) ≤ (fs.length : Int)
      · rw [decide_eq_true hf, cond_true, Option.bind_some, cond_true]
        exact .inl ⟨3, .inr rfl, rfl, .inr (.inr ⟨trivial, by omega⟩)⟩
      · rw [decide_eq_false hf, cond_false, Option.bind_some]
        by_cases hf2 : (1048576 : Int) < c + (b.length : Int)
        · rw [decide_eq_true hf2, cond_true]
          exact .inl ⟨3, .inr rfl, rfl, .inr (.inl (by omega))⟩
        · rw [decide_eq_false hf2, cond_false, decide_eq_true (by simp only [LIM]; omega), cond_true, hlf, cond_true, hll, cond_true]
          exact .inr ⟨rfl, h2 rfl, by omega, fun q => by omega⟩

theorem framed_ok (r : List Int) (h : r.length ≤ 65536) : wal_framed FF r = some (frameL r, 0) := by
  unfold wal_framed
  rw [frame_eq r h]; rfl
theorem framed_err (r : List Int) (h : 65536 < r.length) : wal_framed FF r = some ([], 1) := by
  unfold wal_framed code_Frame
  rw [decide_eq_true (by omega), cond_true]; rfl

theorem wappend_spec (r : List Int) (q : List UInt8) (n k : Int) (c : Int) (fs : Fs) (l : List disk_write) (hq : q.length ≤ 2000000) (h : DI c fs) (hl : l.length ≤ 2000000) (hk : 0 ≤ k ∧ k ≤ 2000000) :
    (∃ e, e ≠ 0 ∧ __wal_Wal__Append_i1 FF r q n k c fs l = some (e, q, n, k, c, fs, l) ∧ (65536 < r.length ∨ disk_named FF q ≠ some true ∨ 1048576 < tot fs + (frameL r).length ∨ (mget q fs = none ∧ 64 ≤ fs.length))) ∨
    (__wal_Wal__Append_i1 FF r q n k c fs l = some (0, q, n, k + 1, c + ((frameL r).length : Int), mput q ((mget q fs).getD [] ++ frameL r) fs, l ++ [disk_write.mk q ((frameL r).length : Int)]) ∧ r.length ≤ 65536 ∧ q.length ≤ 16 ∧ tot fs + (frameL r).length ≤ 1048576 ∧ (mget q fs = none → fs.length < 64)) := by
  unfold __wal_Wal__Append_i1
  by_cases hr : r.length ≤ 65536
  · rw [framed_ok r hr, Option.bind_some]
    simp only [show ((0 : Int) != 0) = false from rfl, cond_false]
    have hp := putN_len 9 r.length
    have hp2 : (putL r.length).length ≤ 10 := hp.2
    have hf := frame_len r
    rcases append_spec q (frameL r) c fs l hq (by omega) h hl with ⟨e, he, h1, hwhy⟩ | ⟨h1, h2, h3, h4⟩
    · rw [h1, Option.bind_some]
      refine .inl ⟨3, by decide, ?_, .inr hwhy⟩
      simp only
      rw [show ((e != 0) = true) from by rcases he with rfl | rfl <;> rfl, cond_true]
    · rw [h1, Option.bind_some]
      refine .inr ⟨?_, hr, h2, h3, h4⟩
      simp only [show ((0 : Int) != 0) = false from rfl, cond_false]
      rw [show IntKind.wrap IntKind.i64 (k + 1) = k + 1 by rw [IntKind.wrap_i64]; omega]
  · rw [framed_err r (by omega), Option.bind_some]
    exact .inl ⟨1, by decide, rfl, .inl (by omega)⟩

theorem frames_l0 (recs : List (List Int)) (p : List Int) (hr : recs.length ≤ 1048576) : ∀ (d i m : Nat) (l : List (List Int)), i + d = 1 + recs.length → d < m → l.length = i →
    (wal_frames_l0 FF recs (0, p) m (i : Int) l = some (.inr (l ++ ((p :: recs).drop i).map frameL)) ∧ ∀ x, x ∈ (p :: recs).drop i → x.length ≤ 65536) ∨
    (wal_frames_l0 FF recs (0, p) m (i : Int) l = some (.inl (1, [])) ∧ ∃ x, x ∈ (p :: recs).drop i ∧ 65536 < x.length) := by
  intro d
  induction d with
  | zero =>
    intro i m l h hm hl
    obtain ⟨m, rfl⟩ : ∃ k, m = k + 1 := ⟨m - 1, by omega⟩
    have e : (p :: recs).drop i = [] := List.drop_of_length_le (by rw [List.length_cons]; omega)
    left
    rw [e]
    refine ⟨?_, fun x hx => by cases hx⟩
    unfold wal_frames_l0
    rw [decide_eq_false (by omega), cond_false]
    simp
  | succ d ih =>
    intro i m l h hm hl
    obtain ⟨m, rfl⟩ : ∃ k, m = k + 1 := ⟨m - 1, by omega⟩
    have hi : i < (p :: recs).length := by rw [List.length_cons]; omega
    have hdr := List.drop_eq_getElem_cons hi
    unfold wal_frames_l0
    rw [decide_eq_true (by omega), cond_true, ge0, cond_true, cI]
    simp only [List.singleton_append]
    rw [List.getElem?_eq_getElem hi, Option.bind_some, Option.bind_some, wadd i (by omega), hdr]
    by_cases hx : ((p :: recs)[i]).length ≤ 65536
    · rw [framed_ok _ hx, Option.bind_some]
      simp only [show ((0 : Int) != 0) = false from rfl, cond_false]
      rw [decide_eq_true (by simp only [LIM]; omega), cond_true]
      rcases ih (i + 1) m (l ++ [frameL (p :: recs)[i]]) (by omega) (by omega) (by simp [hl]) with ⟨h1, h2⟩ | ⟨h1, x, h2, h3⟩
      · refine .inl ⟨?_, fun x hx' => ?_⟩
        · rw [h1]; simp
        · rcases List.mem_cons.1 hx' with rfl | hx'
          · exact hx
          · exact h2 x hx'
      · exact .inr ⟨h1, x, List.mem_cons_of_mem _ h2, h3⟩
    · rw [framed_err _ (by omega), Option.bind_some]
      exact .inr ⟨rfl, _, List.mem_cons_self .., by omega⟩

theorem frames_spec (recs : List (List Int)) (hr : recs.length ≤ 1048576) :
    (wal_frames FF recs = some (0, frameL (putL recs.length) :: recs.map frameL) ∧ ∀ x, x ∈ recs → x.length ≤ 65536) ∨
    (wal_frames FF recs = some (1, []) ∧ ∃ x, x ∈ recs ∧ 65536 < x.length) := by
  unfold wal_frames
  rw [List.length_map, encode_one recs.length (by omega), Option.bind_some, decide_eq_true (by simp only [LIM]; omega), cond_true]
  have hp := putN_len 9 recs.length
  have hp2 : (putL recs.length).length ≤ 10 := hp.2
  rcases frames_l0 recs (putL recs.length) hr (1 + recs.length) 0 FF [] (by omega) (by show _ < 4000000; omega) rfl with ⟨h1, h2⟩ | ⟨h1, x, h2, h3⟩
  · left
    rw [show wal_frames_l0 FF recs (0, putL recs.length) FF 0 [] = _ from h1]
    refine ⟨?_, fun x hx => h2 x ?_⟩
    · simp
    · simp [hx]
  · right
    rw [show wal_frames_l0 FF recs (0, putL recs.length) FF 0 [] = _ from h1]
    refine ⟨by simp, x, ?_, h3⟩
    rw [List.drop_zero] at h2
    rcases List.mem_cons.1 h2 with rfl | h2
    · omega
    · exact h2
end Go.T
/-
  LWalD3: Reset.
-/
set_option linter.unusedVariables false
set_option linter.unusedSimpArgs false
namespace Go.T
open Go Go.Ab

def nameL (n : Nat) : List UInt8 := logS ++ Lib.itoa (n : Int)
theorem name_len (n : Nat) (h : n < 10000000000) : (Lib.itoa (n : Int)).length ≤ 10 := by
  rw [itoa_nn]; exact digits_len n 9 h

/-- the walk over the frames, once the file is there -/
theorem reset_l0 (file : List UInt8) (c2 c3 : Int) (FS : List (List Int)) (y1 : List UInt8) (fs : Fs) (hy : y1.length ≤ 10) (hn : mget (logS ++ y1) fs = none) (hF : FS.length ≤ 1048577) (hfr : ∀ x, x ∈ FS → x.length ≤ 70000 ∧ Byt x) :
    ∀ (d i m : Nat) (c : Int) (X : List Int) (l : List disk_write), i + d = FS.length → d < m → DI c (fs ++ [(logS ++ y1, X)]) → l.length ≤ 900000 + i →
    (∃ c' fs' l', __wal_Wal__Reset_l0 FF file c2 c3 (0, FS) y1 m (i : Int) c (fs ++ [(logS ++ y1, X)]) l = some (.inl (3, file, IntKind.wrap IntKind.i64 (c2 + 1), c3, c', fs', l')) ∧ (disk_named FF (logS ++ y1) ≠ some true ∨ 1048576 < tot fs + X.length + (FS.drop i).flatten.length)) ∨
    (∃ E c', __wal_Wal__Reset_l0 FF file c2 c3 (0, FS) y1 m (i : Int) c (fs ++ [(logS ++ y1, X)]) l = some (.inr (c', fs ++ [(logS ++ y1, X ++ (FS.drop i).flatten)], l ++ E)) ∧ (∀ w, w ∈ E → w.name = logS ++ y1) ∧ E.length = d ∧
      DI c' (fs ++ [(logS ++ y1, X ++ (FS.drop i).flatten)])) := by
  intro d
  induction d with
  | zero =>
    intro i m c X l h hm hD hl
    obtain ⟨m, rfl⟩ : ∃ k, m = k + 1 := ⟨m - 1, by omega⟩
    right
    have e : FS.drop i = [] := List.drop_of_length_le (by omega)
    rw [e]
    refine ⟨[], c, ?_, (fun w hw => by cases hw), rfl, by simpa using hD⟩
    unfold __wal_Wal__Reset_l0
    rw [decide_eq_false (by show ¬ (i : Int) < ((FS.length : Nat) : Int); omega), cond_false]
    simp
  | succ d ih =>
    intro i m c X l h hm hD hl
    obtain ⟨m, rfl⟩ : ∃ k, m = k + 1 := ⟨m - 1, by omega⟩
    have hi : i < FS.length := by omega
    have hdr := List.drop_eq_getElem_cons hi
    have hx := hfr _ (List.getElem_mem hi)
    have hg : mget (logS ++ y1) (fs ++ [(logS ++ y1, X)]) = some X := by rw [mget_app hn]; simp [mget]
    have hl4 : logS.length = 4 := rfl
    unfold __wal_Wal__Reset_l0
    simp only
    rw [decide_eq_true (by omega), cond_true, ge0, cond_true, cI, List.getElem?_eq_getElem hi, Option.bind_some, wadd i (by omega), show ([108, 111, 103, 45] : List UInt8) = logS from rfl]
    rcases append_spec (logS ++ y1) FS[i] c _ l (by rw [List.length_append]; omega) (by omega) hD (by omega) with ⟨e, he, h1, hwhy⟩ | ⟨h1, h2, h3, h4⟩
    · rw [h1, Option.bind_some]
      left
      refine ⟨c, fs ++ [(logS ++ y1, X)], l, ?_, ?_⟩
      rotate_left
      · rw [tot_app, hg] at hwhy
        rw [hdr, List.flatten_cons, List.length_append]
        have htx : tot [(logS ++ y1, X)] = X.length := by simp [tot]
        rw [htx] at hwhy
        rcases hwhy with q | q | ⟨q, _⟩
        · exact .inl q
        · exact .inr (by omega)
        · cases q
      simp only
      rw [show ((e != 0) = true) from by rcases he with rfl | rfl <;> rfl, cond_true]
    · have hD2 := hD.put (logS ++ y1) FS[i] h2 hx.2 h3 (fun q => by rw [hg] at q; cases q)
      rw [hg] at h1 hD2
      simp only [Option.getD_some] at h1 hD2
      rw [mput_app _ _ hn] at h1 hD2
      rw [h1, Option.bind_some]
      simp only [show ((0 : Int) != 0) = false from rfl, cond_false]
      rcases ih (i + 1) m _ (X ++ FS[i]) (l ++ [disk_write.mk (logS ++ y1) ((FS[i]).length : Int)]) (by omega) (by omega) hD2 (by simp; omega) with ⟨c', fs', l', g, hwhy⟩ | ⟨E, c', g1, g2, g3, g4⟩
      · refine .inl ⟨c', fs', l', g, ?_⟩
        rw [hdr, List.flatten_cons, List.length_append]
        rw [List.length_append] at hwhy
        rcases hwhy with q | q
        · exact .inl q
        · exact .inr (by omega)
      · refine .inr ⟨disk_write.mk (logS ++ y1) ((FS[i]).length : Int) :: E, c', ?_, fun w hw => ?_, by simp [g3], ?_⟩
        · rw [g1, hdr]; simp only [List.flatten_cons, List.append_assoc, List.singleton_append, List.cons_append, List.nil_append]
        · rcases List.mem_cons.1 hw with rfl | hw
          · rfl
          · exact g2 w hw
        · rw [hdr, List.flatten_cons, ← List.append_assoc]; exact g4

/-- the same from the first frame on -/
theorem reset_l0' (file : List UInt8) (c2 c3 : Int) (x0 : List Int) (FS : List (List Int)) (y1 : List UInt8) (fs : Fs) (c : Int) (l : List disk_write) (hy : y1.length ≤ 10) (hn : mget (logS ++ y1) fs = none) (hF : FS.length ≤ 1048576) (hfr : ∀ x, x ∈ x0 :: FS → x.length ≤ 70000 ∧ Byt x)
    (hD : DI c fs) (hl : l.length ≤ 900000) :
    (∃ c' fs' l', __wal_Wal__Reset_l0 FF file c2 c3 (0, x0 :: FS) y1 FF 0 c fs l = some (.inl (3, file, IntKind.wrap IntKind.i64 (c2 + 1), c3, c', fs', l')) ∧ (disk_named FF (logS ++ y1) ≠ some true ∨ 1048576 < tot fs + x0.length + FS.flatten.length ∨ 64 ≤ fs.length)) ∨
    (∃ E c', __wal_Wal__Reset_l0 FF file c2 c3 (0, x0 :: FS) y1 FF 0 c fs l = some (.inr (c', fs ++ [(logS ++ y1, x0 ++ FS.flatten)], l ++ E)) ∧ (∀ w, w ∈ E → w.name = logS ++ y1) ∧ E.length ≤ 1048577 ∧
      DI c' (fs ++ [(logS ++ y1, x0 ++ FS.flatten)])) := by
  have hx := hfr x0 (List.mem_cons_self ..)
  have hl4 : logS.length = 4 := rfl
  have hstep : __wal_Wal__Reset_l0 FF file c2 c3 (0, x0 :: FS) y1 (3999999 + 1) 0 c fs l = Option.bind (__disk_Disk__Append FF (logS ++ y1) x0 c fs l) fun y_26 =>
      bif (y_26.1 != (0 : Int)) then some (.inl (3, file, IntKind.wrap IntKind.i64 (c2 + 1), c3, y_26.2.1, y_26.2.2.1, y_26.2.2.2)) else __wal_Wal__Reset_l0 FF file c2 c3 (0, x0 :: FS) y1 3999999 ((1 : Nat) : Int) y_26.2.1 y_26.2.2.1 y_26.2.2.2 := by
    conv => lhs; unfold __wal_Wal__Reset_l0
    simp only
    rw [decide_eq_true (by rw [List.length_cons]; omega), cond_true, show decide ((0 : Int) ≤ 0) = true from rfl, cond_true, show Int.toNat 0 = 0 from rfl, List.getElem?_cons_zero, Option.bind_some, show ([108, 111, 103, 45] : List UInt8) = logS from rfl,
      show IntKind.wrap IntKind.i64 ((0 : Int) + 1) = ((1 : Nat) : Int) by rw [IntKind.wrap_i64]; rfl]
  rw [show __wal_Wal__Reset_l0 FF file c2 c3 (0, x0 :: FS) y1 FF 0 c fs l = _ from hstep]
  rcases append_spec (logS ++ y1) x0 c fs l (by rw [List.length_append]; omega) (by omega) hD (by omega) with ⟨e, he, h1, hwhy⟩ | ⟨h1, h2, h3, h4⟩
  · rw [h1, Option.bind_some]
    left
    refine ⟨c, fs, l, ?_, ?_⟩
    rotate_left
    · rcases hwhy with q | q | ⟨_, q⟩
      · exact .inl q
      · exact .inr (.inl (by omega))
      · exact .inr (.inr q)
    simp only
    rw [show ((e != 0) = true) from by rcases he with rfl | rfl <;> rfl, cond_true]
  · have hD2 := hD.put (logS ++ y1) x0 h2 hx.2 h3 h4
    rw [hn] at h1 hD2
    simp only [Option.getD_none, List.nil_append] at h1 hD2
    rw [mput_new _ hn] at h1 hD2
    rw [h1, Option.bind_some]
    simp only [show ((0 : Int) != 0) = false from rfl, cond_false]
    rcases reset_l0 file c2 c3 (x0 :: FS) y1 fs hy hn (by rw [List.length_cons]; omega) hfr FS.length 1 3999999 _ x0 (l ++ [disk_write.mk (logS ++ y1) (x0.length : Int)]) (by rw [List.length_cons]; omega) (by omega) hD2 (by simp; omega) with ⟨c', fs', l', g, hwhy⟩ | ⟨E, c', g1, g2, g3, g4⟩
    · refine .inl ⟨c', fs', l', g, ?_⟩
      rcases hwhy with q | q
      · exact .inl q
      · exact .inr (.inl (by simpa using q))
    · refine .inr ⟨disk_write.mk (logS ++ y1) (x0.length : Int) :: E, c', ?_, fun w hw => ?_, by simp [g3]; omega, g4⟩
      · rw [g1]; simp
      · rcases List.mem_cons.1 hw with rfl | hw
        · rfl
        · exact g2 w hw

def base (file : List UInt8) (fs : Fs) : Fs := if file = [] then fs else mdel file fs

theorem reset_spec (recs : List (List Int)) (file : List UInt8) (last : Nat) (c3 c : Int) (fs : Fs) (l : List disk_write) (hr : recs.length ≤ 1048576) (hB : ∀ x, x ∈ recs → Byt x) (hlast : last ≤ 999999999) (hD : DI c fs) (hl : l.length ≤ 900000)
    (hfresh : ∀ n : Nat, last < n → n ≤ 999999999 → mget (nameL n) fs = none) (hfile : file = [] ∨ ∃ x, mget file fs = some x) :
    (__wal_Wal__Reset FF recs file last c3 c fs l = some ((1 : Int), file, (last : Int), c3, c, fs, l) ∧ ∃ x, x ∈ recs ∧ 65536 < x.length) ∨
    (∃ c2 c' fs' l', __wal_Wal__Reset FF recs file last c3 c fs l = some ((3 : Int), file, c2, c3, c', fs', l') ∧ (numberL (nameL (last + 1)) = 0 ∨ disk_named FF (nameL (last + 1)) ≠ some true ∨ 1048576 < tot fs + (logL recs.length recs []).length ∨ 64 ≤ fs.length)) ∨
    (Recs recs ∧ last + 1 ≤ 999999999 ∧ ∃ c' l', __wal_Wal__Reset FF recs file last c3 c fs l = some ((0 : Int), nameL (last + 1), ((last + 1 : Nat) : Int), (recs.length : Int), c', base file fs ++ [(nameL (last + 1), logL recs.length recs [])], l') ∧
      DI c' (base file fs ++ [(nameL (last + 1), logL recs.length recs [])]) ∧ (∀ w, w ∈ l' → w ∈ l ∧ w.name ≠ nameL (last + 1) ∧ (file ≠ [] → w.name ≠ file)) ∧ l'.length ≤ l.length) := by
  unfold __wal_Wal__Reset
  rcases frames_spec recs hr with ⟨h1, h2⟩ | ⟨h1, h2⟩
  · right
    have hR : Recs recs := fun x hx => ⟨h2 x hx, hB x hx⟩
    have hil := name_len (last + 1) (by omega)
    rw [h1, Option.bind_some]
    simp only [show ((0 : Int) != 0) = false from rfl, cond_false]
    rw [wadd last (by omega)]
    unfold strconv_Itoa
    rw [decide_eq_true (by omega), cond_true, Option.bind_some, show ([108, 111, 103, 45] : List UInt8) = logS from rfl, decide_eq_true (by show 4 + _ ≤ _; omega), cond_true]
    unfold wal_number
    rw [decide_eq_true (by rw [List.length_append]; show 4 + _ ≤ 1073741824; omega), cond_true, Option.bind_some]
    by_cases hz : numberL (logS ++ Lib.itoa ((last + 1 : Nat) : Int)) = 0
    · rw [hz]
      left
      exact ⟨_, c, fs, l, by rw [show (((0 : Int) == 0) = true) from rfl, cond_true], .inl hz⟩
    · rw [show (numberL (logS ++ Lib.itoa ((last + 1 : Nat) : Int)) == 0) = false by simpa using hz, cond_false]
      obtain ⟨n, n1, n2, n3, n4⟩ := number_inv hz
      have hn : n = last + 1 := (itoa_inj (by omega) (by omega) (List.append_cancel_left n4)).symm
      subst hn
      have hnew := hfresh (last + 1) (by omega) n3
      have hp := putN_len 9 recs.length
      have hp2 : (putL recs.length).length ≤ 10 := hp.2
      have hfr : ∀ x, x ∈ frameL (putL recs.length) :: recs.map frameL → x.length ≤ 70000 ∧ Byt x := by
        intro x hx
        rcases List.mem_cons.1 hx with rfl | hx
        · exact ⟨by rw [frame_len]; have h9 := putN_len 9 (putL recs.length).length; have h10 : (putL (putL recs.length).length).length ≤ 10 := h9.2; omega, frame_byt _ (putN_byt _ _)⟩
        · obtain ⟨r, hr', rfl⟩ := List.mem_map.1 hx
          have := hR r hr'
          have h9 := putN_len 9 r.length
          have h10 : (putL r.length).length ≤ 10 := h9.2
          exact ⟨by rw [frame_len]; omega, frame_byt _ this.2⟩
      have hX : frameL (putL recs.length) ++ (recs.map frameL).flatten = logL recs.length recs [] := by
        unfold logL; rw [List.append_nil, List.flatMap_def]
      rcases reset_l0' file (last : Int) c3 (frameL (putL recs.length)) (recs.map frameL) (Lib.itoa ((last + 1 : Nat) : Int)) fs c l hil hnew (by simpa using hr) hfr hD hl with ⟨c', fs', l', g, hwhy⟩ | ⟨E, c', g1, g2, g3, g4⟩
      · left
        rw [g]
        rw [Nat.add_assoc, ← List.length_append, hX] at hwhy
        exact ⟨_, c', fs', l', rfl, .inr hwhy⟩
      · right
        rw [hX] at g1 g4
        rw [g1]
        simp only [Option.bind_some, Sum.elim_inr, List.length_map]
        have hgN : mget (nameL (last + 1)) (fs ++ [(nameL (last + 1), logL recs.length recs [])]) = some (logL recs.length recs []) := by rw [mget_app hnew]; simp [mget]
        rw [show logS ++ Lib.itoa ((last + 1 : Nat) : Int) = nameL (last + 1) from rfl] at *
        rw [sync_some hgN (by rw [List.length_append]; omega), Option.bind_some]
        simp only
        have hf0 : fgt (nameL (last + 1)) (l ++ E) = fgt (nameL (last + 1)) l := by
          unfold fgt
          rw [List.filter_append]
          have : E.filter (fun w => !(w.name == nameL (last + 1))) = [] := by
            rw [List.filter_eq_nil_iff]
            intro w hw
            rw [g2 w hw]; simp
          rw [this, List.append_nil]
        rw [hf0]
        refine ⟨hR, n3, ?_⟩
        have hsub : ∀ (q : List UInt8) (k : List disk_write), ∀ w, w ∈ fgt q k → w ∈ k ∧ w.name ≠ q := by
          intro q k w hw
          have := List.mem_filter.1 hw
          exact ⟨this.1, by simpa using this.2⟩
        have hlen : ∀ (q : List UInt8) (k : List disk_write), (fgt q k).length ≤ k.length := fun q k => List.length_filter_le ..
        rcases hfile with rfl | ⟨x, hx⟩
        · rw [show (!(([] : List UInt8) == [])) = false from rfl, cond_false, Option.bind_some]
          refine ⟨c', fgt (nameL (last + 1)) l, ?_, ?_, fun w hw => ?_, hlen _ _⟩
          · simp only [base, if_true]
          · simp only [base, if_true]; exact g4
          · exact ⟨(hsub _ _ w hw).1, (hsub _ _ w hw).2, fun q => absurd rfl q⟩
        · by_cases hfe : file = []
          · subst hfe
            rw [show (!(([] : List UInt8) == [])) = false from rfl, cond_false, Option.bind_some]
            refine ⟨c', fgt (nameL (last + 1)) l, ?_, ?_, fun w hw => ?_, hlen _ _⟩
            · simp only [base, if_true]
            · simp only [base, if_true]; exact g4
            · exact ⟨(hsub _ _ w hw).1, (hsub _ _ w hw).2, fun q => absurd rfl q⟩
          · rw [show (!(file == [])) = true by simpa using hfe, cond_true]
            have hx2 := mget_app1 (gs := [(nameL (last + 1), logL recs.length recs [])]) hx
            have hxl := tot_mem (mget_mem hx2)
            simp only at hxl
            have t1 := g4.tot
            have t2 := g4.le
            have := hlen (nameL (last + 1)) l
            rw [remove_some hx2 (by omega) (by omega), Option.bind_some]
            have hD3 := g4.del file x hx2
            rw [mdel_app hx] at hD3
            refine ⟨_, fgt file (fgt (nameL (last + 1)) l), ?_, by rw [base, if_neg hfe]; exact hD3, fun w hw => ?_, by have := hlen file (fgt (nameL (last + 1)) l); omega⟩
            · simp only
              rw [mdel_app hx, Option.bind_some, base, if_neg hfe]
            · have a1 := hsub _ _ w hw
              have a2 := hsub _ _ w a1.1
              exact ⟨a2.1, a2.2, fun _ => a1.2⟩
  · left
    rw [h1, Option.bind_some]
    exact ⟨rfl, h2⟩
end Go.T
/-
  LWalE0: Open, first part: the numbers, one step, the end.
-/
set_option linter.unusedVariables false
set_option linter.unusedSimpArgs false
namespace Go.T
open Go Go.Ab

theorem name_inj {a b : Nat} (ha : a ≤ 999999999) (hb : b ≤ 999999999) (h : nameL a = nameL b) : a = b := itoa_inj (by omega) (by omega) (List.append_cancel_left h)
theorem name_num {n : Nat} (h1 : 1 ≤ n) (h2 : n ≤ 999999999) : numberL (nameL n) = n := number_log n h1 h2
theorem name_ne (n : Nat) : nameL n ≠ [] := by unfold nameL logS; simp
theorem num_name {s : List UInt8} (h : numberL s ≠ 0) : ∃ n : Nat, numberL s = n ∧ 1 ≤ n ∧ n ≤ 999999999 ∧ s = nameL n := number_inv h
theorem num_pos (s : List UInt8) : 0 < numberL s ↔ numberL s ≠ 0 := by
  constructor
  · intro h; omega
  · intro h
    obtain ⟨n, h1, h2, _⟩ := num_name h
    omega

theorem open_l0 (ns : List (List UInt8)) (hn : ns.length ≤ 1000) (hlen : ∀ s, s ∈ ns → s.length ≤ 16) : ∀ (d i m : Nat) (l : List Int), i + d = ns.length → d < m → l.length ≤ i →
    wal_Open_l0 FF ns m (i : Int) l = some (l ++ ((ns.drop i).map numberL).filter fun z => decide (0 < z)) := by
  intro d
  induction d with
  | zero =>
    intro i m l h hm hl
    obtain ⟨m, rfl⟩ : ∃ k, m = k + 1 := ⟨m - 1, by omega⟩
    have e : ns.drop i = [] := List.drop_of_length_le (by omega)
    unfold wal_Open_l0
    rw [decide_eq_false (by omega), cond_false, e]
    simp
  | succ d ih =>
    intro i m l h hm hl
    obtain ⟨m, rfl⟩ : ∃ k, m = k + 1 := ⟨m - 1, by omega⟩
    have hi : i < ns.length := by omega
    have hdr := List.drop_eq_getElem_cons hi
    have hs := hlen _ (List.getElem_mem hi)
    unfold wal_Open_l0 wal_number
    rw [decide_eq_true (by omega), cond_true, ge0, cond_true, cI, List.getElem?_eq_getElem hi, Option.bind_some, decide_eq_true (by simp only [LIM]; omega), cond_true, Option.bind_some, hdr, List.map_cons, wadd i (by omega)]
    by_cases hz : 0 < numberL ns[i]
    · rw [decide_eq_true hz, cond_true, decide_eq_true (by simp only [LIM]; omega), cond_true, Option.bind_some, ih (i + 1) m _ (by omega) (by omega) (by simp; omega), List.filter_cons, decide_eq_true hz, if_pos rfl]
      simp
    · rw [decide_eq_false hz, cond_false, Option.bind_some, ih (i + 1) m _ (by omega) (by omega) (by omega), List.filter_cons, decide_eq_false hz, if_neg (by simp)]

/-- the numbers of the logs, in the order Open takes them -/
def numsO (fs : Fs) : List Int := (sortI (((sortS (fs.map Prod.fst)).map numberL).filter fun z => decide (0 < z))).reverse

theorem numsO_mem (fs : Fs) (z : Int) : z ∈ numsO fs ↔ 0 < z ∧ ∃ e, e ∈ fs ∧ numberL e.1 = z := by
  unfold numsO
  rw [List.mem_reverse, (sortI_perm _).mem_iff, List.mem_filter, List.mem_map]
  constructor
  · rintro ⟨⟨s, h1, h2⟩, h3⟩
    rw [(sortS_perm _).mem_iff] at h1
    obtain ⟨e, he, rfl⟩ := List.mem_map.1 h1
    exact ⟨of_decide_eq_true h3, e, he, h2⟩
  · rintro ⟨h1, e, he, h2⟩
    exact ⟨⟨e.1, (sortS_perm _).mem_iff.2 (List.mem_map_of_mem he), h2⟩, decide_eq_true h1⟩

theorem numsO_nodup (fs : Fs) (h : (fs.map Prod.fst).Nodup) : (numsO fs).Nodup := by
  unfold numsO
  rw [(List.reverse_perm _).nodup_iff, (sortI_perm _).nodup_iff, List.filter_map]
  have h1 : (sortS (fs.map Prod.fst)).Nodup := (sortS_perm _).nodup_iff.2 h
  unfold List.Nodup at h1 ⊢
  rw [List.pairwise_map]
  refine (h1.filter _).imp_of_mem ?_
  intro a b ha hb hab he
  have ha := of_decide_eq_true (List.mem_filter.1 ha).2
  have hb := of_decide_eq_true (List.mem_filter.1 hb).2
  obtain ⟨n, n1, n2, n3, n4⟩ := num_name ((num_pos a).1 ha)
  obtain ⟨k, k1, k2, k3, k4⟩ := num_name ((num_pos b).1 hb)
  apply hab
  rw [n4, k4]
  congr 1
  omega

theorem numsO_nat (fs : Fs) (h : (fs.map Prod.fst).Nodup) : ∃ zs : List Nat, numsO fs = zs.map (fun n : Nat => (n : Int)) ∧ zs.Nodup ∧ (∀ z, z ∈ zs → 1 ≤ z ∧ z ≤ 999999999 ∧ ∃ x, mget (nameL z) fs = some x) ∧
    (∀ e, e ∈ fs → numberL e.1 ≠ 0 → ∃ z, z ∈ zs ∧ e.1 = nameL z) := by
  have hm := numsO_mem fs
  refine ⟨(numsO fs).map Int.toNat, ?_, ?_, ?_, ?_⟩
  · rw [List.map_map]
    symm
    have : ∀ z, z ∈ numsO fs → ((fun n : Nat => (n : Int)) ∘ Int.toNat) z = id z := by
      intro z hz
      have := ((hm z).1 hz).1
      show ((z.toNat : Nat) : Int) = z
      omega
    rw [List.map_congr_left this, List.map_id]
  · have hn := numsO_nodup fs h
    unfold List.Nodup at hn ⊢
    rw [List.pairwise_map]
    refine hn.imp_of_mem ?_
    intro a b ha hb hab he
    have := ((hm a).1 ha).1
    have := ((hm b).1 hb).1
    omega
  · intro z hz
    obtain ⟨y, hy, rfl⟩ := List.mem_map.1 hz
    obtain ⟨h1, e, he, h2⟩ := (hm y).1 hy
    obtain ⟨n, n1, n2, n3, n4⟩ := num_name (show numberL e.1 ≠ 0 by omega)
    have : y.toNat = n := by omega
    rw [this]
    exact ⟨n2, n3, e.2, by rw [← n4]; exact mget_nk h he⟩
  · intro e he hz
    obtain ⟨n, n1, n2, n3, n4⟩ := num_name hz
    refine ⟨n, List.mem_map.2 ⟨(n : Int), (hm n).2 ⟨by omega, e, he, n1⟩, by omega⟩, n4⟩

/-- what Open does once it has looked at the logs -/
def openFin (s : Int × Fs × List (List Int) × Bool × List disk_write × List UInt8 × Int × Int) : Option ((Int × Int × Fs × (List (List Int)) × (List disk_write)) ⊕ ((List (List Int)) × Int × Int × Fs × (List UInt8) × Int × Int × (List disk_write))) :=
  Option.bind (
    (bif (!s.2.2.2.1) then (
      (Option.bind (__wal_Wal__Reset FF s.2.2.1 s.2.2.2.2.2.1 s.2.2.2.2.2.2.1 s.2.2.2.2.2.2.2 s.1 s.2.1 s.2.2.2.2.1) fun y_68 => (
        (bif (y_68.1 != (0 : Int)) then (
          some (Sum.inl (Sum.inl (y_68.1, y_68.2.2.2.2.1, y_68.2.2.2.2.2.1, [], y_68.2.2.2.2.2.2)))
        ) else (
          some (Sum.inr (y_68.2.2.2.2.1, y_68.2.2.2.2.2.1, y_68.2.2.2.2.2.2, y_68.2.1, y_68.2.2.1, y_68.2.2.2.1))
        ))
      ))
    ) else (
      some (Sum.inr (s.1, s.2.1, s.2.2.2.2.1, s.2.2.2.2.2.1, s.2.2.2.2.2.2.1, s.2.2.2.2.2.2.2))
    ))
  ) fun o8 => Sum.elim (fun r => some r) (fun (c_62, fs_63, l_64, c_65, c_66, c_67) => (
    some (Sum.inr (s.2.2.1, (0 : Int), c_62, fs_63, c_65, c_66, c_67, l_64))
  )) o8

theorem open_eq (c : Int) (fs : Fs) (l : List disk_write) (h : DI c fs) : wal_Open FF c fs l = Option.bind (wal_Open_r1 FF (numsO fs) c fs [] false l [] 0 0) openFin := by
  have h64 := h.n64
  have hall : (List.all fs fun e => decide (e.1.length ≤ LIM)) = true := by
    rw [List.all_eq_true]
    intro e he
    have := h.names e he
    exact decide_eq_true (by simp only [LIM]; omega)
  have hsl : (sortS (fs.map Prod.fst)).length = fs.length := by rw [(sortS_perm _).length_eq, List.length_map]
  unfold wal_Open __disk_Disk__Names
  rw [decide_eq_true (by exact ⟨by simp only [LIM]; omega, hall⟩), cond_true, Option.bind_some]
  have h0 := open_l0 (sortS (fs.map Prod.fst)) (by omega) (by
    intro s hs
    rw [(sortS_perm _).mem_iff] at hs
    obtain ⟨e, he, rfl⟩ := List.mem_map.1 hs
    exact h.names e he) fs.length 0 FF [] (by omega) (by show _ < 4000000; omega) (by simp)
  rw [show wal_Open_l0 FF (sortS (fs.map Prod.fst)) FF 0 [] = _ from h0]
  simp only [Option.bind_some, List.drop_zero, List.nil_append]
  unfold slices_Sort___int_int__i1
  rw [decide_eq_true (by have := List.length_filter_le (fun z => decide ((0 : Int) < z)) ((sortS (fs.map Prod.fst)).map numberL); rw [List.length_map] at this; simp only [LIM]; omega), cond_true, Option.bind_some]
  unfold slices_Backward___int_int_
  rw [Option.bind_some]
  rfl

theorem fin_clean (c : Int) (fs : Fs) (rs : List (List Int)) (l : List disk_write) (file : List UInt8) (last cnt : Int) : openFin (c, fs, rs, true, l, file, last, cnt) = some (.inr (rs, 0, c, fs, file, last, cnt, l)) := rfl
theorem fin_full {c : Int} {fs : Fs} {rs : List (List Int)} {l : List disk_write} {file f' : List UInt8} {last cnt c2 c3 c' : Int} {fs' : Fs} {l' : List disk_write} (h : __wal_Wal__Reset FF rs file last cnt c fs l = some (3, f', c2, c3, c', fs', l')) :
    openFin (c, fs, rs, false, l, file, last, cnt) = some (.inl (3, c', fs', [], l')) := by
  unfold openFin
  simp only [Bool.not_false, cond_true, h, Option.bind_some, show ((3 : Int) != 0) = true from rfl, Sum.elim_inl]
theorem fin_ok {c : Int} {fs : Fs} {rs : List (List Int)} {l : List disk_write} {file f' : List UInt8} {last cnt c2 c3 c' : Int} {fs' : Fs} {l' : List disk_write} (h : __wal_Wal__Reset FF rs file last cnt c fs l = some (0, f', c2, c3, c', fs', l')) :
    openFin (c, fs, rs, false, l, file, last, cnt) = some (.inr (rs, 0, c', fs', f', c2, c3, l')) := by
  unfold openFin
  simp only [Bool.not_false, cond_true, h, Option.bind_some, show ((0 : Int) != 0) = false from rfl, cond_false, Sum.elim_inr]

def mx (z : Nat) (last : Int) : Int := if (z : Int) > last then (z : Int) else last
/-- one log -/
theorem r1_step (z : Nat) (hz : z ≤ 999999999) (rr : List Int) (c : Int) (fs : Fs) (rs0 : List (List Int)) (cl : Bool) (l : List disk_write) (file : List UInt8) (last cnt : Int) (h : DI c fs) (hl : l.length ≤ 2000000) (x : List Int) (hx : mget (nameL z) fs = some x)
    (size : Nat) (whole : Bool) (rs : List (List Int)) (hr : wal_read FF x = some ((size : Int), whole, rs)) :
    wal_Open_r1 FF ((z : Int) :: rr) c fs rs0 cl l file last cnt =
      if file ≠ [] ∨ whole = false then wal_Open_r1 FF rr (c - (x.length : Int)) (mdel (nameL z) fs) rs0 cl (fgt (nameL z) l) file (mx z last) cnt
      else wal_Open_r1 FF rr c fs rs (decide (size = x.length)) l (nameL z) (mx z last) (rs.length : Int) := by
  have hxl := tot_mem (mget_mem hx)
  simp only at hxl
  have ht := h.tot
  have hle := h.le
  have hil := name_len z (by omega)
  have hxL : x.length ≤ LIM := by simp only [LIM]; omega
  conv => lhs; unfold wal_Open_r1
  unfold strconv_Itoa
  rw [decide_eq_true (by omega), cond_true, Option.bind_some, show ([108, 111, 103, 45] : List UInt8) = logS from rfl, decide_eq_true (by show 4 + _ ≤ _; omega), cond_true, show logS ++ Lib.itoa (z : Int) = nameL z from rfl,
    dread_some hx hxL, Option.bind_some]
  simp only [Sum.elim_inl, hr, Option.bind_some, List.length_map]
  rw [show (if (z : Int) > last then (z : Int) else last) = mx z last from rfl]
  rw [remove_some hx hl (by omega)]
  by_cases hf : file = []
  · subst hf
    cases whole with
    | true =>
      rw [if_neg (by rintro (q | q); exact q rfl; cases q)]
      simp only [beq_self_eq_true, Bool.not_true, cond_false, Option.bind_some]
      congr 1
      by_cases hs : size = x.length
      · rw [hs]; simp
      · rw [decide_eq_false hs]
        simp only [beq_eq_false_iff_ne, ne_eq]
        omega
    | false =>
      rw [if_pos (.inr rfl)]
      simp only [beq_self_eq_true, Bool.not_true, Bool.not_false, cond_false, cond_true, Option.bind_some]
  · rw [if_pos (Or.inl hf), show (!(file == [])) = true by simpa using hf]
    simp only [cond_true, Option.bind_some]
end Go.T
/-
  LWalE1: Open on a disk with one log; what a crash leaves; lists that are the same.
-/
set_option linter.unusedVariables false
set_option linter.unusedSimpArgs false
namespace Go.T
open Go Go.Ab

/-- one log alone -/
def Only (fs : Fs) (n : Nat) : Prop := ∀ e, e ∈ fs → numberL e.1 ≠ 0 → e.1 = nameL n

theorem nums_one {c : Int} {fs : Fs} {n : Nat} {X : List Int} (hD : DI c fs) (h1 : 1 ≤ n) (h2 : n ≤ 999999999) (hX : mget (nameL n) fs = some X) (ho : Only fs n) : numsO fs = [(n : Int)] := by
  obtain ⟨zs, z1, z2, z3, z4⟩ := numsO_nat fs hD.nk
  have hall : ∀ z, z ∈ zs → z = n := by
    intro z hz
    obtain ⟨a, b, x, hx⟩ := z3 z hz
    have := ho _ (mget_mem hx) (by simp only; rw [name_num a b]; omega)
    exact name_inj b h2 this
  have hin : n ∈ zs := by
    obtain ⟨z, hz, he⟩ := z4 _ (mget_mem hX) (by simp only; rw [name_num h1 h2]; omega)
    rw [hall z hz] at hz
    exact hz
  rw [z1]
  match zs, z2, hall, hin with
  | [a], _, hall, _ => rw [hall a (List.mem_cons_self ..)]; rfl
  | a :: b :: r, z2, hall, _ =>
    exfalso
    rw [hall a (List.mem_cons_self ..), hall b (List.mem_cons_of_mem _ (List.mem_cons_self ..))] at z2
    simp at z2

theorem mx0 (n : Nat) (h : 1 ≤ n) : mx n 0 = n := by unfold mx; rw [if_pos (by omega)]

theorem fresh_one {fs : Fs} {n : Nat} (h2 : n ≤ 999999999) (ho : Only fs n) : ∀ k : Nat, n < k → k ≤ 999999999 → mget (nameL k) fs = none := by
  intro k hk hk2
  cases hg : mget (nameL k) fs with
  | none => rfl
  | some x =>
    have := ho _ (mget_mem hg) (by simp only; rw [name_num (by omega) hk2]; omega)
    have := name_inj hk2 h2 this
    omega

theorem open_one (c : Int) (fs : Fs) (l : List disk_write) (n : Nat) (X : List Int) (size : Nat) (rs : List (List Int)) (hD : DI c fs) (hl : l.length ≤ 900000) (h1 : 1 ≤ n) (h2 : n ≤ 999999999) (hX : mget (nameL n) fs = some X) (ho : Only fs n)
    (hr : wal_read FF X = some ((size : Int), true, rs)) (hR : Recs rs) (hrl : rs.length ≤ X.length) :
    (size = X.length ∧ wal_Open FF c fs l = some (.inr (rs, 0, c, fs, nameL n, (n : Int), (rs.length : Int), l))) ∨
    (size ≠ X.length ∧ ((∃ c' fs' l', wal_Open FF c fs l = some (.inl (3, c', fs', [], l')) ∧ (numberL (nameL (n + 1)) = 0 ∨ disk_named FF (nameL (n + 1)) ≠ some true ∨ 1048576 < tot fs + (logL rs.length rs []).length ∨ 64 ≤ fs.length)) ∨
      ∃ c' l', wal_Open FF c fs l = some (.inr (rs, 0, c', mdel (nameL n) fs ++ [(nameL (n + 1), logL rs.length rs [])], nameL (n + 1), ((n + 1 : Nat) : Int), (rs.length : Int), l')) ∧ n + 1 ≤ 999999999 ∧
        DI c' (mdel (nameL n) fs ++ [(nameL (n + 1), logL rs.length rs [])]) ∧ (∀ w, w ∈ l' → w ∈ l ∧ w.name ≠ nameL n) ∧ l'.length ≤ l.length)) := by
  have hxl := tot_mem (mget_mem hX)
  simp only at hxl
  have hle := hD.le
  rw [open_eq c fs l hD, nums_one hD h1 h2 hX ho, r1_step n h2 [] c fs [] false l [] 0 0 hD (by omega) X hX size true rs hr, if_neg (by rintro (q | q); exact q rfl; cases q), mx0 n h1]
  unfold wal_Open_r1
  rw [Option.bind_some]
  by_cases hs : size = X.length
  · rw [decide_eq_true hs]
    exact .inl ⟨hs, fin_clean ..⟩
  · rw [decide_eq_false hs]
    refine .inr ⟨hs, ?_⟩
    rcases reset_spec rs (nameL n) n (rs.length : Int) c fs l (by omega) (fun x hx => (hR x hx).2) h2 hD hl (fresh_one h2 ho) (.inr ⟨X, hX⟩) with ⟨g, x, hx, hx2⟩ | ⟨c2, c', fs', l', g, hwhy⟩ | ⟨g1, g2, c', l', g, g3, g4, g5⟩
    · have := (hR x hx).1
      omega
    · exact .inl ⟨c', fs', l', fin_full g, hwhy⟩
    · right
      have hb : base (nameL n) fs = mdel (nameL n) fs := by unfold base; rw [if_neg (name_ne n)]
      rw [hb] at g g3
      exact ⟨c', l', fin_ok g, g2, g3, fun w hw => ⟨(g4 w hw).1, (g4 w hw).2.2 (name_ne n)⟩, g5⟩

/-! what a crash leaves -/
def wv (N : List UInt8) (r : List Int) : disk_write := disk_write.mk N ((frameL r).length : Int)

theorem crash_end (keep torn : Int) (l : List disk_write) (K : Nat) (hK : (if ((l.length : Int) < (if (0 : Int) > keep then (0 : Int) else keep)) then (l.length : Int) else (if (0 : Int) > keep then (0 : Int) else keep)) = (K : Int)) (m : Nat) (i c : Int) (fs : Fs) (h : i < K) :
    __disk_Disk__Crash_l0 FF keep torn l (m + 1) i c fs = some (c, fs) := by
  unfold __disk_Disk__Crash_l0
  rw [hK, decide_eq_false (by omega), cond_false]

theorem crash_l0 (keep torn : Int) (N : List UInt8) (P : List Int) (pend : List (List Int)) (hp : Recs pend) (hpl : pend.length ≤ 2000000) (K T : Nat) (hK : (if (((pend.map (wv N)).length : Int) < (if (0 : Int) > keep then (0 : Int) else keep)) then ((pend.map (wv N)).length : Int) else (if (0 : Int) > keep then (0 : Int) else keep)) = (K : Int))
    (hT : (if (0 : Int) > torn then (0 : Int) else torn) = (T : Int)) :
    ∀ (j m : Nat) (i c : Int), i = (j : Int) - 1 → j + 1 < m → j ≤ pend.length → (P ++ (pend.take j).flatMap frameL).length ≤ 1048576 → c = ((P ++ (pend.take j).flatMap frameL).length : Int) →
    ∃ (j' : Nat) (t : List Int) (c' : Int), j' ≤ pend.length ∧ Un t ∧ Byt t ∧ __disk_Disk__Crash_l0 FF keep torn (pend.map (wv N)) m i c [(N, P ++ (pend.take j).flatMap frameL)] = some (c', [(N, P ++ (pend.take j').flatMap frameL ++ t)]) ∧ c' = ((P ++ (pend.take j').flatMap frameL ++ t).length : Int) ∧
      (P ++ (pend.take j').flatMap frameL ++ t).length ≤ 1048576 ∧ (∀ r, pend[K]? = some r → K < j → T < (frameL r).length → j' = K ∧ t.length = T) ∧ (j = 0 → t = []) := by
  intro j
  induction j with
  | zero =>
    intro m i c hi hm hj hY hc
    obtain ⟨m, rfl⟩ : ∃ k, m = k + 1 := ⟨m - 1, by omega⟩
    refine ⟨0, [], c, by omega, un_nil, Byt.nil, ?_, by simpa using hc, by simpa using hY, fun r _ q => by omega, fun _ => rfl⟩
    rw [crash_end keep torn _ K hK m i c _ (by omega)]
    simp
  | succ j ih =>
    intro m i c hi hm hj hY hc
    have hi : i = (j : Int) := by omega
    subst hi
    obtain ⟨m, rfl⟩ : ∃ k, m = k + 1 := ⟨m - 1, by omega⟩
    have hjl : j < pend.length := by omega
    have htk : pend.take (j + 1) = pend.take j ++ [pend[j]] := by rw [List.take_add_one, List.getElem?_eq_getElem hjl]; rfl
    have hr := hp _ (List.getElem_mem hjl)
    by_cases hKj : K ≤ j
    · have hfl : P ++ (pend.take (j + 1)).flatMap frameL = (P ++ (pend.take j).flatMap frameL) ++ frameL pend[j] := by rw [htk, List.flatMap_append, List.append_assoc]; simp
      rw [hfl] at hY hc ⊢
      have hlen := @List.length_append _ (P ++ (pend.take j).flatMap frameL) (frameL pend[j])
      have hstep : ∀ (s : Nat), s ≤ (frameL pend[j]).length → (j = K → s = min (frameL pend[j]).length T) → (j ≠ K → s = 0) → __disk_Disk__Crash_l0 FF keep torn (pend.map (wv N)) (m + 1) (j : Int) c [(N, (P ++ (pend.take j).flatMap frameL) ++ frameL pend[j])] =
          __disk_Disk__Crash_l0 FF keep torn (pend.map (wv N)) m ((j : Int) - 1) (((P ++ (pend.take j).flatMap frameL ++ (frameL pend[j]).take s).length : Nat) : Int) [(N, P ++ (pend.take j).flatMap frameL ++ (frameL pend[j]).take s)] := by
        intro s hs hs1 hs2
        have hgl : (pend.map (wv N))[j]? = some (wv N pend[j]) := by rw [List.getElem?_map, List.getElem?_eq_getElem hjl]; rfl
        conv => lhs; unfold __disk_Disk__Crash_l0
        rw [hK, decide_eq_true (by omega), cond_true, ge0, cond_true, cI, hgl, Option.bind_some, Option.bind_some]
        have hlost : (bif ((j : Int) == (K : Int)) then (some (IntKind.wrap IntKind.i64 ((wv N pend[j]).size - (if ((wv N pend[j]).size < (if ((0 : Int) > torn) then (0 : Int) else torn)) then (wv N pend[j]).size else (if ((0 : Int) > torn) then (0 : Int) else torn)))))
            else some (wv N pend[j]).size) = some ((((frameL pend[j]).length - s : Nat)) : Int) := by
          simp only [wv, hT]
          by_cases hjk : j = K
          · have hjk' : ((j : Int) == (K : Int)) = true := by rw [beq_iff_eq]; omega
            rw [hjk', cond_true, hs1 hjk]
            congr 1
            by_cases ht : (frameL pend[j]).length < T
            · rw [if_pos (by omega), Nat.min_eq_left (by omega), IntKind.wrap_i64]; omega
            · rw [if_neg (by omega), Nat.min_eq_right (by omega), IntKind.wrap_i64]; omega
          · rw [show (((j : Int) == (K : Int)) = false) from by rw [beq_eq_false_iff_ne]; omega, cond_false, hs2 hjk]; rfl
        rw [hlost, Option.bind_some]
        have hg : mget (wv N pend[j]).name [(N, (P ++ (pend.take j).flatMap frameL) ++ frameL pend[j])] = some ((P ++ (pend.take j).flatMap frameL) ++ frameL pend[j]) := by simp [mget, wv]
        rw [hg]
        simp only [Option.isSome_some, cond_true, Option.getD_some, List.length_map]
        have hw : IntKind.wrap IntKind.i64 ((((P ++ (pend.take j).flatMap frameL) ++ frameL pend[j]).length : Int) - (((frameL pend[j]).length - s : Nat) : Int)) = (((P ++ (pend.take j).flatMap frameL).length + s : Nat) : Int) := by
          rw [IntKind.wrap_i64]; omega
        simp only [hw, ge0, cond_true, cI]
        rw [decide_eq_true (by omega), cond_true, show decide (List.length [(N, (P ++ (pend.take j).flatMap frameL) ++ frameL pend[j])] + 1 ≤ LIM) = true from rfl, cond_true]
        rw [show IntKind.wrap IntKind.i64 ((j : Int) - 1) = (j : Int) - 1 by rw [IntKind.wrap_i64]; omega]
        have htake : ((P ++ (pend.take j).flatMap frameL) ++ frameL pend[j]).take ((P ++ (pend.take j).flatMap frameL).length + s) = P ++ (pend.take j).flatMap frameL ++ (frameL pend[j]).take s := by
          rw [List.take_length_add_append]
        have hcc : IntKind.wrap IntKind.i64 (c - (((frameL pend[j]).length - s : Nat) : Int)) = (((P ++ (pend.take j).flatMap frameL ++ (frameL pend[j]).take s).length : Nat) : Int) := by
          rw [hc, hw, @List.length_append _ (P ++ (pend.take j).flatMap frameL), List.length_take, Nat.min_eq_left hs]
        rw [htake, hcc]
        simp [mput, wv]
      by_cases hjk : j = K
      · have hs := hstep (min (frameL pend[j]).length T) (Nat.min_le_left _ _) (fun _ => rfl) (fun q => absurd hjk q)
        obtain ⟨m, rfl⟩ : ∃ k, m = k + 1 := ⟨m - 1, by omega⟩
        rw [hs, crash_end keep torn _ K hK m _ _ _ (by omega)]
        by_cases hT2 : (frameL pend[j]).length ≤ T
        · refine ⟨j + 1, [], ((P ++ (pend.take j).flatMap frameL ++ (frameL pend[j]).take (min (frameL pend[j]).length T)).length : Int), hj, un_nil, Byt.nil, ?_, ?_, ?_, ?_, fun q => by omega⟩
          · rw [Nat.min_eq_left hT2, List.take_length, List.append_nil, hfl]
          · rw [Nat.min_eq_left hT2, List.take_length, List.append_nil, hfl]
          · rw [List.append_nil, hfl]; exact hY
          · intro r hr1 _ hr3
            rw [← hjk, List.getElem?_eq_getElem hjl] at hr1
            injection hr1 with hr1
            subst hr1
            omega
        · refine ⟨j, (frameL pend[j]).take (min (frameL pend[j]).length T), _, by omega, un_part pend[j] _ hr.1 hr.2 (List.take_prefix ..) (by rw [List.length_take]; omega), (frame_byt _ hr.2).take _, rfl, rfl, ?_, fun r _ _ _ => ⟨hjk, by rw [List.length_take]; omega⟩, fun q => by omega⟩
          rw [List.length_append, List.length_take]
          omega
      · rw [hstep 0 (Nat.zero_le _) (fun q => absurd q hjk) (fun _ => rfl), List.take_zero, List.append_nil]
        obtain ⟨j', t, c', a1, a2, a3, a4, a5, a6, a7, a8⟩ := ih m ((j : Int) - 1) _ rfl (by omega) (by omega) (by omega) rfl
        exact ⟨j', t, c', a1, a2, a3, a4, a5, a6, fun r h1 h2 => a7 r h1 (by omega), fun q => by omega⟩
    · refine ⟨j + 1, [], c, hj, un_nil, Byt.nil, ?_, by rw [List.append_nil]; exact hc, by rw [List.append_nil]; exact hY, fun r _ q => by omega, fun q => by omega⟩
      rw [crash_end keep torn _ K hK m _ c _ (by omega), List.append_nil]

theorem crash_eq (keep torn : Int) (N : List UInt8) (P : List Int) (pend : List (List Int)) (hp : Recs pend) (hpl : pend.length ≤ 2000000) (hY : (P ++ pend.flatMap frameL).length ≤ 1048576) :
    ∃ (j' : Nat) (t : List Int) (c' : Int), j' ≤ pend.length ∧ Un t ∧ Byt t ∧ __disk_Disk__Crash FF keep torn ((P ++ pend.flatMap frameL).length : Int) [(N, P ++ pend.flatMap frameL)] (pend.map (wv N)) = some (c', [(N, P ++ (pend.take j').flatMap frameL ++ t)]) ∧
      c' = ((P ++ (pend.take j').flatMap frameL ++ t).length : Int) ∧ (P ++ (pend.take j').flatMap frameL ++ t).length ≤ 1048576 ∧ (keep = 0 → torn = 3 → ∀ r, pend[0]? = some r → 3 < (frameL r).length → j' = 0 ∧ t.length = 3) ∧ (pend = [] → t = []) := by
  obtain ⟨K, hK⟩ : ∃ K : Nat, (if (((pend.map (wv N)).length : Int) < (if (0 : Int) > keep then (0 : Int) else keep)) then ((pend.map (wv N)).length : Int) else (if (0 : Int) > keep then (0 : Int) else keep)) = (K : Int) := by
    refine ⟨(if (((pend.map (wv N)).length : Int) < (if (0 : Int) > keep then (0 : Int) else keep)) then ((pend.map (wv N)).length : Int) else (if (0 : Int) > keep then (0 : Int) else keep)).toNat, ?_⟩
    split <;> split <;> omega
  obtain ⟨T, hT⟩ : ∃ T : Nat, (if (0 : Int) > torn then (0 : Int) else torn) = (T : Int) := by
    refine ⟨(if (0 : Int) > torn then (0 : Int) else torn).toNat, ?_⟩
    split <;> omega
  have hpt : pend.take pend.length = pend := List.take_length
  have := crash_l0 keep torn N P pend hp hpl K T hK hT pend.length FF ((pend.length : Int) - 1) ((P ++ pend.flatMap frameL).length : Int) rfl (by show _ < 4000000; omega) (Nat.le_refl _) (by rw [hpt]; exact hY) (by rw [hpt])
  obtain ⟨j', t, c', h1, h2, h2', h3, h4, h5, h6, h7⟩ := this
  refine ⟨j', t, c', h1, h2, h2', ?_, h4, h5, ?_, fun q => h7 (by rw [q]; rfl)⟩
  rotate_left
  · rintro rfl rfl r q1 q2
    have hT0 : T = 3 := by rw [if_neg (by omega)] at hT; omega
    have hK0 : K = 0 := by rw [if_neg (show ¬ (0 : Int) > 0 by omega), if_neg (by omega)] at hK; omega
    subst hT0 hK0
    have := List.getElem?_eq_some_iff.1 q1
    obtain ⟨q, _⟩ := this
    exact h6 r q1 q q2
  rw [hpt] at h3
  unfold __disk_Disk__Crash
  rw [List.length_map, List.length_map, show IntKind.wrap IntKind.i64 ((pend.length : Int) - 1) = (pend.length : Int) - 1 by rw [IntKind.wrap_i64]; omega, h3]
  rfl

/-! lists that are the same -/
theorem byt_ok {x : List Int} (h : Byt x) : bytesOk x = true := by
  unfold bytesOk
  rw [List.all_eq_true]
  intro y hy
  have := h y hy
  rw [decide_eq_true this.1, decide_eq_true (by omega)]; rfl

theorem lists_l0 (a : List (List Int)) (ha : ∀ x, x ∈ a → Byt x) (hl : a.length ≤ 2000000) : ∀ (d i m : Nat), i + d = a.length → d < m → matinsref10_Lists_l0 FF a a m (i : Int) = some (.inr ()) := by
  intro d
  induction d with
  | zero =>
    intro i m h hm
    obtain ⟨m, rfl⟩ : ∃ k, m = k + 1 := ⟨m - 1, by omega⟩
    unfold matinsref10_Lists_l0
    rw [decide_eq_false (by omega), cond_false]
  | succ d ih =>
    intro i m h hm
    obtain ⟨m, rfl⟩ : ∃ k, m = k + 1 := ⟨m - 1, by omega⟩
    have hi : i < a.length := by omega
    have hb := byt_ok (ha _ (List.getElem_mem hi))
    unfold matinsref10_Lists_l0
    rw [decide_eq_true (by omega), cond_true, ge0, cond_true, cI, List.getElem?_eq_getElem hi, Option.bind_some, hb, cond_true, cond_true, Option.bind_some, hb, cond_true]
    simp only [beq_self_eq_true, Bool.not_true, cond_false]
    rw [wadd i (by omega)]
    exact ih (i + 1) m (by omega) (by omega)

theorem lists_self (a : List (List Int)) (ha : Recs a) (hl : a.length ≤ 2000000) : matinsref10_Lists FF a a = some true := by
  unfold matinsref10_Lists
  rw [show (((a.length : Int) != (a.length : Int)) = false) from by simp, cond_false]
  have := lists_l0 a (fun x hx => (ha x hx).2) hl a.length 0 FF (by omega) (by show _ < 4000000; omega)
  rw [show matinsref10_Lists_l0 FF a a FF 0 = _ from this]
  rfl
end Go.T
