/-
  AbLib: contracts of library functions as trees: sorts, numerals, names.
-/
import Derived.Test.YtnofpgegbhegnaaGreatDoorAbMore
import Derived.Sort.Grow
import Derived.Sort.Row
import Derived.Lib.LaidTab
namespace Go.Ab
open Go.Sort (Holds putRow grow)

/-- objects that are as they were -/
theorem objs_keep {Ow S S' : Nat → Prop} {w w' : World} {ι : Imap} {os : Nat → Option AO} (h : ObjsOk Ow S w ι os) (hs0 : ∀ b, S b → b < w.heap.size) (hk : Keeps w w') (hs : ∀ b, S b → S' b)
    (hs' : ∀ b, S' b → S b ∨ w.heap.size ≤ b) : ObjsOk Ow S' w' ι os := by
  have hf : ∀ o x, os o = some x → x.live = true → ∀ l, ι o = some (some l) → ∀ b, foot w' x l b → foot w x l b := fun o x hx hl l e b hb => foot_same (hk.old _ (h.own o x hx hl l e _ (.inl rfl)).2.2) hb
  refine ⟨fun o x hx => (h.ob o x hx).mono hs (fun b hb => hk.old b (hs0 b hb)) (Imap.le_refl _) (fun l hl hlv b hb => hk.old b (h.own o x hx hlv l hl b hb).2.2), fun o x hx hl l e b hb => ?_, fun o o' x x' hx hx' hl hl' l l' e e' b hb hb' => ?_⟩
  · obtain ⟨h1, h2, h3⟩ := h.own o x hx hl l e b (hf o x hx hl l e b hb)
    refine ⟨h1, fun q => ?_, Nat.lt_of_lt_of_le h3 hk.size⟩
    rcases hs' b q with q | q
    · exact h2 q
    · omega
  · exact h.inj o o' x x' hx hx' hl hl' l l' e e' b (hf o x hx hl l e b hb) (hf o' x' hx' hl' l' e' b hb')

/-- a list of strings is handed back, in a block of its own; the objects are as they were -/
theorem FC_strsO {P : Program} {G : Gmap} {f : Nat} {oin : Os} {args : List AV} {xs : List (List UInt8)} (hn : callB P f = true) (hl : xs.length ≤ LIM) (hoin : (oin.all fun e => decide (e.1 < W)) = true) (hoW : oin.length ≤ W)
    (h : ∀ (Ow S : Nat → Prop) (ι : Imap) (w : World) (vs : Array Value), (∀ b, S b → b < w.heap.size) → GOk G S w → ObjsOk Ow S w ι (lk oin) → RepL S w ι args vs.toList →
      Calls P f vs w fun e w' => Keeps w w' ∧ ((xs = [] ∧ ∃ a, e = .returned (.slice a 0 0)) ∨ ∃ b o cap, e = .returned (.slice (some ⟨b, o, none⟩) xs.length cap) ∧ xs.length ≤ cap ∧ w.heap.size ≤ b ∧ b < w'.heap.size ∧
        ∀ (i : Nat) s, xs[i]? = some s → w'.cell? ⟨b, o + i, none⟩ = some (.string (bs s)))) : FC P G f oin args (.sl (xs.map cStr)) oin := by
  refine ⟨hn, fun o x hx => ?_, fun S0 ι0 w0 vs h0 hG hob hι hL => ?_⟩
  · have := List.all_eq_true.1 hoin _ (lk_mem hx)
    simpa using this
  refine (h _ S0 ι0 w0 vs h0 hG hob hL).mono ?_
  rintro e w' ⟨hk, h⟩
  rcases h with ⟨rfl, a, rfl⟩ | ⟨b, o, cap, rfl, hcap, hb1, hb2, hc⟩
  · refine ⟨_, S0, ι0, rfl, hk.fr _, fun b hb => ⟨.inl hb, Nat.lt_of_lt_of_le (h0 b hb) hk.size⟩, fun b hb => hb, Imap.le_refl _, fun o ho => hι o (Nat.le_trans hoW ho), .imm _ _ ?_, objs_keep hob h0 hk (fun b hb => hb) (fun b hb => .inl hb)⟩
    cases a with
    | none => exact .snil
    | some a => exact .sl [] a 0 0 (fun _ => []) (Nat.le_refl _) (by simp [LIM]) (fun h => absurd rfl h) (fun i r hr => by simp at hr) (fun i j v hi => by simp at hi) (fun i j r x v hr => by simp at hr)
  · refine ⟨_, fun k => S0 k ∨ k = b, ι0, rfl, hk.fr _, fun k hb => ?_, fun k hb => .inl hb, Imap.le_refl _, fun o ho => hι o (Nat.le_trans hoW ho), .imm _ _ ?_,
      objs_keep hob h0 hk (fun b hb => .inl hb) (fun k hb => hb.elim .inl (fun e => .inr (e ▸ hb1)))⟩
    · rcases hb with hb | rfl
      · exact ⟨.inl hb, Nat.lt_of_lt_of_le (h0 k hb) hk.size⟩
      · exact ⟨Or.inr (Or.inl hb1), hb2⟩
    · have e : xs.length = (xs.map cStr).length := by simp
      rw [e]
      refine .sl (xs.map cStr) ⟨b, o, none⟩ cap 1 (fun i => [.string (bs (xs.getD i []))]) (by simpa using hcap) (by simpa using hl) (fun _ => ⟨.inr rfl, rfl⟩) (fun i r hr => ?_) (fun i j v hi hv => ?_) (fun i j r x v hr hx hv => ?_)
      · rw [List.getElem?_map, Option.map_eq_some_iff] at hr
        obtain ⟨s, _, rfl⟩ := hr
        exact ⟨rfl, rfl⟩
      · have hi : i < xs.length := by simpa using hi
        cases j with
        | succ j => simp at hv
        | zero =>
          simp only [List.getElem?_cons_zero, Option.some.injEq] at hv
          subst hv
          have q := hc i xs[i] (by simp)
          have e2 : xs.getD i [] = xs[i] := by simp [List.getD_eq_getElem?_getD, hi]
          refine ⟨?_, rfl⟩
          simp only [Nat.mul_one, Nat.add_zero, e2]
          exact q
      · rw [List.getElem?_map, Option.map_eq_some_iff] at hr
        obtain ⟨s, hs, rfl⟩ := hr
        cases j with
        | succ j => simp at hv
        | zero =>
          simp only [List.getElem?_cons_zero, Option.some.injEq] at hv hx
          subst hv
          simp only [cStr, List.getElem?_cons_zero, Option.some.injEq] at hx
          subst hx
          rw [List.getD_eq_getElem?_getD, hs]
          exact .str (bs s)

theorem sortI_len (l : List Int) : (sortI l).length = l.length := by simp [sortI]

/-- slices.Sort of integers -/
theorem FC_sortI {P : Program} {G : Gmap} {f : Nat} (hn : callB P f = true)
    (c : ∀ (blk off cap : Nat) (zs : List Int) (w : World), Holds (Value.int .i64) w blk off zs.toArray → blk < w.heap.size → zs.length < 4611686018427387904 →
      Calls P f #[.slice (some ⟨blk, off, none⟩) zs.length cap] w fun e w' => e = .returned (.tuple #[]) ∧ ∃ n os, w' = grow (putRow (Value.int .i64) (Sort.ahead w n) blk off (zs.mergeSort fun x y => decide (x ≤ y)).toArray) os)
    (c0 : ∀ (p : Option Addr) (cap : Nat) (w : World), Calls P f #[.slice p 0 cap] w fun e w' => e = .returned (.tuple #[]) ∧ w' = w)
    (l : List Int) (hl : l.length ≤ LIM) : FC P G f [(0, .rows true (List.map (cInt .i64) l))] [.osw 0 1] (.tup []) [(0, .rows true (List.map (cInt .i64) (sortI l)))] := by
  refine ⟨hn, fun o x hx => ?_, fun S0 ι0 w0 vs h0 hG hob hι hL => ?_⟩
  · by_cases e : o = 0
    · subst e; unfold W; omega
    · simp [lk, e] at hx
  obtain ⟨v, rfl, hv⟩ := args1 hL
  have hW : ∀ o, W ≤ o → ι0 o = none := fun o ho => hι o (by unfold W at ho; simp; omega)
  have he : ∀ (a : Option Addr) (cap : Nat), l = [] → v = .slice a 0 cap → Calls P f #[v] w0 fun e w' => ∃ v S' ι', e = .returned v ∧ Fr (OwOf w0 ι0 [(0, AO.rows true (List.map (cInt .i64) l))]) w0 w' ∧
      (∀ b, S' b → (S0 b ∨ OwOf w0 ι0 [(0, AO.rows true (List.map (cInt .i64) l))] b) ∧ b < w'.heap.size) ∧ (∀ b, S0 b → S' b) ∧ ι0.le ι' ∧ (∀ o, W ≤ o → ι' o = none) ∧
      Rep S' w' ι' (.tup []) v ∧ ObjsOk (OwOf w0 ι0 [(0, AO.rows true (List.map (cInt .i64) l))]) S' w' ι' (lk [(0, AO.rows true (List.map (cInt .i64) (sortI l)))]) := by
    rintro a cap rfl rfl
    refine (c0 a cap w0).mono ?_
    rintro e w' ⟨rfl, rfl⟩
    exact ⟨_, S0, ι0, rfl, ⟨rfl, rfl, Nat.le_refl _, fun _ _ _ => rfl⟩, fun b hb => ⟨.inl hb, h0 b hb⟩, fun b hb => hb, Imap.le_refl _, hW, .tup [] #[] rfl (fun j x v h => by simp at h), by rw [show sortI [] = [] by simp [sortI]]; exact hob⟩
  have hob0 := hob.ob 0 _ rfl
  rcases hob0 with ⟨q, hr⟩ | ⟨L, vals, q, hcnt, hm, hat, hrep⟩
  · have hl0 : l = [] := by simpa using hr
    rcases osw_inv hv with ⟨l', ab, cap, q', _⟩ | ⟨q', ab, hvv⟩
    · rw [q] at q'; cases q'
    · exact he ab 0 hl0 hvv
  rcases osw_inv hv with ⟨l', ab, cap, q', hvv, g1, g2, g3, gz, ga⟩ | ⟨q', ab, hvv⟩
  rotate_left
  · rw [q] at q'; cases q'
  rw [q] at q'; injection q' with q'; injection q' with q'; subst q'
  rw [List.length_map] at hcnt
  by_cases hl0 : l = []
  · subst hl0
    simp only [List.length_nil] at hcnt
    rw [← hcnt] at hvv
    exact he (some ab) cap rfl hvv
  have hpos : 0 < l.length := List.length_pos_iff.2 hl0
  have hcap : cap ≠ 0 := by omega
  obtain rfl := ga hcap
  -- the cells
  have hvals : ∀ (i : Nat) z, l[i]? = some z → vals i = [.int .i64 z] := by
    intro i z hz
    have := hrep i [.int .i64 z] (by rw [List.getElem?_map, hz]; rfl)
    simp only [if_true] at this
    obtain ⟨hlen, hr⟩ := this
    match hvi : vals i, hlen with
    | [u], _ =>
      have := hr 0 _ u rfl (by rw [hvi]; rfl)
      cases this; rfl
  have hesz : L.esz = 1 := by
    obtain ⟨z, hz⟩ : ∃ z, l[0]? = some z := ⟨_, List.getElem?_eq_getElem hpos⟩
    have := hat.2.1 0 (by simpa using hpos)
    rw [hvals 0 z hz] at this
    exact this.symm
  have hsz : L.base + l.length ≤ L.size := by
    have := hat.1
    rw [List.length_map, hesz, Nat.mul_one] at this; exact this
  have hown := hob.own 0 _ rfl rfl L q _ (.inl rfl)
  have hH : Holds (Value.int .i64) w0 L.blk L.base l.toArray := by
    intro j hj
    have hj' : j < l.length := by simpa using hj
    have h1 := hat.2.2 j 0 (.int .i64 l[j]) (by simpa using hj') (by rw [hvals j l[j] (List.getElem?_eq_getElem hj')]; rfl)
    rw [hesz, Nat.mul_one, Nat.add_zero] at h1
    refine ⟨?_, (hm (L.base + j)).2 (.inl (by omega))⟩
    rw [show l.toArray[j]! = l[j] by rw [getElem!_pos l.toArray j hj]; simp]
    exact h1.1
  rw [hvv, ← hcnt]
  unfold LIM at hl
  refine (c L.blk L.base cap l w0 hH hown.2.2 (by omega)).mono ?_
  rintro e w' ⟨rfl, n, os, rfl⟩
  rw [show (l.mergeSort fun x y => decide (x ≤ y)) = sortI l from rfl]
  have hs := sortI_len l
  have hahead : ∀ b : Nat, (Sort.ahead w0 n).heap[b]? = w0.heap[b]? := fun b => rfl
  have hblk : L.blk < (putRow (Value.int .i64) (Sort.ahead w0 n) L.blk L.base (sortI l).toArray).heap.size := by rw [Sort.size_putRow]; exact hown.2.2
  have hH2 : Holds (Value.int .i64) (Sort.ahead w0 n) L.blk L.base l.toArray := hH
  have hold : ∀ b, b < w0.heap.size → b ≠ L.blk → (grow (putRow (Value.int .i64) (Sort.ahead w0 n) L.blk L.base (sortI l).toArray) os).heap[b]? = w0.heap[b]? := fun b hb hne => by
    rw [Sort.heap_grow_old _ _ (by rw [Sort.size_putRow]; exact hb)]
    unfold putRow Sort.mapBlock
    simp only [Array.getElem?_modify]
    rw [if_neg (fun e => hne e.symm)]
    rfl
  have hin : ∀ (j : Nat) z, (sortI l)[j]? = some z → cellOf (grow (putRow (Value.int .i64) (Sort.ahead w0 n) L.blk L.base (sortI l).toArray) os) L.blk (L.base + j) = some (.int .i64 z) := fun j z hz => by
    have hj := lt_of_get hz
    show World.cell? _ _ = _
    rw [Sort.cell?_grow _ _ _ hblk, Sort.cell?_putRow _ _ _ _ l.toArray _ hH2 (by simp [hs]) j (by simpa using hj)]
    rw [getElem!_pos (sortI l).toArray j (by simpa using hj)]
    rw [List.getElem?_eq_getElem hj] at hz
    injection hz with hz
    simp [hz]
  have hout : ∀ j : Nat, ¬ (L.base ≤ j ∧ j < L.base + l.length) → cellOf (grow (putRow (Value.int .i64) (Sort.ahead w0 n) L.blk L.base (sortI l).toArray) os) L.blk j = cellOf w0 L.blk j := fun j hj => by
    show World.cell? _ _ = _
    rw [Sort.cell?_grow _ _ _ hblk, Sort.cell?_putRow_other _ _ _ _ _ _ (by simp only [List.size_toArray, hs]; omega)]
    rfl
  refine ⟨_, S0, ι0, rfl, ⟨rfl, rfl, by rw [Sort.size_grow, Sort.size_putRow]; exact Nat.le_add_right _ _, fun b hb hn => hold b hb (fun e => hn (e ▸ hown.1))⟩, fun b hb => ⟨.inl hb, by rw [Sort.size_grow, Sort.size_putRow]; exact Nat.lt_of_lt_of_le (h0 b hb) (Nat.le_add_right _ _)⟩, fun b hb => hb, Imap.le_refl _, hW,
    .tup [] #[] rfl (fun j x v h => by simp at h), ⟨fun o x hx => ?_, fun o x hx hl' l' e b hb => ?_, fun o o' x x' hx hx' _ _ l1 l2 e1 e2 b _ _ => ?_⟩⟩
  · by_cases e : o = 0
    · subst e
      simp only [lk, if_true, Option.some.injEq] at hx
      subst hx
      refine .inr ⟨L, fun i => [.int .i64 ((sortI l).getD i 0)], q, by rw [List.length_map, hs]; exact hcnt, fun j => ⟨fun hj => ?_, fun hj => ?_⟩, ⟨by rw [List.length_map, hs, hesz, Nat.mul_one]; exact hsz, fun i hi => hesz.symm, fun i j v hi hv => ?_⟩, fun i r hr => ?_⟩
      · by_cases h9 : L.base ≤ j ∧ j < L.base + l.length
        · obtain ⟨z, hz⟩ : ∃ z, (sortI l)[j - L.base]? = some z := ⟨_, List.getElem?_eq_getElem (by rw [hs]; omega)⟩
          have := hin _ z hz
          rw [show L.base + (j - L.base) = j by omega] at this
          exact ⟨_, this⟩
        · rw [hout j h9]; exact (hm j).1 hj
      · rw [Sort.frozen?_grow _ _ _ hblk, Sort.frozen?_putRow]
        exact (hm j).2 hj
      · rw [List.length_map, hs] at hi
        cases j with
        | succ j => simp at hv
        | zero =>
          simp only [List.getElem?_cons_zero, Option.some.injEq] at hv
          subst hv
          rw [hesz, Nat.mul_one, Nat.add_zero]
          have hz := List.getElem?_eq_getElem (l := sortI l) (i := i) (by omega)
          refine ⟨?_, rfl⟩
          rw [List.getD_eq_getElem?_getD, hz]
          exact hin i _ hz
      · rw [List.getElem?_map, Option.map_eq_some_iff] at hr
        obtain ⟨z, hz, rfl⟩ := hr
        simp only [if_true]
        refine ⟨rfl, fun j x v hx hv => ?_⟩
        cases j with
        | succ j => simp at hv
        | zero =>
          simp only [List.getElem?_cons_zero, Option.some.injEq] at hv
          simp only [cInt, List.getElem?_cons_zero, Option.some.injEq] at hx
          subst hv; subst hx
          rw [List.getD_eq_getElem?_getD, hz]
          exact .int _ _
    · simp [lk, e] at hx
  · by_cases e0 : o = 0
    · subst e0
      simp only [lk, if_true, Option.some.injEq] at hx
      subst hx
      rw [q] at e; injection e with e; injection e with e; subst e
      have := foot_one rfl hb
      subst this
      exact ⟨hown.1, hown.2.1, by rw [Sort.size_grow, Sort.size_putRow]; exact Nat.lt_of_lt_of_le hown.2.2 (Nat.le_add_right _ _)⟩
    · simp [lk, e0] at hx
  · by_cases a : o = 0
    · by_cases b : o' = 0
      · rw [a, b]
      · simp [lk, b] at hx'
    · simp [lk, a] at hx

/-- a table in a package variable -/
theorem tab_is {P : Program} {G : Gmap} {S : Nat → Prop} {w : World} (hG : GOk G S w) {g : Nat} {k : IntKind} {zs : List Int} (hg : G g = some (zs.map fun n => AV.int k n)) {name : String} (hname : P.globalNamed name = some g) : Lib.TabIs P w name k zs := by
  obtain ⟨_, cs, t, fr, e, es⟩ := hG g _ hg
  unfold Lib.TabIs World.var?
  rw [hname]
  simp only [Option.bind_some, e, Option.some.injEq]
  apply Array.ext_getElem?
  intro i
  rw [show ((zs.map fun z => Value.int k z).toArray)[i]? = (zs.map fun z => Value.int k z)[i]? by simp, List.getElem?_map]
  by_cases hi : i < zs.length
  · have h1 := hG.cell hg (j := i) (k := k) (n := zs[i]) (by rw [List.getElem?_map, List.getElem?_eq_getElem hi]; rfl)
    simp only [World.cell?, e] at h1
    rw [List.getElem?_eq_getElem hi]
    exact h1
  · rw [List.getElem?_eq_none (by omega), Array.getElem?_eq_none (by rw [es]; simp; omega)]
    rfl

/-- strconv.Itoa, at every int -/
theorem FC_itoa {P : Program} {G : Gmap} {f g : Nat} (hn : callB P f = true) (hg : G g = some (Lib.pow10Tab.map fun (n : Int) => AV.int .u64 n)) (hname : P.globalNamed "internal/strconv.uint64pow10" = some g)
    (c : ∀ (n : Int), -9223372036854775808 ≤ n → n ≤ 9223372036854775807 → ∀ w : World, Lib.TabIs P w "internal/strconv.uint64pow10" .u64 Lib.pow10Tab →
      Calls P f #[.int .i64 n] w fun e w' => e = .returned (.string ⟨(Lib.itoa n).toArray⟩) ∧ ∃ k os, w' = grow (w.drewN k) os)
    (n : Int) (h0 : -9223372036854775808 ≤ n) (h1 : n ≤ 9223372036854775807) : FC P G f [] [.int .i64 n] (.str (Lib.itoa n)) [] := by
  refine FC_val hn fun S ι w vs _ hG hL => ?_
  obtain ⟨u, rfl, h2⟩ := args1 hL
  obtain rfl := h2.int_inv
  refine (c n h0 h1 w (tab_is hG hg hname)).mono ?_
  rintro e w' ⟨rfl, k, os, rfl⟩
  exact ⟨_, rfl, ⟨rfl, rfl, by rw [Sort.size_grow]; exact Nat.le_add_right _ _, fun b hb => (Sort.heap_grow_old (w.drewN k) os hb).trans rfl⟩, fun S w => irep_bs _⟩
theorem lt_of_some {w : World} {b : Nat} {o : Obj} (h : w.heap[b]? = some o) : b < w.heap.size := (Array.getElem?_eq_some_iff.1 h).1
theorem tab_keep {P : Program} {w w' : World} {name : String} {k : IntKind} {zs : List Int} (hk : Keeps w w') (h : Lib.TabIs P w name k zs) : Lib.TabIs P w' name k zs := by
  unfold Lib.TabIs World.var? at h ⊢
  cases hg : P.globalNamed name with
  | none => rw [hg] at h; cases h
  | some g =>
    rw [hg] at h
    simp only [Option.bind_some] at h ⊢
    split at h
    · rename_i cs t fr e
      rw [hk.old g (lt_of_some e), e]; exact h
    · cases h
theorem Keeps.trans {a b c : World} (h : Keeps a b) (h' : Keeps b c) : Keeps a c :=
  ⟨h'.os.trans h.os, h'.output.trans h.output, Nat.le_trans h.size h'.size, fun k hk => (h'.old k (Nat.lt_of_lt_of_le hk h.size)).trans (h.old k hk)⟩
theorem trim_len (s p : List UInt8) : (Lib.trimPrefix s p).length ≤ s.length := by
  unfold Lib.trimPrefix
  split
  · rw [List.length_drop]; omega
  · exact Nat.le_refl _
theorem GOk.con {G : Gmap} {S : Nat → Prop} {w : World} (h : GOk G S w) {g : Nat} {v : Value} (hg : G g = some [.con v]) : w.cell? ⟨g, 0, none⟩ = some v := by
  have := (h g _ hg).1
  generalize hp : Value.pointer (some ⟨g, 0, none⟩) = u at this
  cases this with
  | rp row off blk base vals hS hl hcell hr =>
    injection hp with hp
    injection hp with hp
    injection hp with h1 h2 h3
    subst h1
    have hb : base = 0 := by omega
    subst hb
    obtain ⟨x, hx⟩ : ∃ x, vals[0]? = some x := ⟨_, List.getElem?_eq_getElem (by simp at hl; omega)⟩
    have q1 := hr 0 _ x rfl hx
    have q2 := (hcell 0 x hx).1
    cases q1
    simpa [cellOf] using q2
structure NumAns (p : Bool) (d : List UInt8) (v : Int) (Ans : Int → Prop) : Prop where
  no : ¬ (p = true ∧ d.length ≤ 9 ∧ 1 ≤ v ∧ Lib.itoa v = d) → Ans 0
  yes : p = true → d.length ≤ 9 → 1 ≤ v → Lib.itoa v = d → Ans v
end Go.Ab
