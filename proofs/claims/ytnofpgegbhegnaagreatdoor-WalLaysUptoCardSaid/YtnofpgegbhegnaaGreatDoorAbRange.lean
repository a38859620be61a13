/-
  AbRange: a range over slices.Backward, out of its rounds.
-/
import Derived.Test.YtnofpgegbhegnaaGreatDoorAbSound0
import Derived.RangeFuncIn
import Derived.RangeFuncOwn
namespace Go.Ab

theorem Inv.act {C : Cx} {S : Nat → Prop} {ι : Imap} {un : Nat → Prop} {gx : Tm} {os : Os} {a a' : Act} {w : World} (h : Inv C S ι un (toFS gx os) a w) {lo : Nat}
    (hg : gx.all (fun e => decide (e.1 < lo)) = true) (ht : ∀ t, t < lo → a'.tmps.getD t undef = a.tmps.getD t undef) (N : Sl) (kv : Nat → Value) (dfs : List Deferred) (qb : List (Nat × Obj))
    (hsz : a'.tmps.size = N.n) (hdf : a'.defers = dfs) (hkv : ∀ t, t < N.lo → a'.tmps.getD t undef = kv t) (hq : ∀ q, q ∈ qb → S q.1 ∧ w.heap[q.1]? = some q.2) :
    Inv { C with N := N, kv := kv, dfs := dfs, qb := qb } S ι un (toFS gx os) a' w := by
  refine ⟨fun t => ?_, hsz, ⟨hdf, hkv, hq⟩, h.ob, h.own, h.inj, h.sb, h.sn, h.un, h.fr, h.fo, h.gv, h.s0, h.hj⟩
  show Rep S w ι (lookG gx t) _
  rcases lookG_mem (g := gx) (t := t) with hu | hm
  · rw [hu]; exact .imm _ _ (.undef _)
  · have := List.all_eq_true.1 hg _ hm
    simp only [decide_eq_true_eq] at this
    rw [ht t this]
    exact h.tm t

theorem toFS_put (g : Tm) (os : Os) (p : Nat) (v : AV) : (toFS g os).put (some p) v = toFS ((p, v) :: g) os := by
  unfold toFS FS.put
  simp only [FS.mk.injEq, and_true]
  funext t
  simp only [lookG]

/-- a list that names no object: where it lies -/
theorem ints_of {S : Nat → Prop} {w : World} {zs : List Int} {v : Value} (hsb : ∀ b, S b → b < w.heap.size) (h : IRep S w (.sl (zs.map fun z => [.int .i64 z])) v) :
    ∃ qz : List (Nat × Obj), (∀ q, q ∈ qz → S q.1 ∧ w.heap[q.1]? = some q.2) ∧ ∀ W : World, (∀ q, q ∈ qz → W.heap[q.1]? = some q.2) → IntsAt W v zs := by
  generalize hX : AV.sl (zs.map fun z => [.int .i64 z]) = X at h
  cases h with
  | snil =>
    injection hX with hX
    have : zs = [] := by simpa using hX
    subst this
    exact ⟨[], ⟨fun q hq => (by cases hq), fun W _ => ⟨none, 0, rfl, fun j z hz => by simp at hz⟩⟩⟩
  | sl xs ad cap sz vals hcap hlim hS hlen hcell hrep =>
    injection hX with hX
    subst hX
    cases zs with
    | nil => exact ⟨[], ⟨fun q hq => (by cases hq), fun W _ => ⟨some ad, cap, rfl, fun j z hz => by simp at hz⟩⟩⟩
    | cons z0 zr =>
      have hS' := hS (by simp)
      obtain ⟨o, ho⟩ : ∃ o, w.heap[ad.block]? = some o := ⟨_, Array.getElem?_eq_getElem (hsb _ hS'.1)⟩
      refine ⟨[(ad.block, o)], fun q hq => ?_, fun W hW => ⟨some ad, cap, by simp, fun j z hz => ⟨ad, rfl, hS'.2, ?_⟩⟩⟩
      · rw [List.mem_singleton.1 hq]; exact ⟨hS'.1, ho⟩
      · have hr : ((z0 :: zr).map fun z => [AV.int .i64 z])[j]? = some [.int .i64 z] := by rw [List.getElem?_map, hz]; rfl
        have hj := lt_of_get hr
        have hl := hlen j _ hr
        have hsz : sz = 1 := by rw [← hl.1]; rfl
        subst hsz
        obtain ⟨u, hu⟩ : ∃ u, (vals j)[0]? = some u := ⟨_, List.getElem?_eq_getElem (by omega)⟩
        have h1 := hcell j 0 u hj hu
        have h2 := hrep j 0 _ _ u hr rfl hu
        cases h2
        have hb : W.heap[ad.block]? = w.heap[ad.block]? := (hW (ad.block, o) (by simp)).trans ho.symm
        have := (cell_same (j := ad.off + (j * 1 + 0)) hb).trans h1.1
        rw [Nat.mul_one, Nat.add_zero] at this
        exact this
  | _ => cases hX

theorem rp_of {S : Nat → Prop} {w : World} {zs : List Int} {v : Value} (hsb : ∀ b, S b → b < w.heap.size) (h : IRep S w (.rp [.sl (zs.map fun z => [.int .i64 z])] 0) v) :
    ∃ pa : Addr, v = .pointer (some pa) ∧ ∃ qz : List (Nat × Obj), (∀ q, q ∈ qz → S q.1 ∧ w.heap[q.1]? = some q.2) ∧ ∀ W : World, (∀ q, q ∈ qz → W.heap[q.1]? = some q.2) → ∃ u, W.cell? pa = some u ∧ IntsAt W u zs := by
  cases h with
  | rp row off blk base vals hS hl hcell hrep =>
    refine ⟨⟨blk, base + 0, none⟩, rfl, ?_⟩
    obtain ⟨u, hu⟩ : ∃ u, vals[0]? = some u := ⟨_, List.getElem?_eq_getElem (by simp at hl; omega)⟩
    obtain ⟨qz, h1, h2⟩ := ints_of hsb (hrep 0 _ u rfl hu)
    obtain ⟨o, ho⟩ : ∃ o, w.heap[blk]? = some o := ⟨_, Array.getElem?_eq_getElem (hsb _ hS)⟩
    refine ⟨(blk, o) :: qz, fun q hq => ?_, fun W hW => ⟨u, ?_, h2 W (fun q hq => hW q (List.mem_cons_of_mem _ hq))⟩⟩
    · rcases List.mem_cons.1 hq with rfl | hq
      · exact ⟨hS, ho⟩
      · exact h1 q hq
    · have hb : W.heap[blk]? = w.heap[blk]? := (hW _ List.mem_cons_self).trans ho.symm
      exact (cell_same (j := base + 0) hb).trans (hcell 0 u hu).1

theorem getD_set_ne {l : Array Value} {t p : Nat} (v : Value) (h : p ≠ t) : (l.setIfInBounds p v).getD t undef = l.getD t undef := by
  simp only [Array.getD_eq_getD_getElem?]
  rw [Array.getElem?_setIfInBounds_ne h]

set_option maxHeartbeats 1000000 in
theorem range_ok {P : Program} {C : Cx} {S : Nat → Prop} {ι : Imap} {a : Act} {w : World} {g : Tm} {os : Os} {nx : Nat} {gop : Operand} {ps : Array Tmp} {assign body : Code}
    {X : Nat → Bool → (Tm → Os → Nat → Prop) → Tm → Os → Nat → Prop} {K : Tm → Os → Nat → Prop} {Q : Exit → Act → World → Prop}
    (hdf : C.dfs = [] ∧ C.qb = [])
    (hX : ∀ (C' : Cx) lo b κ g os nx l, C'.N = ⟨lo, C.N.n, true⟩ → C'.G = C.G → C'.m = C.m → X lo b κ g os nx → ∀ S ι a w, Inv C' S ι (fun x => nx ≤ x) (toFS g os) a w →
      (bif b then body else assign).wpIn (WF (some l)) 0 P (Exit.then (fun a w => ∃ g os nx S ι, κ g os nx ∧ Inv C' S ι (fun x => nx ≤ x) (toFS g os) a w) (fun _ _ _ => False)) a w)
    (hK : ∀ D g os nx, K g os nx → C.Ow D → ∀ S ι a w, Inv (C.ranged D) S ι (fun x => nx ≤ x) (toFS g os) a w → Q .normal a w)
    (hR : Ranges P C.N C.m g os nx (evA C.G (lookG g) gop) ps.toList X K) (hinv : Inv C S ι (fun x => nx ≤ x) (toFS g os) a w) :
    (Code.rangeFunc gop ps assign body).wpIn (WF none) 0 P Q a w := by
  obtain ⟨fB, zs, p, q, lo, α, gx, osx, nx', I, x0, σ0, hB, hgv, hps, hd, hI0, hcov, hround, hend⟩ := hR.h
  simp only [Bool.and_eq_true, decide_eq_true_eq] at hd
  obtain ⟨⟨⟨⟨⟨hp1, hp2⟩, hq1⟩, hq2⟩, hpq⟩, hgx⟩ := hd
  have hev := hinv.ev gop
  rw [show (toFS g os).g = lookG g from rfl, hgv] at hev
  obtain ⟨vs, hv, hL⟩ := hev.fn_inv
  obtain ⟨vs⟩ := vs
  obtain ⟨hlen, hrep⟩ := hL
  match vs, hlen with
  | [pv], _ =>
  have hpv : IRep S w (.rp [.sl (zs.map fun z => [.int .i64 z])] 0) pv := by
    have h := hrep 0 _ pv rfl rfl
    cases h with | imm _ _ h => exact h
  have hlz : zs.length ≤ LIM := by
    cases hpv with
    | rp row off blk base vals hS hl hcell hrep2 =>
      obtain ⟨u, hu⟩ : ∃ u, vals[0]? = some u := ⟨_, List.getElem?_eq_getElem (by simp at hl; omega)⟩
      have := hrep2 0 _ u rfl hu
      generalize hX : AV.sl (zs.map fun z => [.int .i64 z]) = X at this
      cases this with
      | snil => injection hX with hX; have : zs = [] := by simpa using hX
                subst this; simp
      | sl xs ad cap sz vals hcap hlim hS hlen hcell hrep => injection hX with hX; subst hX; simpa using hlim
      | _ => cases hX
  obtain ⟨pa, rfl, qz, hqz1, hqz2⟩ := rp_of hinv.sb hpv
  rw [fnV_lt (callB_lt hB.1)] at hv
  -- the two new blocks
  have hadf : a.defers = [] := hinv.df.1.trans hdf.1
  refine wpIn_rangeFunc ?_
  intro fn _
  let rec0 : LoopState → Loop := fun st => { state := st, pending := none, fn := fn, tmps := a.tmps, params := ps, assign := assign, body := body, defers := w.heap.size }
  let D := w.heap.size
  let L := w.heap.size + 1
  have hOD : C.Ow D := hinv.fo _ hinv.fr.size
  have hOL : C.Ow L := hinv.fo _ (Nat.le_succ_of_le hinv.fr.size)
  have hqzlt : ∀ q, q ∈ qz → q.1 < D := fun q hq => hinv.sb _ (hqz1 q hq).1
  have hi1 := hinv.lay (.deferred (some [])) (a' := a) (dfs := []) (qb := (D, .deferred (some [])) :: qz) rfl hadf (fun q hq => by
    rcases List.mem_cons.1 hq with rfl | hq
    · exact ⟨.inr rfl, World.alloc_heap_new w _⟩
    · exact ⟨.inl (hqz1 q hq).1, (old_alloc w _ _ (hqzlt q hq)).trans (hqz1 q hq).2⟩)
  have hsz1 : (w.alloc (.deferred (some []))).heap.size = L := by rw [World.size_alloc]
  have hi2 := hi1.lay (.loop (rec0 .ready)) (a' := a) (dfs := []) (qb := (L, .loop (rec0 .ready)) :: (D, .deferred (some [])) :: qz) rfl hadf (fun q hq => by
    rcases List.mem_cons.1 hq with rfl | hq
    · refine ⟨.inr hsz1.symm, ?_⟩
      have := World.alloc_heap_new (w.alloc (.deferred (some []))) (.loop (rec0 .ready))
      rw [hsz1] at this; exact this
    · have h := hi1.df.2.2 q hq
      exact ⟨.inl h.1, (old_alloc _ _ _ (hi1.sb _ h.1)).trans h.2⟩)
  generalize hW1 : (w.alloc (.deferred (some []))).alloc (.loop (rec0 .ready)) = W1 at hi2
  generalize hS2 : (fun b => (S b ∨ b = w.heap.size) ∨ b = (w.alloc (.deferred (some []))).heap.size) = S2 at hi2
  obtain ⟨ι1, hi3⟩ := hi2.cov hcov
  -- the head of a round
  let Cr : LoopState → Cx := fun st => { C with N := ⟨lo, C.N.n, true⟩, kv := fun t => a.tmps.getD t undef, dfs := [], qb := (L, .loop (rec0 st)) :: (D, .deferred (some [])) :: qz }
  let a0 : Act := { tmps := a.tmps, defers := [] }
  let J : Nat → World → Prop := fun k W => ∃ x S ι, I k x ∧ Inv (Cr .ready) S ι (fun y => nx' ≤ y) (toFS gx (osx x)) a0 W
  have hJ0 : J 0 W1 := ⟨x0, _, _, hI0, hi3.act (a' := a0) hgx (fun t _ => rfl) ⟨lo, C.N.n, true⟩ (fun t => a.tmps.getD t undef) [] _ hinv.sz rfl (fun t _ => rfl) hi3.df.2.2⟩
  refine ⟨L, [mark D], W1, { target := .fn (.func fB) #[.pointer (some pa)], args := #[.func (.yield L) #[] #[]] }, W1, fB, #[.func (.yield L) #[] #[]] ++ #[.pointer (some pa)], W1, ?_, ?_, fun _ _ => trivial, ?_, fun h => (by cases h), ?_⟩
  · rw [← hW1]; exact run_enterLoop_outer _ _ _ _ _
  · simp only [resolve, hv]
    simp [go_sem]
  · simp [invoke, go_sem, callB_run hB.1]
  · have hqr : ∀ k W, J k W → W.heap[L]? = some (.loop (rec0 .ready)) ∧ W.heap[D]? = some (.deferred (some [])) ∧ ∀ q, q ∈ qz → W.heap[q.1]? = some q.2 := by
      rintro k W ⟨x, S, ι, _, hi⟩
      exact ⟨(hi.df.2.2 (L, .loop (rec0 .ready)) (by simp [Cr])).2, (hi.df.2.2 (D, .deferred (some [])) (by simp [Cr])).2, fun q hq => (hi.df.2.2 q (by simp [Cr, hq])).2⟩
    refine CallsIn.mono (hB.2 L pa zs J W1 hlz (fun k W hk => hqz2 W (hqr k W hk).2.2) ?_ hJ0) ?_
    · -- one round
      rintro k z W hkz ⟨x, S, ι, hIk, hi⟩
      have hLr : W.heap[L]? = some (.loop (rec0 .ready)) := (hi.df.2.2 (L, .loop (rec0 .ready)) (by simp [Cr])).2
      have hpsz : ps = #[p, q] := by
        apply Array.toList_inj.1
        rw [hps]
      have hy := run_yield (P := P) (args := #[.int .i64 ((zs.length - 1 - k : Nat) : Int), .int .i64 z]) hLr (by show 2 = ps.size; rw [hpsz]; rfl)
      refine ⟨_, _, _, _, hy, roundIn_of_wpIn trivial ?_⟩
      have htm : (((rec0 .ready).params.zip #[Value.int .i64 ((zs.length - 1 - k : Nat) : Int), .int .i64 z]).foldl (fun tmps (t, a) => tmps.setIfInBounds t a) (rec0 .ready).tmps)
          = (a.tmps.setIfInBounds p (.int .i64 ((zs.length - 1 - k : Nat) : Int))).setIfInBounds q (.int .i64 z) := by
        show ((ps.zip _).foldl _ a.tmps) = _
        rw [hpsz]; simp
      have hput := (hi.put (dst := some p) (v := .int .i64 ((zs.length - 1 - k : Nat) : Int)) (v' := .int .i64 ((zs.length - 1 - k : Nat) : Int)) (.imm _ _ (.int _ _)) (fun d e => by
          injection e with e; subst e; exact ⟨hp1, hp2⟩)).put (dst := some q) (v := .int .i64 z) (v' := .int .i64 z) (.imm _ _ (.int _ _)) (fun d e => by
          injection e with e; subst e; exact ⟨hq1, hq2⟩)
      rw [toFS_put, toFS_put] at hput
      have hb1 := hX (Cr .ready) lo false _ _ _ _ L rfl rfl rfl (hround k z x hkz hIk) S ι _ W hput
      rw [show (rec0 .ready).assign = (bif false then body else assign) from rfl, htm]
      refine wpIn_mono hb1 ?_
      intro e a1 w1 he
      cases e with
      | normal =>
        obtain ⟨g1, os1, nx1, S1, ι1, hX1, hi1⟩ := he
        have h1 := hi1.df.2.2 (L, .loop (rec0 .ready)) (by simp [Cr])
        refine ⟨_, run_beginRound h1.2 rfl, ?_⟩
        have hne : ∀ q, q ∈ qz → q.1 ≠ L := fun q hq e => by have := hqzlt q hq; simp only [D, L] at this e; omega
        have hi1b : Inv (Cr .busy) S1 ι1 (fun x => nx1 ≤ x) (toFS g1 os1) a1 (w1.putObj L (.loop (rec0 .busy))) := hi1.poke (o' := .loop (rec0 .busy)) (a' := a1) (dfs := []) (qb := (L, .loop (rec0 .busy)) :: (D, .deferred (some [])) :: qz)
          h1.1 hOL h1.2 rfl rfl rfl hi1.df.1 (fun q hq => by
            rcases List.mem_cons.1 hq with rfl | hq
            · exact ⟨h1.1, World.putObj_heap_same (hi1.sb _ h1.1)⟩
            · have h := hi1.df.2.2 q (by simp only [Cr]; exact List.mem_cons_of_mem _ hq)
              refine ⟨h.1, (World.putObj_heap_other ?_).trans h.2⟩
              rcases List.mem_cons.1 hq with rfl | hq
              · simp only [D, L]; omega
              · exact hne q hq)
        have hb2 := hX (Cr .busy) lo true _ _ _ _ L rfl rfl rfl hX1 S1 ι1 a1 _ hi1b
        refine wpIn_mono hb2 ?_
        intro e a2 w2 he
        cases e with
        | normal =>
          obtain ⟨g2, os2, nx2, S2, ι2, ⟨x', σ, hI', hcov'⟩, hi2⟩ := he
          have h2 := hi2.df.2.2 (L, .loop (rec0 .busy)) (by simp [Cr])
          refine ⟨_, _, run_endRound none h2.2, rfl, x', S2, ?_⟩
          have hi2b : Inv (Cr .ready) S2 ι2 (fun x => nx2 ≤ x) (toFS g2 os2) a2 (w2.putObj L (.loop (rec0 .ready))) := hi2.poke (o' := .loop (rec0 .ready)) (a' := a2) (dfs := []) (qb := (L, .loop (rec0 .ready)) :: (D, .deferred (some [])) :: qz)
            h2.1 hOL h2.2 rfl rfl rfl hi2.df.1 (fun q hq => by
              rcases List.mem_cons.1 hq with rfl | hq
              · exact ⟨h2.1, World.putObj_heap_same (hi2.sb _ h2.1)⟩
              · have h := hi2.df.2.2 q (by simp only [Cr]; exact List.mem_cons_of_mem _ hq)
                refine ⟨h.1, (World.putObj_heap_other ?_).trans h.2⟩
                rcases List.mem_cons.1 hq with rfl | hq
                · simp only [D, L]; omega
                · exact hne q hq)
          obtain ⟨ι3, hi3⟩ := hi2b.cov hcov'
          refine ⟨ι3, hI', ?_⟩
          exact hi3.act (a' := a0) hgx (fun t ht => (hi3.df.2.1 t ht).symm) ⟨lo, C.N.n, true⟩ (fun t => a.tmps.getD t undef) [] _ hinv.sz rfl (fun t _ => rfl) hi3.df.2.2
        | _ => exact he.elim
      | _ => exact he.elim
    · -- behind the loop
      rintro e W2 ⟨⟨v, rfl⟩, x, S3, ι3, hIx, hi⟩
      have h1 := hi.df.2.2 (L, .loop (rec0 .ready)) (by simp [Cr])
      have h2 := hi.df.2.2 (D, .deferred (some [])) (by simp [Cr])
      refine ⟨none, _, run_endLoop h1.2 (by simp [rec0]), ?_⟩
      have hi4 := hi.poke (o' := .loop { rec0 .ready with state := .exhausted }) (a' := a0) (dfs := []) (qb := [(D, .deferred (some []))]) h1.1 hOL h1.2 rfl rfl rfl rfl (fun q hq => by
        rw [List.mem_singleton.1 hq]
        exact ⟨h2.1, (World.putObj_heap_other (by simp only [D, L]; omega)).trans h2.2⟩)
      have hi5 := hi4.act (a' := { a with defers := [mark D] ++ a.defers }) hgx (fun t _ => rfl) { C.N with no := true } C.kv [mark D] [(D, .deferred (some []))] hinv.sz (by rw [hadf]; rfl) hinv.df.2.1 hi4.df.2.2
      exact hK D _ _ _ (hend x hIx) hOD _ _ _ _ hi5
end Go.Ab
