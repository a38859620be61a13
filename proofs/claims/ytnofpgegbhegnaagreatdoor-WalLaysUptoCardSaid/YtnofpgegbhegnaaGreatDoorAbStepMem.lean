/-
  AbStepMem: the steps but calls, in the model.
-/
import Derived.Lib.LazyBuf
import Derived.Test.YtnofpgegbhegnaaGreatDoorAbFiles
namespace Go.Ab

section
variable {C : Cx} {S : Nat → Prop} {w : World} {ι : Imap} {P : Program} {un : Nat → Prop} {f : FS} {a : Act} {id : Nat} {o : Oper}
  {next : Act → World → Prop} {Q : Exit → Act → World → Prop}

/-- THE STEPS BUT CALLS -/
theorem step_mem {op : Op} {v : AV} {U : List (Nat × Option AO)} {RO : List Nat} (hop : o.op = op) (h : Inv C S ι un f a w)
    (hst : AStep P C.G (evA C.G f.g) f.os id op v U RO) (hcall : ∀ c, op = .call c → ∃ b, c.callee = .builtin b)
    (hid : ∀ x, id ≤ x → x < id + W → un x) (hd : ∀ d, o.dst = some d → C.N.lo ≤ d ∧ d < C.N.n) (hn : Goes C un id o f v U next) : o.wp P a w next Q := by
  have lift : ∀ {s : Sem Value} {v' : Value} {w' : World}, (execOp a.eval o) = (do pure (Next.value (← s)) : Sem Next) → s.run P w = .ok v' w' → (execOp a.eval o).run P w = .ok (.value v') w' := by
    intro s v' w' e h1
    rw [e]; simp only [Sem.run_bind, h1, Result.andThen_ok, Sem.run_pure]
  cases hst with
  | pure op v hp =>
    subst hop
    obtain ⟨v', h1, h2⟩ := pval_ok h.ev o hp
    exact value_ok hn h hd h1 h2
  | more op v U RO hb => exact bstep_ok hop h hb hid hd hn
  | files op v U RO hb => exact files_ok hop h hb hid hd hn
  | nil z =>
    have hrun : (execOp a.eval o).run P w = .ok (.value (.slice none 0 0)) w := by unfold execOp; rw [hop]; rfl
    unfold Oper.wp
    rw [hrun, Oper.upon_value]
    have hnone := h.un id (hid id (Nat.le_refl _) (by simp [W]))
    have hι : ι.le (fun o => if o = id then some none else ι o) := by
      intro o y hy
      by_cases e : o = id
      · subst e; rw [hnone] at hy; cases hy
      · simp [e, hy]
    have hw : SameOn S w w := fun _ _ => rfl
    have hinv : Inv C S (fun o => if o = id then some none else ι o) (fun o => un o ∧ o ≠ id) { f with os := updO f.os [(id, some (.rows true []))] } a w := by
      refine h.turn (fun _ x => x) hw hι ?_ ?_ ?_ h.sb h.sn (fun o ho => ?_) h.fr
      · intro o y hy
        simp only [updO] at hy
        by_cases e : o = id
        · subst e
          simp only [if_true, Option.some.injEq] at hy
          subst hy
          exact .inl ⟨by simp, rfl⟩
        · simp only [e, if_false] at hy
          exact (h.ob o y hy).mono (fun _ x => x) hw hι (fun _ _ _ _ _ => rfl)
      · intro o y hy hly l' hl' b hb
        simp only [updO] at hy
        by_cases e : o = id
        · subst e; simp at hl'
        · simp only [e, if_false] at hy hl'
          exact h.own o y hy hly l' hl' b hb
      · intro o1 o2 y1 y2 hy1 hy2 hl1 hl2 l1 l2 e1 e2 b hb hb2
        simp only [updO] at hy1 hy2
        by_cases e : o1 = id
        · subst e; simp at e1
        · by_cases e' : o2 = id
          · subst e'; simp at e2
          · simp only [e, e', if_false] at hy1 hy2 e1 e2
            exact h.inj o1 o2 y1 y2 hy1 hy2 hl1 hl2 l1 l2 e1 e2 b hb hb2
      · simp only [ho.2, if_false]; exact h.un o ho.1
    exact Inv.goes hn hinv (fun x hx => ⟨hx.1, fun e => hx.2 ⟨by omega, by subst e; simp [W]⟩⟩) (.oswv id z none (by simp)) hd
  | pick c x y t hc =>
    have hcv := h.ev c
    rw [hc] at hcv
    have hrun : (execOp a.eval o).run P w = .ok (.value (if t then a.eval x else a.eval y)) w := by
      unfold execOp; rw [hop]; simp only [hcv.bool_inv, asBool, Sem.run_bind, Sem.run_pure, Result.andThen_ok]
    refine value_ok hn h hd hrun ?_
    cases t
    · simpa using h.ev y
    · simpa using h.ev x
  | alloc t cs hz =>
    obtain ⟨z, h1, h2, h3⟩ := zeroA_run (w := w) (S := S) (ι := ι) hz
    refine box_ok hn h hd hid rfl h2 h3 (t := t) ?_
    refine lift (by unfold execOp; rw [hop]) ?_
    simp only [Instr.alloc, Sem.run_bind, h1, Result.andThen_ok, newVar, newRow, run_newObj, Sem.run_pure, World.alloc]
  | box t x cs hc =>
    obtain ⟨h2, h3⟩ := cellsOfAV_rep hc (h.ev x)
    refine box_ok hn h hd hid rfl h2 (cells_one h2 h3) (t := t) ?_
    refine lift (by unfold execOp; rw [hop]) ?_
    simp only [Instr.box, newVar, newRow, Sem.run_bind, run_newObj, Result.andThen_ok, Sem.run_pure, World.alloc]
  | load t x ob i c p rs row v hev ho hr hl =>
    have hx := h.ev x
    rw [hev] at hx
    obtain ⟨l, hl1, hv⟩ := hx.ptr_inv
    rcases h.ob ob _ ho with ⟨q, _⟩ | ⟨l', vals, q, hcnt, hm, hat, hrep⟩
    · rw [q] at hl1; cases hl1
    · rw [q] at hl1; injection hl1 with hl1; injection hl1 with hl1; subst hl1
      have hi := lt_of_get hr
      obtain ⟨v', h1, h2⟩ := loadVar_at (P := P) (b0 := l'.base + i * l'.esz) (hrep.get hr) (fun j v hv => by
        have := hat.2.2 i j v hi hv
        rw [← Nat.add_assoc] at this; exact this) hl
      refine value_ok hn h hd (lift (by unfold execOp; rw [hop]) ?_) h2
      unfold Instr.loadAt
      rw [hv]
      simp only [Instr.sureAddr, Sem.run_bind, Sem.run_pure, Result.andThen_ok]
      rw [← Nat.add_assoc]; exact h1
  | loadf t x ob i c rs row v hev ho hr hl =>
    have hx := h.ev x
    rw [hev] at hx
    obtain ⟨l, hl1, hv⟩ := hx.ptr_inv
    rcases h.ob ob _ ho with ⟨q, _⟩ | ⟨l', vals, q, hcnt, hm, hat, hrep⟩
    · rw [q] at hl1; cases hl1
    · rw [q] at hl1; injection hl1 with hl1; injection hl1 with hl1; subst hl1
      have hi := lt_of_get hr
      obtain ⟨v', h1, h2⟩ := loadVar_at (P := P) (b0 := l'.base + i * l'.esz) (hrep.get hr) (fun j v hv => by
        have := hat.2.2 i j v hi hv
        rw [← Nat.add_assoc] at this; exact this) hl
      refine value_ok hn h hd (lift (by unfold execOp; rw [hop]) ?_) h2
      unfold Instr.loadAt
      rw [hv]
      simp only [Instr.sureAddr, Sem.run_bind, Sem.run_pure, Result.andThen_ok]
      rw [← Nat.add_assoc]; exact h1
  | loadr t x row c v hev hl =>
    have hx := h.ev x
    rw [hev] at hx
    obtain ⟨blk, base, vals, hv, hS, hL, hcell⟩ := rp_inv hx
    obtain ⟨v', h1, h2⟩ := loadVar_at (P := P) (ι := ι) hL.rep hcell hl
    refine value_ok hn h hd (lift (by unfold execOp; rw [hop]) ?_) h2
    unfold Instr.loadAt
    rw [hv]
    simp only [Instr.sureAddr, Sem.run_bind, Sem.run_pure, Result.andThen_ok]
    exact h1
  | store t x y ob i c p rs row cs b n hev ho hr hc hk hlen hb =>
    have hx := h.ev x
    rw [hev] at hx
    obtain ⟨l, hl1, hv⟩ := hx.ptr_inv
    obtain ⟨hvs, hall⟩ := cellsOfAV_rep hc (h.ev y)
    rcases h.ob ob _ ho with ⟨q, _⟩ | ⟨l', vals, q, hcnt, hm, hat, hrep⟩
    · rw [q] at hl1; cases hl1
    · rw [q] at hl1; injection hl1 with hl1; injection hl1 with hl1; subst hl1
      have hi := lt_of_get hr
      have hrl := (hrep.get hr).1
      have hve := hat.2.1 i hi
      have hsz : l'.base + (i * l'.esz + c) + n ≤ l'.size := by
        have : (i + 1) * l'.esz ≤ rs.length * l'.esz := Nat.mul_le_mul_right _ hi
        rw [Nat.add_mul] at this
        have := hat.1
        omega
      have hvl : (a.eval y).cells.toList.length = n := by rw [← hvs.1]; exact hlen
      have hstore : (storeCells ⟨l'.blk, l'.base + (i * l'.esz + c), none⟩ (a.eval y).cells.toList 0).run P w =
          .ok () (w.setCells l'.blk (l'.base + (i * l'.esz + c)) (a.eval y).cells.toList) := by
        refine run_storeCells_cells _ _ _ 0 w (fun j hj => ?_) (fun j hj => ?_) (fun v hv => ?_)
        · obtain ⟨u, hu⟩ := (hm (l'.base + (i * l'.esz + c) + j)).1 (by omega)
          simp only [cellOf] at hu
          simp only [Nat.add_zero]
          rw [hu]; rfl
        · simp only [Nat.add_zero]
          exact (hm (l'.base + (i * l'.esz + c) + j)).2 (.inl (by omega))
        · exact cells_one hvs hall v hv
      have hrun : (execOp a.eval o).run P w = .ok .skip (w.setCells l'.blk (l'.base + (i * l'.esz + c)) (a.eval y).cells.toList) := by
        unfold execOp; rw [hop]
        simp only [Instr.storeAt, hv, Instr.sureAddr, Sem.run_bind, Sem.run_pure, Result.andThen_ok, storeVar, (kindT_run hk w).2, Sem.run_ite]
        rw [if_neg (by simp only [ne_eq, Decidable.not_not]; rw [← Array.length_toList]; exact hvl)]
        simp only [Result.andThen_ok, hstore]
      unfold Oper.wp
      rw [hrun, Oper.upon_skip]
      have hinv := h.writes ho rfl q (x' := .rows (p && cs.all idFree) (rs.set i (setAt row c cs))) rfl (l'.base + (i * l'.esz + c)) (a.eval y).cells.toList (fun hw =>
        rows_write q hcnt hm hat hrep hr hvs (cells_one hvs hall) (by omega) hw)
      exact Inv.goes hn hinv (fun x hx => hx.1) (.imm _ _ (.undef _)) hd
  | idxSl t e x ix xs k n row b hev hix h0 hr ht hk =>
    have hx := h.ev x
    have hi := h.ev ix
    rw [hev] at hx; rw [hix] at hi
    obtain ⟨ab, cap, sz, vals, hv, hsp, hS, hsz, hL, hcell⟩ := sl_inv hx hr
    have hlt := lt_of_get hr
    refine value_ok hn h hd (lift (by unfold execOp; rw [hop]) (by
      rw [hv, hi.int_inv]; exact indexAt_ok ht hk h0 (by omega) hsp)) ?_
    have := IRep.rp row 0 ab.block (ab.off + n.toNat * sz) vals hS hL.1 (fun j v hv => hcell j v hv) hL.2
    rw [hsz]
    exact .imm _ _ this
  | idxOsw t e x ix ob z k n y rs row b hev hix h0 ho hy hr ht hk =>
    have hx := h.ev x
    have hi := h.ev ix
    rw [hev] at hx; rw [hix] at hi
    have hlt := lt_of_get hr
    rcases obj_rows (h.ob ob _ ho) hy with ⟨q, rfl⟩ | ⟨l, vals, q, hcnt, hat, hrep⟩
    · simp at hr
    · rcases osw_inv hx with ⟨l', ab, cap, q', hv, hc1, hc2, hc3, _, ha⟩ | ⟨q', _⟩
      · rw [q] at q'; injection q' with q'; injection q' with q'; subst q'
        have hab := ha (by omega)
        have hrl := (hrep _ _ hr).1
        have hve := hat.2.1 _ hlt
        refine value_ok hn h hd (lift (by unfold execOp; rw [hop]) (by
          rw [hv, hi.int_inv]; exact indexAt_ok ht hk h0 (by omega) (by rw [hab]))) ?_
        rw [hab]
        have := Rep.ptr (S := S) (w := w) (ι := ι) ob n.toNat 0 l q
        have e : row.length = l.esz := by omega
        simp only
        rw [e]
        exact this
      · rw [q] at q'; cases q'
  | idxOsl t e x ix ob off len room k n y rs row b hev hix h0 h1 ho hy hr ht hk =>
    have hx := h.ev x
    have hi := h.ev ix
    rw [hev] at hx; rw [hix] at hi
    have hlt := lt_of_get hr
    rcases obj_rows (h.ob ob _ ho) hy with ⟨q, rfl⟩ | ⟨l, vals, q, hcnt, hat, hrep⟩
    · simp at hr
    · rcases osl_inv hx with ⟨l', ab, cap, q', hv, hc1, hc2, hc3, hc4, hc5, ha⟩ | ⟨q', _⟩
      · rw [q] at q'; injection q' with q'; injection q' with q'; subst q'
        have hab := ha (by omega)
        have hrl := (hrep _ _ hr).1
        have hve := hat.2.1 _ hlt
        refine value_ok hn h hd (lift (by unfold execOp; rw [hop]) (by
          rw [hv, hi.int_inv]; exact indexAt_ok ht hk h0 (by omega) (by rw [hab]))) ?_
        rw [hab]
        have := Rep.ptr (S := S) (w := w) (ι := ι) ob (off + n.toNat) 0 l q
        simp only
        rw [show row.length = l.esz by omega, Nat.add_assoc, ← Nat.add_mul]
        simpa using this
      · rw [q] at q'; cases q'
  | idxArr t e x ix ob r c len sz k n b hev hix h0 h1 ht hk =>
    have hx := h.ev x
    have hi := h.ev ix
    rw [hev] at hx; rw [hix] at hi
    obtain ⟨l, hl1, hv⟩ := hx.ptr_inv
    refine value_ok hn h hd (lift (by unfold execOp; rw [hop]) (by
      rw [hv, hi.int_inv]; exact indexArr_ok ht hk h0 h1)) ?_
    have := Rep.ptr (S := S) (w := w) (ι := ι) ob r (c + n.toNat * sz) l hl1
    rw [show l.base + (r * l.esz + (c + n.toNat * sz)) = l.base + (r * l.esz + c) + n.toNat * sz by omega] at this
    exact this
  | idxArrR t e x ix row c len sz k n b hev hix h0 h1 ht hk =>
    have hx := h.ev x
    have hi := h.ev ix
    rw [hev] at hx; rw [hix] at hi
    obtain ⟨blk, base, vals, hv, hS, hL, hcell⟩ := rp_inv hx
    refine value_ok hn h hd (lift (by unfold execOp; rw [hop]) (by
      rw [hv, hi.int_inv]; exact indexArr_ok ht hk h0 h1)) ?_
    rw [Nat.add_assoc]
    exact .imm _ _ (.rp row _ blk base vals hS hL.1 hcell hL.2)
  | strIx t x ix l k n c hev hix h0 hr ht =>
    have hx := h.ev x
    have hi := h.ev ix
    rw [hev] at hx; rw [hix] at hi
    refine value_ok hn h hd (lift (by unfold execOp; rw [hop]) ?_) (.imm _ _ (.int _ _))
    rw [hx.str_inv, hi.int_inv]
    unfold Instr.index
    have hb : (⟨l.toArray⟩ : ByteArray)[n.toNat]? = some c := by
      have hlt := lt_of_get hr
      have hs : n.toNat < (⟨l.toArray⟩ : ByteArray).size := by show n.toNat < l.toArray.size; simpa using hlt
      rw [ByteArray.getElem?_lt' _ _ hs]
      rw [List.getElem?_eq_getElem hlt] at hr
      rw [← hr]; rfl
    simp only [asIntOf, Sem.run_bind, Sem.run_pure, Result.andThen_ok, run_underlying ht, h0, if_true, hb]
  | arrIx t e x ix cs len sz k n b v hev hix h0 h1 ht hk hl =>
    have hx := h.ev x
    have hi := h.ev ix
    rw [hev] at hx; rw [hix] at hi
    obtain ⟨vs, hv, hL⟩ := hx.agg_inv
    obtain ⟨v', hp1, hp2⟩ := part_ok hL hl
    refine value_ok hn h hd (lift (by unfold execOp; rw [hop]) ?_) hp2
    rw [hv, hi.int_inv]
    unfold Instr.index
    simp only [asIntOf, Sem.run_bind, Sem.run_pure, Result.andThen_ok, run_underlying ht, (kindT_run hk w).2, Sem.run_ite]
    rw [if_pos ⟨h0, h1⟩]
    exact hp1
  | quo t t' x y k m n hx hy h0 =>
    have h1 := h.ev x; have h2 := h.ev y
    rw [hx] at h1; rw [hy] at h2
    refine value_ok hn h hd (lift (by unfold execOp; rw [hop]) ?_) (.imm _ _ (.int _ _))
    rw [h1.int_inv, h2.int_inv]
    simp only [eqGuard_quo, Sem.run_bind, Sem.run_pure, Result.andThen_ok, binOp_quo, Op.intDiv, h0, if_false]
  | rem t t' x y k m n hx hy h0 =>
    have h1 := h.ev x; have h2 := h.ev y
    rw [hx] at h1; rw [hy] at h2
    refine value_ok hn h hd (lift (by unfold execOp; rw [hop]) ?_) (.imm _ _ (.int _ _))
    rw [h1.int_inv, h2.int_inv]
    simp only [eqGuard_rem, Sem.run_bind, Sem.run_pure, Result.andThen_ok, binOp_rem, Op.intDiv, h0, if_false]
  | shl t t' x y k k' m n hx hy h0 =>
    have h1 := h.ev x; have h2 := h.ev y
    rw [hx] at h1; rw [hy] at h2
    refine value_ok hn h hd (lift (by unfold execOp; rw [hop]) ?_) (.imm _ _ (.int _ _))
    rw [h1.int_inv, h2.int_inv]
    simp only [eqGuard_shl, Sem.run_bind, Sem.run_pure, Result.andThen_ok, binOp_shl, Op.shift]
    rw [if_neg (by omega)]
    rfl
  | shr t t' x y k k' m n hx hy h0 =>
    have h1 := h.ev x; have h2 := h.ev y
    rw [hx] at h1; rw [hy] at h2
    refine value_ok hn h hd (lift (by unfold execOp; rw [hop]) ?_) (.imm _ _ (.int _ _))
    rw [h1.int_inv, h2.int_inv]
    simp only [eqGuard_shr, Sem.run_bind, Sem.run_pure, Result.andThen_ok, binOp_shr, Op.shift]
    rw [if_neg (by omega)]
    rfl
  | cat t t' x y l1 l2 hx hy hlen =>
    have h1 := h.ev x; have h2 := h.ev y
    rw [hx] at h1; rw [hy] at h2
    refine value_ok hn h hd (lift (by unfold execOp; rw [hop]) ?_) (.imm _ _ (IRep.str_mk (l1 ++ l2)))
    rw [h1.str_inv, h2.str_inv]
    have e1 : (⟨l1.toArray⟩ : ByteArray).size = l1.length := by show l1.toArray.size = _; simp
    have e2 : (⟨l2.toArray⟩ : ByteArray).size = l2.length := by show l2.toArray.size = _; simp
    simp only [eqGuard_add, Sem.run_bind, Sem.run_pure, Result.andThen_ok, binOp_string_add, Op.stringOp, e1, e2]
    rw [if_neg (by simp only [IntKind.max_i64]; omega)]
    simp only [Sem.run_pure, Result.ok.injEq, Value.string.injEq, and_true]
    apply ByteArray.ext
    simp
  | nilq t t' e x xs hx ht =>
    have h1 := h.ev x
    rw [hx] at h1
    cases h1 with
    | imm _ _ h1 =>
      generalize hv : a.eval x = u at h1
      cases h1 with
      | snil =>
        refine value_ok hn h hd (v' := .bool true) (lift (by unfold execOp; rw [hop]) ?_) (.imm _ _ (.anyb _ true fun _ => rfl))
        rw [hv]
        simp only [show a.eval (.const (.slice none 0 0)) = .slice none 0 0 from rfl, eqGuard_at_slice, Sem.run_bind, Sem.run_pure, Result.andThen_ok]
        exact run_eql_slice_nil w t e none 0 0 ht
      | sl xs a' cap sz vals h2 h3 h4 h5 h6 h7 =>
        refine value_ok hn h hd (v' := .bool false) (lift (by unfold execOp; rw [hop]) ?_) (.imm _ _ (.anyb _ false fun e => by cases e))
        rw [hv]
        simp only [show a.eval (.const (.slice none 0 0)) = .slice none 0 0 from rfl, eqGuard_at_slice, Sem.run_bind, Sem.run_pure, Result.andThen_ok]
        exact run_eql_slice_nil w t e (some a') xs.length cap ht
  | eqAgg t t' x y cs ds r hx hy hp hg hst hc1 hc2 he =>
    have h1 := h.ev x; have h2 := h.ev y
    rw [hx] at h1; rw [hy] at h2
    obtain ⟨us, hu, hL1⟩ := h1.agg_inv
    obtain ⟨vs, hv, hL2⟩ := h2.agg_inv
    refine value_ok hn h hd (lift (by unfold execOp; rw [hop]) ?_) (.imm _ _ (.bool r))
    rw [hu, hv]
    have := agg_eq hL1 hL2 hp hc1 hc2 he hst
    simp only [Sem.run_bind, run_eqGuard_agg w _ t _ _ _ _ hg, Result.andThen_ok, run_eql_struct, this]
  | neAgg t t' x y cs ds r hx hy hp hg hst hc1 hc2 he =>
    have h1 := h.ev x; have h2 := h.ev y
    rw [hx] at h1; rw [hy] at h2
    obtain ⟨us, hu, hL1⟩ := h1.agg_inv
    obtain ⟨vs, hv, hL2⟩ := h2.agg_inv
    refine value_ok hn h hd (lift (by unfold execOp; rw [hop]) ?_) (.imm _ _ (.bool (!r)))
    rw [hu, hv]
    have := agg_eq hL1 hL2 hp hc1 hc2 he hst
    simp only [Sem.run_bind, run_eqGuard_agg w _ t _ _ _ _ hg, Result.andThen_ok, run_neq_struct, this]
  | lenOsw x ts args t e ob z y rs ha hts ht hev ho hy =>
    have hx := h.ev x
    rw [hev] at hx
    have hrun : ∀ base cap, a.eval x = .slice base rs.length cap → (execOp a.eval o).run P w = .ok (.value (.int .i64 rs.length)) w := by
      intro base cap hv
      unfold execOp; rw [hop]
      have hxs : (args.map a.eval)[0]? = some (.slice base rs.length cap) := by simp [ha, hv]
      simp [resolve, invoke, builtin, Builtin.len_, hts, hxs, run_underlying ht, goInt]
    rcases obj_rows (h.ob ob _ ho) hy with ⟨q, rfl⟩ | ⟨l, vals, q, hcnt, hat, hrep⟩
    · rcases osw_inv hx with ⟨l', ab, cap, q', _⟩ | ⟨q', ab, hv⟩
      · rw [q] at q'; cases q'
      · exact value_ok hn h hd (hrun _ _ hv) (.imm _ _ (.int _ _))
    · rcases osw_inv hx with ⟨l', ab, cap, q', hv, _⟩ | ⟨q', ab, hv⟩
      · rw [q] at q'; injection q' with q'; injection q' with q'; subst q'
        exact value_ok hn h hd (hrun (some ab) cap (by rw [hcnt]; exact hv)) (.imm _ _ (.int _ _))
      · rw [q] at q'; cases q'
  | call fn args ts f' cap V n argsC rv hev => obtain ⟨b, hb⟩ := hcall _ rfl; cases hb
  | callF fn args ts f' cap V n argsC rv os' U hev => obtain ⟨b, hb⟩ := hcall _ rfl; cases hb
  | callG fn args ts f' cap V oin argsC rv os' hev => obtain ⟨b, hb⟩ := hcall _ rfl; cases hb
end
end Go.Ab
