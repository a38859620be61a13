/-
  AbFC: the contract of a function out of what the evaluator says of its body.
-/
import Derived.Test.YtnofpgegbhegnaaGreatDoorAbFill
import Derived.RangeFuncLeaves
namespace Go.Ab

def argsG : List AV → Nat → Tm
  | [], _ => []
  | x :: r, i => (i, x) :: argsG r (i + 1)

/-- the results that a function hands back -/
def resA (P : Program) (g : Tm) (os : Os) : List ResultVar → Option (List AV)
  | [] => some []
  | .tmp t :: r => (resA P g os r).map (lookG g t :: ·)
  | .cell a t :: r => match lookG g a with
    | .ptr o i c => match rowsR (lk os) o with
      | some rs => match rs[i]? with
        | some row => match loadAs P t row c with
          | some v => (resA P g os r).map (v :: ·)
          | none => none
        | none => none
      | none => none
    | _ => none

def one (l : List AV) : AV :=
  match l with
  | [v] => v
  | l => .tup l

/-- the end of a function whose result is handed back as a value alone -/
def finC (P : Program) (rs : List ResultVar) (Qr : AV → Prop) (g : Tm) (os : Os) : Prop :=
  opt (resA P g os rs) fun vs => opt (closeAV (os.map (·.1)) (lk os) 8 (one vs)) fun rv => fAV rv fun rv => Qr rv

theorem argsG_look : ∀ (l : List AV) (i t : Nat), lookG (argsG l i) t = if i ≤ t ∧ t < i + l.length then l.getD (t - i) .undef else .undef := by
  intro l
  induction l with
  | nil => intro i t; simp [argsG, lookG]
  | cons x r ih =>
    intro i t
    simp only [argsG, lookG]
    by_cases h : t = i
    · subst h; simp
    · rw [if_neg h, ih]
      by_cases h1 : i + 1 ≤ t ∧ t < i + 1 + r.length
      · rw [if_pos h1, if_pos (by simp; omega)]
        rw [show t - i = (t - (i + 1)) + 1 by omega]
        simp
      · rw [if_neg h1, if_neg (by simp; omega)]

theorem res_ok {P : Program} {C : Cx} {S : Nat → Prop} {ι : Imap} {un : Nat → Prop} {g : Tm} {os : Os} {a : Act} {w : World} (h : Inv C S ι un (toFS g os) a w) :
    ∀ (rs : List ResultVar) (vs : List AV), resA P g os rs = some vs →
      ∃ us : List Value, (rs.mapM (fun r => match r with | .tmp t => pure (a.tmps.getD t undef) | .cell x t => do loadVar t (← asAddr (a.tmps.getD x undef)) : ResultVar → Sem Value)).run P w = .ok us w ∧
        RepL S w ι vs us := by
  intro rs
  induction rs with
  | nil => intro vs hv; simp only [resA, Option.some.injEq] at hv; subst hv; exact ⟨[], rfl, .nil⟩
  | cons r rs ih =>
    intro vs hv
    cases r with
    | tmp t =>
      simp only [resA, Option.map_eq_some_iff] at hv
      obtain ⟨vs', h1, rfl⟩ := hv
      obtain ⟨us, h2, h3⟩ := ih vs' h1
      refine ⟨a.tmps.getD t undef :: us, ?_, RepL.cons (h.tm t) h3⟩
      simp only [List.mapM_cons, Sem.run_bind, Sem.run_pure, Result.andThen_ok, h2]
    | cell x t =>
      simp only [resA] at hv
      split at hv
      · rename_i o i c hx
        split at hv
        · rename_i rws hr
          split at hv
          · rename_i row hrow
            split at hv
            · rename_i v hl
              simp only [Option.map_eq_some_iff] at hv
              obtain ⟨vs', h1, rfl⟩ := hv
              obtain ⟨us, h2, h3⟩ := ih vs' h1
              have ht := h.tm x
              rw [show (toFS g os).g x = lookG g x from rfl, hx] at ht
              obtain ⟨l, hl1, hv⟩ := ht.ptr_inv
              obtain ⟨y, hy, hy'⟩ := rowsR_inv hr
              rcases obj_rows (h.ob o y hy) hy' with ⟨q, rfl⟩ | ⟨l', vals, q, hcnt, hat, hrep⟩
              · simp at hrow
              · rw [q] at hl1; injection hl1 with hl1; injection hl1 with hl1; subst hl1
                have hi := lt_of_get hrow
                obtain ⟨v', h4, h5⟩ := loadVar_at (P := P) (b0 := l'.base + i * l'.esz) (hrep _ _ hrow) (fun j v hv => by
                  have := hat.2.2 i j v hi hv
                  rw [← Nat.add_assoc] at this; exact this) hl
                refine ⟨v' :: us, ?_, RepL.cons h5 h3⟩
                rw [← Nat.add_assoc] at hv
                have ha : (asAddr (a.tmps.getD x undef)).run P w = .ok ⟨l'.blk, l'.base + i * l'.esz + c, none⟩ w := by rw [hv]; rfl
                simp only [List.mapM_cons, Sem.run_bind, ha, Sem.run_pure, Result.andThen_ok, h4, h2]
            · cases hv
          · cases hv
        · cases hv
      · cases hv

theorem results_ok {P : Program} {C : Cx} {S : Nat → Prop} {ι : Imap} {un : Nat → Prop} {g : Tm} {os : Os} {a : Act} {w : World} (h : Inv C S ι un (toFS g os) a w)
    {fn : Func} {vs : List AV} (hv : resA P g os fn.results.toList = some vs) : ∃ v, (results fn a.tmps).run P w = .ok v w ∧ Rep S w ι (one vs) v := by
  obtain ⟨us, h1, h2⟩ := res_ok (P := P) h fn.results.toList vs hv
  have hrun : (results fn a.tmps).run P w = .ok (if h : us.toArray.size = 1 then us.toArray[0] else .tuple us.toArray) w := by
    unfold results
    rw [Sem.run_bind, Array.mapM_eq_mapM_toList]
    simp only [Sem.run_map]
    generalize hX : Sem.run P (List.mapM _ fn.results.toList) w = X
    have : X = .ok us w := by rw [← hX]; exact h1
    rw [this]
    simp only [Result.andThen_ok, Sem.run_pure]
  refine ⟨_, hrun, ?_⟩
  have hlen := h2.1
  unfold one
  split
  · rename_i v
    have : us.length = 1 := by rw [← hlen]; rfl
    obtain ⟨u, rfl⟩ := List.length_eq_one_iff.1 this
    simp only [List.size_toArray, List.length_singleton, dite_true]
    exact h2.2 0 v u rfl rfl
  · rename_i hne
    have : us.length ≠ 1 := by
      intro e
      rw [← hlen] at e
      obtain ⟨u, rfl⟩ := List.length_eq_one_iff.1 e
      exact hne u rfl
    rw [dif_neg (by simpa using this)]
    exact RepL.tupr (by simpa using h2)

theorem inv_start {G : Gmap} {fn : Func} {args : List AV} {S0 : Nat → Prop} {ι0 : Imap} {w0 : World} {vs : Array Value} {oin : Os} (hsz : args.length ≤ fn.ntmps)
    (h0 : ∀ b, S0 b → b < w0.heap.size) (hG : GOk G S0 w0) (hob : ObjsOk (OwOf w0 ι0 oin) S0 w0 ι0 (lk oin)) (hι : ∀ o, oin.length ≤ o → ι0 o = none) (hW : oin.length ≤ W) (him : ∀ j L, ι0 j = some L → j < oin.length) (hL : RepL S0 w0 ι0 args vs.toList) :
    Inv ⟨G, w0, ⟨0, fn.ntmps, false⟩, OwOf w0 ι0 oin, S0, oin.length, ι0, him, fun _ => undef, [], []⟩ S0 ι0 (fun x => W ≤ x) (toFS (argsG args 0) oin) { tmps := vs ++ Array.replicate (fn.ntmps - vs.size) undef, defers := [] } w0 := by
  have hlen := hL.1
  simp only [Array.length_toList] at hlen
  refine ⟨fun t => ?_, ?_, ⟨rfl, fun t ht => absurd ht (Nat.not_lt_zero t), fun q hq => (by cases hq)⟩, hob.ob, hob.own, hob.inj, h0, fun b hb => .inl hb, fun o ho => hι o (Nat.le_trans hW ho), ⟨rfl, rfl, Nat.le_refl _, fun b _ _ => rfl⟩, fun b hb => .inl hb, hG, fun b hb => hb, fun j L e => e⟩
  · show Rep S0 w0 ι0 (lookG (argsG args 0) t) _
    rw [argsG_look]
    split
    · rename_i ht
      have ht' : t < args.length := by omega
      have hx : args[t]? = some args[t] := List.getElem?_eq_getElem ht'
      have hv : vs.toList[t]? = some vs[t] := by simp
      have e1 : args.getD (t - 0) .undef = args[t] := by simp [List.getD_eq_getElem?_getD, hx]
      have e2 : (vs ++ Array.replicate (fn.ntmps - vs.size) undef).getD t undef = vs[t] := by
        rw [Array.getD_eq_getD_getElem?, Array.getElem?_append_left (by omega)]
        simp [show t < vs.size by omega]
      rw [e1, e2]
      exact hL.2 t _ _ hx hv
    · exact .imm _ _ (.undef _)
  · simp; omega

/-- arguments that are weaker -/
theorem FC_argw {P : Program} {G : Gmap} {f : Nat} {oin : List (Nat × AO)} {args args' : List AV} {rv : AV} {os' : List (Nat × AO)} (hw : WkL args args') (h : FC P G f oin args' rv os') : FC P G f oin args rv os' :=
  ⟨h.1, h.2.1, fun S0 ι0 w0 vs h0 hG hob hι hL => h.2.2 S0 ι0 w0 vs h0 hG hob hι (hw.repL hL)⟩
/-- a function's calls out of its body -/
theorem calls_of_x {P : Program} {C : Cx} {f : Nat} {fn : Func} {c : Code} {vs : Array Value} {R : Ending → World → Prop} {fin : Tm → Os → Prop} {fuel : Nat} {g : Tm} {os : Os} {nx : Nat} {S : Nat → Prop} {ι : Imap} {w0 : World}
    (hm : P.follows .mixedOrders = true) (hf : P.funcs[f]? = some fn) (hb : fn.body = some c) (hC : C.dfs = [] ∧ C.qb = [])
    (hinv : Inv C S ι (fun x => nx ≤ x) (toFS g os) { tmps := vs ++ Array.replicate (fn.ntmps - vs.size) undef, defers := [] } w0)
    (h : xcode P C.G C.N C.m fin fuel [.code c] g os nx)
    (hfin : ∀ N dfs qb, ∀ g os, fin g os → ∀ S ι un a w, Inv { C with N := N, dfs := dfs, qb := qb } S ι un (toFS g os) a w → ∃ v, (results fn a.tmps).run P w = .ok v w ∧ R (.returned v) w) : Calls P f vs w0 R := by
  refine callsIn_wide.1 (callsIn_of_wp_marks (F := Fence.wide) (n := 0) hf hb trivial ?_)
  refine xcode_ok (r := none) (B := bodyPostM Fence.wide 0 P fn R) hm fuel (fun _ => ⟨rfl, hC⟩) ?_ [.code c] _ _ _ h S ι _ w0 hinv
  intro C' hto g os hfn S ι un a w hi
  have key : LeavesInM Fence.wide 0 P fn a.tmps R a.defers .returning w := by
    cases hto with
    | refl =>
      rw [hi.df.1, hC.1]
      exact hfin C.N C.dfs C.qb g os hfn S ι un a w hi
    | ranged D hno hO =>
      have hd : a.defers = [mark D] := hi.df.1
      obtain ⟨hS, hD⟩ := hi.df.2.2 (D, .deferred (some [])) (by simp [Cx.ranged])
      have hi2 := hi.poke (o' := .deferred none) (a' := a) (dfs := a.defers) (qb := []) hS hO hD rfl rfl rfl rfl (fun q hq => by cases hq)
      rw [hd]
      refine ⟨by simp, .inl ⟨D, _, rfl, run_takeDeferred hD, ?_⟩⟩
      exact hfin _ a.defers [] g os hfn S ι un a _ hi2
  exact ⟨key, key⟩

/-- THE CONTRACT of a function that is handed no objects and hands back a value alone -/
theorem FC_of {P : Program} {G : Gmap} {f : Nat} {fn : Func} {c : Code} {args : List AV} {rv : AV} (fuel : Nat) (hf : P.funcs[f]? = some fn) (hb : fn.body = some c)
    (hn : callB P f = true) (hm : P.follows .mixedOrders = true) (hsz : args.length ≤ fn.ntmps)
    (h : xcode P G ⟨0, fn.ntmps, false⟩ 0 (finC P fn.results.toList fun r => r = rv) fuel [.code c] (argsG args 0) [] W) : FC P G f [] args rv [] := by
  refine ⟨hn, fun o x hx => by simp [lk] at hx, fun S0 ι0 w0 vs h0 hG hob hι hL => ?_⟩
  have him : ∀ j L, ι0 j = some L → j < ([] : Os).length := fun j L e => by rw [hι j (Nat.zero_le _)] at e; cases e
  have hinv := inv_start (fn := fn) hsz h0 hG hob hι (Nat.zero_le _) him hL
  refine calls_of_x hm hf hb ⟨rfl, rfl⟩ hinv h ?_
  intro N dfs qb g os hfin S ι un a w hi
  obtain ⟨rs, hrs, h2⟩ := opt_e hfin
  obtain ⟨rv', hrv, h3⟩ := opt_e h2
  rw [fAV_eq] at h3
  subst h3
  obtain ⟨v, hv1, hv2⟩ := results_ok (P := P) hi hrs
  have hcl := closeAV_ok hi.ob 8 _ _ _ hv2 hrv
  have hR : ∃ v' S' ι', Ending.returned v = .returned v' ∧ Fr (OwOf w0 ι0 []) w0 w ∧ (∀ b, S' b → (S0 b ∨ OwOf w0 ι0 [] b) ∧ b < w.heap.size) ∧ (∀ b, S0 b → S' b) ∧ ι0.le ι' ∧
      (∀ o, W ≤ o → ι' o = none) ∧ Rep S' w ι' rv' v' ∧ ObjsOk (OwOf w0 ι0 []) S' w ι' (lk []) := by
    refine ⟨v, SV S ι (toFS g os).os (os.map (·.1)), ι0, rfl, hi.fr, fun b hb => ⟨?_, SV_lt hi _ b hb⟩, ?_, Imap.le_refl _, fun o _ => hι o (Nat.zero_le _), .imm _ _ hcl,
      ⟨fun o x hx => by simp [lk] at hx, fun o x hx => by simp [lk] at hx, fun o o' x x' hx => by simp [lk] at hx⟩⟩
    · rcases hb with hb | ⟨o, x, l, _, hx, hl, rfl⟩
      · exact hi.sn b hb
      · by_cases hlv : x.live = true
        · exact .inr (hi.own o x hx hlv l hl _ (.inl rfl)).1
        · have hob2 := hi.ob o x hx
          cases x with
          | froz rs =>
            rcases hob2 with ⟨q, _⟩ | ⟨l', vals, q, _, hS, _⟩
            · rw [q] at hl; cases hl
            · rw [q] at hl; injection hl with hl; injection hl with hl; subst hl
              exact hi.sn _ hS
          | rows p rs => exact absurd rfl hlv
          | mapo p es => exact absurd rfl hlv
          | fmap z fs hh => exact absurd rfl hlv
          | lit rs => exact absurd rfl hlv
    · exact fun b hb => .inl (hi.s0 b hb)
  exact ⟨v, hv1, hR⟩
/-- the end of a function that hands back objects -/
def finG (P : Program) (rs : List ResultVar) (_m : Nat) (Qr : AV → Os → Prop) (g : Tm) (os : Os) : Prop :=
  opt (resA P g os rs) fun vs => fAV (one vs) fun v => fO os fun os => Qr v os
/-- what stands at the end is (rv, os'), under other numbers, and more -/
structure EndG (m : Nat) (rv : AV) (os' : Os) (v : AV) (os : Os) : Prop where
  h : ∃ os2 σ, Fills os os2 ∧ Cov m [(0, v)] os2 σ [(0, rv)] os' W
theorem endG_i {m : Nat} {rv : AV} {os' : Os} {v : AV} {os : Os} (σ : List (Nat × Nat)) (h2 : renAV (ap σ) rv = v)
    (h3 : os'.map (fun e => some (renO (ap σ) e.2)) = os'.map fun e => lk os (ap σ e.1))
    (h1 : (idsB W rv && os'.all (fun e => decide (e.1 < W) && idsBO W e.2) && decide ((os'.map fun e => ap σ e.1).Nodup) && decide (m ≤ W) && (List.range m).all (fun j => ap σ j == j)) = true) :
    EndG m rv os' v os := ⟨os, σ, .refl os, by simpa using h1, .of_eq (by simp [lookG, h2]), .of_eq h3⟩
theorem endG_w {m : Nat} {rv : AV} {os' : Os} {v : AV} {os : Os} (σ : List (Nat × Nat)) (h2 : Wk v (renAV (ap σ) rv))
    (h3 : WkOs (os'.map fun e => lk os (ap σ e.1)) (os'.map fun e => some (renO (ap σ) e.2)))
    (h1 : (idsB W rv && os'.all (fun e => decide (e.1 < W) && idsBO W e.2) && decide ((os'.map fun e => ap σ e.1).Nodup) && decide (m ≤ W) && (List.range m).all (fun j => ap σ j == j)) = true) :
    EndG m rv os' v os := ⟨os, σ, .refl os, by simpa using h1, by simpa [lookG, WkL] using h2, h3⟩
/-- .. behind lists that were lent -/
theorem endG_f {m : Nat} {rv : AV} {os' : Os} {v : AV} {os os2 : Os} (hF : Fills os os2) (h : EndG m rv os' v os2) : EndG m rv os' v os := by
  obtain ⟨os3, σ, h1, h2⟩ := h.h
  refine ⟨os3, σ, ?_, h2⟩
  clear h2 h
  induction hF with
  | refl => exact h1
  | step os o z fs i q k rs os2 g1 g2 g3 g4 g5 _ ih => exact .step os o z fs i q k rs os3 g1 g2 g3 g4 g5 (ih h1)

/-- THE CONTRACT of a function that is handed objects, and hands back objects -/
theorem FC_ofG {P : Program} {G : Gmap} {f : Nat} {fn : Func} {c : Code} {oin : Os} {args : List AV} {rv : AV} {os' : Os} (fuel : Nat) (hf : P.funcs[f]? = some fn) (hb : fn.body = some c)
    (hn : callB P f = true) (hm : P.follows .mixedOrders = true) (hsz : args.length ≤ fn.ntmps) (hin : oin.length ≤ W) (hos : (os'.all fun e => decide (e.1 < W)) = true)
    (h : xcode P G ⟨0, fn.ntmps, false⟩ oin.length (finG P fn.results.toList oin.length (EndG oin.length rv os')) fuel [.code c] (argsG args 0) oin W) : FC P G f oin args rv os' := by
  refine ⟨hn, fun o x hx => ?_, fun S0 ι0 w0 vs h0 hG hob hι hL => ?_⟩
  · have := List.all_eq_true.1 hos _ (lk_mem hx)
    simpa using this
  have him : ∀ j L, ι0 j = some L → j < oin.length := fun j L e => by
    rcases Nat.lt_or_ge j oin.length with q | q
    · exact q
    · rw [hι j q] at e; cases e
  have hinv := inv_start (fn := fn) hsz h0 hG hob hι hin him hL
  refine calls_of_x hm hf hb ⟨rfl, rfl⟩ hinv h ?_
  intro N dfs qb g os hfin S ι un a w hi
  obtain ⟨rs, hrs, h2⟩ := opt_e hfin
  rw [fAV_eq, fO_eq] at h2
  obtain ⟨os2, σ, hfl, hc⟩ := h2
  obtain ⟨v, hv1, hv2⟩ := results_ok (P := P) hi hrs
  let C' : Cx := ⟨G, w0, ⟨0, 1, false⟩, OwOf w0 ι0 oin, S0, oin.length, ι0, him, fun _ => undef, [], []⟩
  have hi' : Inv C' S ι un (toFS [(0, one rs)] os) { tmps := #[v], defers := [] } w := by
    refine ⟨fun t => ?_, rfl, ⟨rfl, fun t ht => absurd ht (Nat.not_lt_zero t), fun q hq => (by cases hq)⟩, hi.ob, hi.own, hi.inj, hi.sb, hi.sn, hi.un, hi.fr, hi.fo, hi.gv, hi.s0, hi.hj⟩
    cases t with
    | zero => exact hv2
    | succ t => exact .imm _ _ (.undef _)
  obtain ⟨ι2, hi2⟩ := (Inv.fills hfl hi').cov hc
  have hrv : Rep S w ι2 rv v := hi2.tm 0
  have hR : ∃ v' S' ι', Ending.returned v = .returned v' ∧ Fr (OwOf w0 ι0 oin) w0 w ∧ (∀ b, S' b → (S0 b ∨ OwOf w0 ι0 oin b) ∧ b < w.heap.size) ∧ (∀ b, S0 b → S' b) ∧ ι0.le ι' ∧
      (∀ o, W ≤ o → ι' o = none) ∧ Rep S' w ι' rv v' ∧ ObjsOk (OwOf w0 ι0 oin) S' w ι' (lk os') :=
    ⟨v, S, ι2, rfl, hi2.fr, fun b hb => ⟨hi2.sn b hb, hi2.sb b hb⟩, hi2.s0, fun j L e => hi2.hj j L e, hi2.un, hrv, ⟨hi2.ob, hi2.own, hi2.inj⟩⟩
  exact ⟨v, hv1, hR⟩
/-- what is handed back as objects may be taken as values alone -/
theorem FC_close {P : Program} {G : Gmap} {f : Nat} {args : List AV} {rv rv' : AV} {os' : Os} (h : FC P G f [] args rv os') (hV : closeAV (os'.map (·.1)) (lk os') 8 rv = some rv') :
    FC P G f [] args rv' [] := by
  refine ⟨h.1, fun o x hx => by simp [lk] at hx, fun S0 ι0 w0 vs h0 hG hob hι hL => ?_⟩
  refine (h.2.2 S0 ι0 w0 vs h0 hG hob hι hL).mono ?_
  rintro e w' ⟨v, S', ι', rfl, hfr, hS1, hS2, hle, hιW, hrep, hob'⟩
  have hcl := closeAV_ok hob'.ob 8 _ _ _ hrep hV
  refine ⟨v, SV S' ι' (lk os') (os'.map (·.1)), ι', rfl, hfr, fun b hb => ?_, fun b hb => .inl (hS2 b hb), hle, hιW, .imm _ _ hcl,
    ⟨fun o x hx => by simp [lk] at hx, fun o x hx => by simp [lk] at hx, fun o o' x x' hx => by simp [lk] at hx⟩⟩
  rcases hb with hb | ⟨o, x, l, _, hx, hl, rfl⟩
  · exact hS1 b hb
  · by_cases hlv : x.live = true
    · have := hob'.own o x hx hlv l hl _ (.inl rfl)
      exact ⟨.inr this.1, this.2.2⟩
    · have hob2 := hob'.ob o x hx
      cases x with
      | froz rs =>
        rcases hob2 with ⟨q, _⟩ | ⟨l', vals, q, _, hS, _⟩
        · rw [q] at hl; cases hl
        · rw [q] at hl; injection hl with hl; injection hl with hl; subst hl
          exact hS1 _ hS
      | rows p rs => exact absurd rfl hlv
      | mapo p es => exact absurd rfl hlv
      | fmap z fs hh => exact absurd rfl hlv
      | lit rs => exact absurd rfl hlv
end Go.Ab
