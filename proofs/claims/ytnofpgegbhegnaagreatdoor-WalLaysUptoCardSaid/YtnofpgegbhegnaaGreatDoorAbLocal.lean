/-
  AbLocal: a step hangs on its operands and on the objects that it names, and on nothing else.
-/
import Derived.Test.YtnofpgegbhegnaaGreatDoorAbCall
namespace Go.Ab

def opTmps (op : Op) : List Nat := op.operands.toList.filterMap fun | .tmp t => some t | _ => none

section
variable {P : Program} {G : Gmap} {ev ev' : Operand → AV} {ol ol' : Nat → Option AO}

theorem fillA_congr {place : Nat → Option (Nat × Nat)} : ∀ (parts : List (Nat × Operand)) (cs : List AV), (∀ x, x ∈ parts → ev' x.2 = ev x.2) → fillA ev' place parts cs = fillA ev place parts cs := by
  intro parts
  induction parts with
  | nil => intro cs _; rfl
  | cons p r ih =>
    intro cs h
    obtain ⟨i, x⟩ := p
    have hx : ev' x = ev x := h (i, x) (by simp)
    simp only [fillA, hx]
    split
    · split
      · exact ih _ (fun y hy => h y (by simp [hy]))
      · rfl
    · rfl

theorem build_ops (t : TypeId) (parts : Array (Nat × Operand)) {x : Nat × Operand} (hx : x ∈ parts.toList) : x.2 ∈ (Op.build t parts).operands.toList := by
  simp only [Op.operands]
  simpa using ⟨x.1, by simpa using hx⟩

theorem pval_congr {op : Op} (h : ∀ x, x ∈ op.operands.toList → ev' x = ev x) : pval P ev' op = pval P ev op := by
  have one : ∀ x, x ∈ op.operands.toList → ev' x = ev x := h
  cases op with
  | move x => simp only [pval, one x (by simp [Op.operands])]
  | assign x => simp only [pval, one x (by simp [Op.operands])]
  | fieldAddr s x i => simp only [pval, one x (by simp [Op.operands])]
  | field s x i => simp only [pval, one x (by simp [Op.operands])]
  | unOp op t x => simp only [pval, one x (by simp [Op.operands])]
  | binOp op t x y t' => simp only [pval, one x (by simp [Op.operands]), one y (by simp [Op.operands])]
  | extract t i => simp only [pval, one t (by simp [Op.operands])]
  | build t parts =>
    simp only [pval, buildA]
    have hp : ∀ x, x ∈ parts.toList → ev' x.2 = ev x.2 := fun x hx => h x.2 (build_ops t parts hx)
    split
    · rfl
    · split
      · split
        · rw [fillA_congr _ _ hp]
        · rfl
      · split
        · rw [fillA_congr _ _ hp]
        · rfl
      · rfl
  | makeFunc fn first cap =>
    cases fn with
    | func f =>
      simp only [pval]
      have h1 : cap.toList.map ev' = cap.toList.map ev := List.map_congr_left (fun x hx => h x (by simp only [Op.operands]; simp; exact .inr (by simpa using hx)))
      have h2 : first.toList.map ev' = first.toList.map ev := List.map_congr_left (fun x hx => h x (by simp only [Op.operands]; simp; exact .inl (by simpa using hx)))
      rw [h1, h2]
    | _ => rfl
  | nilCheck x => simp only [pval, one x (by simp [Op.operands])]
  | convert s d x => simp only [pval, one x (by simp [Op.operands])]
  | call c =>
    obtain ⟨callee, args, ts⟩ := c
    cases callee with
    | builtin b =>
      have hargs : ∀ x, x ∈ args.toList → ev' x = ev x := fun x hx => h x (by simp only [Op.operands, Call.operands]; simpa using hx)
      cases b with
      | len =>
        simp only [pval]
        split
        · rename_i t x h1 h2
          rw [hargs x (Array.mem_toList_iff.2 (Array.mem_of_getElem? h2))]
        · rfl
      | max =>
        simp only [pval]
        split
        · rename_i x y hl
          rw [hargs x (by rw [hl]; simp), hargs y (by rw [hl]; simp)]
        · rfl
      | min =>
        simp only [pval]
        split
        · rename_i x y hl
          rw [hargs x (by rw [hl]; simp), hargs y (by rw [hl]; simp)]
        · rfl
      | _ => rfl
    | _ => rfl
  | _ => rfl

theorem optMap_congr {α β : Type} {f g : α → Option β} : ∀ {l : List α}, (∀ x, x ∈ l → f x = g x) → optMap f l = optMap g l := by
  intro l
  induction l with
  | nil => intro _; rfl
  | cons a r ih => intro h; simp only [optMap]; rw [h a (by simp), ih (fun x hx => h x (by simp [hx]))]

theorem closeAV_congr {V : List Nat} (h : ∀ o, o ∈ V → ol' o = ol o) : ∀ n, closeAV V ol' n = closeAV V ol n := by
  intro n
  induction n with
  | zero => funext x; rfl
  | succ n ih =>
    funext x
    cases x with
    | osw o z =>
      simp only [closeAV]
      split
      · rename_i hV
        rw [h o (by simpa using hV), ih]
      · rfl
    | osl o off len room =>
      simp only [closeAV]
      split
      · rename_i hV
        rw [h o (by simpa using hV), ih]
      · rfl
    | ptr o r c =>
      simp only [closeAV]
      split
      · rename_i hV
        rw [h o (by simpa using hV), ih]
      · rfl
    | agg cs => simp only [closeAV, ih]
    | tup cs => simp only [closeAV, ih]
    | fn f cs => simp only [closeAV, ih]
    | _ => rfl

theorem frozen_congr {V : List Nat} (h : ∀ o, o ∈ V → ol' o = ol o) (n : Nat) : frozen V ol' n = frozen V ol n := by
  unfold frozen
  exact optMap_congr (fun o ho => by rw [h o ho, closeAV_congr h n])

theorem bndP_congr {o : Option Operand} {d n : Nat} (h : ∀ x, o = some x → ev' x = ev x) (hb : bndP ev o d n) : bndP ev' o d n := by
  cases o with
  | none => exact hb
  | some x =>
    obtain ⟨k, i, h1, h2⟩ := hb
    exact ⟨k, i, by rw [h x rfl]; exact h1, h2⟩

theorem listA_congr {x : AV} {q : Bool × List (List AV) × List Nat} (hx : listA ol x = some q) (h : ∀ o, o ∈ q.2.2 → ol' o = ol o) : listA ol' x = some q := by
  cases x with
  | osw o z =>
    have key : ol' o = ol o → listA ol' (.osw o z) = some q := by intro e; simp only [listA, e] at hx ⊢; exact hx
    simp only [listA] at hx
    split at hx
    · injection hx with hx; subst hx; exact key (h o (by simp))
    · injection hx with hx; subst hx; exact key (h o (by simp))
    · cases hx
  | osl o a b c =>
    have key : ol' o = ol o → listA ol' (.osl o a b c) = some q := by intro e; simp only [listA, e] at hx ⊢; exact hx
    simp only [listA] at hx
    split at hx
    · injection hx with hx; subst hx; exact key (h o (by simp))
    · injection hx with hx; subst hx; exact key (h o (by simp))
    · cases hx
  | _ => exact hx

theorem BStep.local {id : Nat} {op : Op} {v : AV} {U : List (Nat × Option AO)} {RO : List Nat} (h : BStep P ev ol id op v U RO)
    (hev : ∀ x, x ∈ op.operands.toList → ev' x = ev x) (hol : ∀ o, o ∈ RO ∨ o ∈ U.map (·.1) → ol' o = ol o) : BStep P ev' ol' id op v U RO := by
  have bnd : ∀ {t x lo hi mx}, op = .slice t x lo hi mx → (ev' x = ev x) ∧ (∀ d n, bndP ev lo d n → bndP ev' lo d n) ∧ (∀ d n, bndP ev hi d n → bndP ev' hi d n) ∧ (∀ y, hi = some y → ev' y = ev y) ∧ (∀ y, mx = some y → ev' y = ev y) := by
    intro t x lo hi mx e
    subst e
    have hx := hev x (by simp [Op.operands])
    have hlo : ∀ y, lo = some y → ev' y = ev y := fun y e => by subst e; exact hev y (by simp [Op.operands])
    have hhi : ∀ y, hi = some y → ev' y = ev y := fun y e => by subst e; exact hev y (by simp [Op.operands])
    have hmx : ∀ y, mx = some y → ev' y = ev y := fun y e => by subst e; exact hev y (by simp [Op.operands])
    exact ⟨hx, fun d n => bndP_congr hlo, fun d n => bndP_congr hhi, hhi, hmx⟩
  cases h with
  | slStr t x lo hi l a b hx ht ha hb hab hbl =>
    obtain ⟨e1, e2, e3, _⟩ := bnd rfl
    exact .slStr t x lo hi l a b (by rw [e1]; exact hx) ht (e2 _ _ ha) (e3 _ _ hb) hab hbl
  | slSl t x lo hi xs a b sz hx ht hl ha hb hab hbl =>
    obtain ⟨e1, e2, e3, _⟩ := bnd rfl
    exact .slSl t x lo hi xs a b sz (by rw [e1]; exact hx) ht hl (e2 _ _ ha) (e3 _ _ hb) hab hbl
  | slZero t x lo hh m k k' q sz hs hx ht ha h1 h2 =>
    obtain ⟨e1, e2, e3, e4, e5⟩ := bnd rfl
    exact .slZero t x lo hh m k k' q sz (by rw [e1]; exact hs) (by rw [e1]; exact listA_congr hx (fun o ho => hol o (.inl ho))) ht (e2 _ _ ha) (by rw [e4 _ rfl]; exact h1) (by rw [e5 _ rfl]; exact h2)
  | slOsw t x lo hi o z a b sz y rs hx ho hy hr ht ha hb hab hbl =>
    obtain ⟨e1, e2, e3, _⟩ := bnd rfl
    exact .slOsw t x lo hi o z a b sz y rs (by rw [e1]; exact hx) (by rw [hol o (by simp)]; exact ho) hy hr ht (e2 _ _ ha) (e3 _ _ hb) hab hbl
  | cutW t x hi o z b rs hx ho hr ht hb hbl =>
    obtain ⟨e1, e2, e3, _⟩ := bnd rfl
    exact .cutW t x hi o z b rs (by rw [e1]; exact hx) (by rw [hol o (by simp)]; exact ho) hr ht (e3 _ _ hb) hbl
  | slOsl t x lo hi o off len room a b sz y rs hx ho hy hr ht ha hb hab hbl hbr =>
    obtain ⟨e1, e2, e3, _⟩ := bnd rfl
    exact .slOsl t x lo hi o off len room a b sz y rs (by rw [e1]; exact hx) (by rw [hol o (by simp)]; exact ho) hy hr ht (e2 _ _ ha) (e3 _ _ hb) hab hbl hbr
  | mkSl t l c k k' n m z sz hl hc h0 h1 h2 ht hz =>
    exact .mkSl t l c k k' n m z sz (by rw [hev l (by simp [Op.operands])]; exact hl) (by rw [hev c (by simp [Op.operands])]; exact hc) h0 h1 h2 ht hz
  | bldSl t len parts z cs sz ht hz hlim hlim2 hcl hall hf =>
    refine .bldSl t len parts z cs sz ht hz hlim hlim2 hcl hall ?_
    rw [fillA_congr _ _ (fun x hx => hev x.2 (by simp only [Op.operands]; simpa using ⟨x.1, by simpa using hx⟩))]
    exact hf
  | appE t tx s x q sz hs hx ht htx hr hlim =>
    refine .appE t tx s x q sz (by rw [hev s (by simp [Op.operands, Call.operands])]; exact hs) ?_ ht htx hr hlim
    rw [hev x (by simp [Op.operands, Call.operands])]
    exact listA_congr hx (fun o ho => hol o (.inl ho))
  | appW t tx s x q sz o z p rs hs hz ho hx ht htx hr hr' hlim =>
    refine .appW t tx s x q sz o z p rs (by rw [hev s (by simp [Op.operands, Call.operands])]; exact hs) hz (by rw [hol o (by simp)]; exact ho) ?_ ht htx hr hr' hlim
    rw [hev x (by simp [Op.operands, Call.operands])]
    exact listA_congr hx (fun o ho => hol o (.inl ho))
  | toBytes s d x l hx ht hl => exact .toBytes s d x l (by rw [hev x (by simp [Op.operands])]; exact hx) ht hl
  | toStr s d x l q hs hx hl ht =>
    have e1 := hev x (by simp [Op.operands])
    exact .toStr s d x l q (by rw [e1]; exact hs) (by rw [e1]; exact listA_congr hx (fun o ho => hol o (.inl ho))) hl ht
  | mkMap t h => exact .mkMap t h
  | mkMapN t x k n h hx => exact .mkMapN t x k n h (by rw [hev x (by simp [Op.operands])]; exact hx)
  | mapUpd _ t kt m k x hop o pf es r hm ho ht hk hr hlim vx hwx =>
    have e1 : ev' m = ev m := hev m (by rcases hop with rfl | rfl <;> simp [Op.operands])
    have e2 : ev' k = ev k := hev k (by rcases hop with rfl | rfl <;> simp [Op.operands])
    have e3 : ev' x = ev x := hev x (by rcases hop with rfl | rfl <;> simp [Op.operands])
    have := BStep.mapUpd (P := P) (ev := ev') (ol := ol') (id := id) op t kt m k x hop o pf es r (by rw [e1]; exact hm) (by rw [hol o (by simp)]; exact ho) ht (by rw [e2]; exact hk) (by rw [e2]; exact hr) hlim vx (by rw [e3]; exact hwx)
    rw [e2] at this
    exact this
  | look t kt m k ok o pf es r v hm ho ht hk hr hv =>
    have e1 : ev' m = ev m := hev m (by simp [Op.operands])
    have e2 : ev' k = ev k := hev k (by simp [Op.operands])
    exact .look t kt m k ok o pf es r v (by rw [e1]; exact hm) (by rw [hol o (by simp)]; exact ho) ht (by rw [e2]; exact hk) (by rw [e2]; exact hr) hv
  | lookN t kt vt m k ok v hm ht hk hvt hz =>
    have e1 : ev' m = ev m := hev m (by simp [Op.operands])
    have e2 : ev' k = ev k := hev k (by simp [Op.operands])
    exact .lookN t kt vt m k ok v (by rw [e1]; exact hm) ht (by rw [e2]; exact hk) hvt hz

theorem FStep.local {id : Nat} {op : Op} {v : AV} {U : List (Nat × Option AO)} {RO : List Nat} (h : FStep P ev ol id op v U RO)
    (hev : ∀ x, x ∈ op.operands.toList → ev' x = ev x) (hol : ∀ o, o ∈ RO ∨ o ∈ U.map (·.1) → ol' o = ol o) : FStep P ev' ol' id op v U RO := by
  cases h with
  | look t kt m k ok o z fs i e hm ho ht hk hr he =>
    have e1 : ev' m = ev m := hev m (by simp [Op.operands])
    have e2 : ev' k = ev k := hev k (by simp [Op.operands])
    exact .look t kt m k ok o z fs i e (by rw [e1]; exact hm) (by rw [hol o (by simp)]; exact ho) ht (by rw [e2]; exact hk) (by rw [e2]; exact hr) he
  | peek t kt m k o z fs h r hm ho ht hk hr hz =>
    have e1 : ev' m = ev m := hev m (by simp [Op.operands])
    have e2 : ev' k = ev k := hev k (by simp [Op.operands])
    exact .peek t kt m k o z fs h r (by rw [e1]; exact hm) (by rw [hol o (by simp)]; exact ho) ht (by rw [e2]; exact hk) (by rw [e2]; exact hr) hz
  | lookNo t kt m k ok o z fs h v hm ho ht hk hr hv =>
    have e1 : ev' m = ev m := hev m (by simp [Op.operands])
    have e2 : ev' k = ev k := hev k (by simp [Op.operands])
    exact .lookNo t kt m k ok o z fs h v (by rw [e1]; exact hm) (by rw [hol o (by simp)]; exact ho) ht (by rw [e2]; exact hk) (by rw [e2]; exact hr) hv
  | upd _ t kt m k x hop o z q fs h r rs hm ho ht hk hr hh hlim hx hq hl hz hne =>
    have e1 : ev' m = ev m := hev m (by rcases hop with rfl | rfl <;> simp [Op.operands])
    have e2 : ev' k = ev k := hev k (by rcases hop with rfl | rfl <;> simp [Op.operands])
    have e3 : ev' x = ev x := hev x (by rcases hop with rfl | rfl <;> simp [Op.operands])
    have := FStep.upd (P := P) (ev := ev') (ol := ol') (id := id) op t kt m k x hop o z q fs h r rs (by rw [e1]; exact hm) (by rw [hol o (by simp)]; exact ho) ht (by rw [e2]; exact hk) (by rw [e2]; exact hr) hh hlim (by rw [e3]; exact hx) (by rw [hol q (by simp)]; exact hq) hl hz hne
    rw [e2] at this
    exact this
  | del t tk kt m k o z fs h r hm ho ht hk hr hh =>
    have e1 : ev' m = ev m := hev m (by simp [Op.operands, Call.operands])
    have e2 : ev' k = ev k := hev k (by simp [Op.operands, Call.operands])
    exact .del t tk kt m k o z fs h r (by rw [e1]; exact hm) (by rw [hol o (by simp)]; exact ho) ht (by rw [e2]; exact hk) (by rw [e2]; exact hr) hh
  | len x ts args t o z fs h ha hts ht hx ho =>
    exact .len x ts args t o z fs h ha hts ht (by rw [hev x (by simp only [Op.operands, Call.operands]; simp; exact Array.mem_of_getElem? ha)]; exact hx) (by rw [hol o (by simp)]; exact ho)
  | nilqW t t' e x o z p rs hx ho ht => exact .nilqW t t' e x o z p rs (by rw [hev x (by simp [Op.operands])]; exact hx) (by rw [hol o (by simp)]; exact ho) ht
  | clr t x o off len room p rs z sz h ho ht hz hr hbr =>
    exact .clr t x o off len room p rs z sz (by rw [hev x (by simp [Op.operands, Call.operands])]; exact h) (by rw [hol o (by simp)]; exact ho) ht hz hr hbr
  | mk t z h => exact .mk t z h
  | litS t len parts z cs ht hz h1 h2 h3 h4 h5 h6 hf =>
    refine .litS t len parts z cs ht hz h1 h2 h3 h4 h5 h6 ?_
    rw [fillA_congr _ _ (fun x hx => hev x.2 (by simp only [Op.operands]; simpa using ⟨x.1, by simpa using hx⟩))]; exact hf
  | cnv s d x o rs hx ho ht => exact .cnv s d x o rs (by rw [hev x (by simp [Op.operands])]; exact hx) (by rw [hol o (by simp)]; exact ho) ht

/-- THE STEP, FROM ANOTHER STATE that agrees on what it names -/
theorem AStep.local {id : Nat} {op : Op} {v : AV} {U : List (Nat × Option AO)} {RO : List Nat} (h : AStep P G ev ol id op v U RO)
    (hev : ∀ x, x ∈ op.operands.toList → ev' x = ev x) (hol : ∀ o, o ∈ RO ∨ o ∈ U.map (·.1) → ol' o = ol o) : AStep P G ev' ol' id op v U RO := by
  cases h with
  | more op v U RO h => exact .more op v U RO (h.local hev hol)
  | files op v U RO h => exact .files op v U RO (h.local hev hol)
  | pure op v h => exact .pure op v (by rw [pval_congr hev]; exact h)
  | nil z => exact .nil z
  | pick c a b t h =>
    have hc := hev c (by simp [Op.operands])
    have := AStep.pick (P := P) (G := G) (ev := ev') (ol := ol') (id := id) c a b t (by rw [hc]; exact h)
    rw [hev a (by simp [Op.operands]), hev b (by simp [Op.operands])] at this
    exact this
  | alloc t cs h => exact .alloc t cs h
  | box t x cs h => exact .box t x cs (by rw [hev x (by simp [Op.operands])]; exact h)
  | load t a o i c p rs row v h ho hr hl => exact .load t a o i c p rs row v (by rw [hev a (by simp [Op.operands])]; exact h) (by rw [hol o (by simp)]; exact ho) hr hl
  | loadf t a o i c rs row v h ho hr hl => exact .loadf t a o i c rs row v (by rw [hev a (by simp [Op.operands])]; exact h) (by rw [hol o (by simp)]; exact ho) hr hl
  | loadr t a row c v h hl => exact .loadr t a row c v (by rw [hev a (by simp [Op.operands])]; exact h) hl
  | store t a x o i c p rs row cs b n h ho hr hc hk hn hb =>
    exact .store t a x o i c p rs row cs b n (by rw [hev a (by simp [Op.operands])]; exact h) (by rw [hol o (by simp)]; exact ho) hr (by rw [hev x (by simp [Op.operands])]; exact hc) hk hn hb
  | idxSl t e x ix xs k n row b h hi h0 hr ht hk => exact .idxSl t e x ix xs k n row b (by rw [hev x (by simp [Op.operands])]; exact h) (by rw [hev ix (by simp [Op.operands])]; exact hi) h0 hr ht hk
  | idxOsw t e x ix o z k n y rs row b h hi h0 ho hy hr ht hk =>
    exact .idxOsw t e x ix o z k n y rs row b (by rw [hev x (by simp [Op.operands])]; exact h) (by rw [hev ix (by simp [Op.operands])]; exact hi) h0 (by rw [hol o (by simp)]; exact ho) hy hr ht hk
  | idxOsl t e x ix o off len room k n y rs row b h hi h0 h1 ho hy hr ht hk =>
    exact .idxOsl t e x ix o off len room k n y rs row b (by rw [hev x (by simp [Op.operands])]; exact h) (by rw [hev ix (by simp [Op.operands])]; exact hi) h0 h1 (by rw [hol o (by simp)]; exact ho) hy hr ht hk
  | idxArr t e x ix o r c len sz k n b h hi h0 h1 ht hk => exact .idxArr t e x ix o r c len sz k n b (by rw [hev x (by simp [Op.operands])]; exact h) (by rw [hev ix (by simp [Op.operands])]; exact hi) h0 h1 ht hk
  | idxArrR t e x ix row c len sz k n b h hi h0 h1 ht hk => exact .idxArrR t e x ix row c len sz k n b (by rw [hev x (by simp [Op.operands])]; exact h) (by rw [hev ix (by simp [Op.operands])]; exact hi) h0 h1 ht hk
  | strIx t x ix l k n c h hi h0 hr ht => exact .strIx t x ix l k n c (by rw [hev x (by simp [Op.operands])]; exact h) (by rw [hev ix (by simp [Op.operands])]; exact hi) h0 hr ht
  | arrIx t e x ix cs len sz k n b v h hi h0 h1 ht hk hl => exact .arrIx t e x ix cs len sz k n b v (by rw [hev x (by simp [Op.operands])]; exact h) (by rw [hev ix (by simp [Op.operands])]; exact hi) h0 h1 ht hk hl
  | quo t t' x y k a b hx hy h0 => exact .quo t t' x y k a b (by rw [hev x (by simp [Op.operands])]; exact hx) (by rw [hev y (by simp [Op.operands])]; exact hy) h0
  | rem t t' x y k a b hx hy h0 => exact .rem t t' x y k a b (by rw [hev x (by simp [Op.operands])]; exact hx) (by rw [hev y (by simp [Op.operands])]; exact hy) h0
  | shl t t' x y k k' a b hx hy h0 => exact .shl t t' x y k k' a b (by rw [hev x (by simp [Op.operands])]; exact hx) (by rw [hev y (by simp [Op.operands])]; exact hy) h0
  | shr t t' x y k k' a b hx hy h0 => exact .shr t t' x y k k' a b (by rw [hev x (by simp [Op.operands])]; exact hx) (by rw [hev y (by simp [Op.operands])]; exact hy) h0
  | cat t t' x y a b hx hy h => exact .cat t t' x y a b (by rw [hev x (by simp [Op.operands])]; exact hx) (by rw [hev y (by simp [Op.operands])]; exact hy) h
  | eqAgg t t' x y cs ds r hx hy hp hg hst hc hd h =>
    exact .eqAgg t t' x y cs ds r (by rw [hev x (by simp [Op.operands])]; exact hx) (by rw [hev y (by simp [Op.operands])]; exact hy) hp hg hst hc hd h
  | neAgg t t' x y cs ds r hx hy hp hg hst hc hd h =>
    exact .neAgg t t' x y cs ds r (by rw [hev x (by simp [Op.operands])]; exact hx) (by rw [hev y (by simp [Op.operands])]; exact hy) hp hg hst hc hd h
  | nilq t t' e x xs hx ht => exact .nilq t t' e x xs (by rw [hev x (by simp [Op.operands])]; exact hx) ht
  | lenOsw x ts args t e o z y rs ha hts ht h ho hy =>
    exact .lenOsw x ts args t e o z y rs ha hts ht (by rw [hev x (by simp only [Op.operands, Call.operands]; simp; exact Array.mem_of_getElem? ha)]; exact h) (by rw [hol o (by simp)]; exact ho) hy
  | call fn args ts f cap V n argsC rv h hv hf hfl =>
    have hm : args.toList.map ev' = args.toList.map ev := List.map_congr_left (fun x hx => hev x (by simp only [Op.operands, Call.operands]; simp; exact .inr (by simpa using hx)))
    refine .call fn args ts f cap _ n argsC _ (by rw [hev fn (by simp [Op.operands, Call.operands])]; exact h) ?_ hf hfl
    rw [hm, closeAV_congr (fun o ho => hol o (.inl ho))]; exact hv
  | callF fn args ts f cap V n argsC rv os' U h hv hf hU =>
    have hm : args.toList.map ev' = args.toList.map ev := List.map_congr_left (fun x hx => hev x (by simp only [Op.operands, Call.operands]; simp; exact .inr (by simpa using hx)))
    refine .callF fn args ts f cap _ n argsC rv os' U (by rw [hev fn (by simp [Op.operands, Call.operands])]; exact h) ?_ hf ?_
    · rw [hm, closeAV_congr (fun o ho => hol o (.inl ho))]; exact hv
    · rw [frozen_congr (fun o ho => hol o (.inl ho))]; exact hU
  | callG fn args ts f cap _ oin argsC rv os' h hh hf =>
    have hm : args.toList.map ev' = args.toList.map ev := List.map_congr_left (fun x hx => hev x (by simp only [Op.operands, Call.operands]; simp; exact .inr (by simpa using hx)))
    refine .callG fn args ts f cap _ oin argsC rv os' (by rw [hev fn (by simp [Op.operands, Call.operands])]; exact h) ?_ hf
    refine ⟨hh.ok, hh.keys, ?_, by rw [hm]; exact hh.args⟩
    have e : RO.map ol' = RO.map ol := List.map_congr_left (fun o ho => hol o (.inl ho))
    rw [e]; exact hh.objs
end
end Go.Ab
