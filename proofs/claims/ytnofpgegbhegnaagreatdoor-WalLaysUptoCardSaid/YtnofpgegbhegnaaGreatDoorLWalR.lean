import Derived.Test.YtnofpgegbhegnaaGreatDoorLWalQ
/-
  LWalS: a disk with one log as the log writes it; the start; awake.
-/
set_option linter.unusedVariables false
set_option linter.unusedSimpArgs false
namespace Go.T
open Go Go.Ab

theorem nm1 : nameL 1 = [108, 111, 103, 45, 49] := by unfold nameL; rw [itoa_nn, Lib.decDigits_one (by decide)]; rfl
theorem nm2 : nameL 2 = [108, 111, 103, 45, 50] := by unfold nameL; rw [itoa_nn, Lib.decDigits_one (by decide)]; rfl
theorem nd1 : disk_named FF (nameL 1) = some true := by rw [nm1]; rfl
theorem nd2 : disk_named FF (nameL 2) = some true := by rw [nm2]; rfl

theorem nameL_len (n : Nat) (h : n ≤ 999999999) : (nameL n).length ≤ 14 := by
  have := name_len n (by omega)
  unfold nameL
  rw [List.length_append]
  show 4 + _ ≤ 14
  omega

theorem di_nil : DI 0 [] := ⟨.nil, rfl, by decide, by decide, (fun e he => by cases he), (fun e he => by cases he)⟩
theorem di_one (n : Nat) (X : List Int) (h : n ≤ 999999999) (hX : X.length ≤ 1048576) (hb : Byt X) : DI (X.length : Int) [(nameL n, X)] := by
  have := nameL_len n h
  refine ⟨by simp, by simp [tot], by simpa [tot] using hX, by simp, ?_, ?_⟩
  · intro e he
    simp only [List.mem_singleton] at he
    subst he; simp only; omega
  · intro e he
    simp only [List.mem_singleton] at he
    subst he; exact hb
theorem only_one (n : Nat) (X : List Int) : Only [(nameL n, X)] n := by
  intro e he _
  simp only [List.mem_singleton] at he
  subst he; rfl
theorem mget_one (n : Nat) (X : List Int) : mget (nameL n) [(nameL n, X)] = some X := by simp [mget]
theorem mput_one (n : Nat) (X Y : List Int) : mput (nameL n) Y [(nameL n, X)] = [(nameL n, Y)] := by simp [mput]
theorem mdel_one (n : Nat) (X : List Int) : mdel (nameL n) [(nameL n, X)] = [] := by simp [mdel]
theorem tot_one (n : Nat) (X : List Int) : tot [(nameL n, X)] = X.length := by simp [tot]

theorem flat_byt {rs : List (List Int)} (h : Recs rs) : Byt (rs.flatMap frameL) := by
  intro y hy
  obtain ⟨r, hr, hy⟩ := List.mem_flatMap.1 hy
  exact frame_byt r (h r hr).2 y hy
theorem log_byt {k : Nat} {rs : List (List Int)} {t : List Int} (h : Recs rs) (ht : Byt t) : Byt (logL k rs t) := Byt.append (frame_byt _ (putN_byt _ _)) (Byt.append (flat_byt h) ht)
theorem frame_pos (r : List Int) : 5 ≤ (frameL r).length := by
  have h9 := putN_len 9 r.length
  have h10 : 1 ≤ (putL r.length).length := h9.1
  rw [frame_len]; omega
theorem flat_len (rs : List (List Int)) : rs.length ≤ (rs.flatMap frameL).length := by
  induction rs with
  | nil => simp
  | cons r rs ih =>
    have := frame_pos r
    rw [List.flatMap_cons, List.length_append, List.length_cons]; omega
theorem log_len (k : Nat) (rs : List (List Int)) (t : List Int) : rs.length ≤ (logL k rs t).length := by
  have := flat_len rs
  unfold logL
  rw [List.length_append, List.length_append]; omega
theorem log_more (k : Nat) (rs : List (List Int)) (r : List Int) : logL k (rs ++ [r]) [] = logL k rs [] ++ frameL r := by
  unfold logL
  rw [List.flatMap_append]; simp
theorem log_head : (logL 0 [] []).length ≤ 24 := by
  unfold logL
  rw [List.flatMap_nil, List.append_nil, List.append_nil, frame_len]
  have h1 := (putN_len 9 (putL 0).length).2
  have h2 := (putN_len 9 0).2
  have h3 : (putL 0).length ≤ 10 := h2
  have h4 : (putL (putL 0).length).length ≤ 10 := h1
  omega

theorem wapp_log (k n : Nat) (rs : List (List Int)) (r : List Int) (cnt : Int) (l : List disk_write) (hn : n ≤ 999999999) (hR : Recs rs) (hl : l.length ≤ 2000000) (hc : 0 ≤ cnt ∧ cnt ≤ 2000000) (hX : (logL k rs []).length ≤ 1048576) (hb : Byt r) :
    (∃ e, e ≠ 0 ∧ __wal_Wal__Append_i1 FF r (nameL n) (n : Int) cnt ((logL k rs []).length : Int) [(nameL n, logL k rs [])] l = some (e, nameL n, (n : Int), cnt, ((logL k rs []).length : Int), [(nameL n, logL k rs [])], l) ∧
      (65536 < r.length ∨ disk_named FF (nameL n) ≠ some true ∨ 1048576 < (logL k (rs ++ [r]) []).length)) ∨
    (__wal_Wal__Append_i1 FF r (nameL n) (n : Int) cnt ((logL k rs []).length : Int) [(nameL n, logL k rs [])] l = some (0, nameL n, (n : Int), cnt + 1, ((logL k (rs ++ [r]) []).length : Int), [(nameL n, logL k (rs ++ [r]) [])], l ++ [wv (nameL n) r]) ∧
      Recs (rs ++ [r]) ∧ (logL k (rs ++ [r]) []).length ≤ 1048576) := by
  have hnl := nameL_len n hn
  have hm := log_more k rs r
  rcases wappend_spec r (nameL n) (n : Int) cnt _ _ l (by omega) (di_one n _ hn hX (log_byt hR Byt.nil)) hl hc with ⟨e, he, h1, h2⟩ | ⟨h1, h2, h3, h4, h5⟩
  · rw [tot_one, mget_one] at h2
    refine .inl ⟨e, he, h1, ?_⟩
    rw [hm, List.length_append]
    rcases h2 with q | q | q | ⟨q, _⟩
    · exact .inl q
    · exact .inr (.inl q)
    · exact .inr (.inr q)
    · cases q
  · rw [tot_one, ← List.length_append, ← hm] at h4
    rw [mget_one, Option.getD_some, mput_one, ← hm] at h1
    refine .inr ⟨?_, ?_, h4⟩
    · rw [h1]
      have : ((logL k rs []).length : Int) + ((frameL r).length : Int) = ((logL k (rs ++ [r]) []).length : Int) := by rw [hm, List.length_append]; omega
      rw [this]; rfl
    · intro x hx
      rcases List.mem_append.1 hx with hx | hx
      · exact hR x hx
      · simp only [List.mem_singleton] at hx
        subst hx; exact ⟨h2, hb⟩

theorem open_empty : wal_Open FF 0 [] [] = some (.inr ([], 0, ((logL 0 [] []).length : Int), [(nameL 1, logL 0 [] [])], nameL 1, 1, 0, [])) := by
  rw [open_eq 0 [] [] di_nil, show numsO [] = [] from by unfold numsO sortS sortI; simp]
  unfold wal_Open_r1
  rw [Option.bind_some]
  rcases reset_spec [] [] 0 0 0 [] [] (by simp) (fun x hx => by cases hx) (by omega) di_nil (by simp) (fun _ _ _ => rfl) (.inl rfl) with ⟨_, x, hx, _⟩ | ⟨c2, c', fs', l', _, hwhy⟩ | ⟨g1, g2, c', l', g, g3, g4, g5⟩
  · cases hx
  · exfalso
    have := log_head
    rcases hwhy with q | q | q | q
    · rw [name_num (by omega) (by omega)] at q; omega
    · exact q nd1
    · rw [show tot [] = 0 from rfl] at q
      rw [List.length_nil] at q
      omega
    · exact absurd q (by decide)
  · have hl : l' = [] := List.eq_nil_of_length_eq_zero (by rw [List.length_nil] at g5; omega)
    subst hl
    have hc := g3.tot
    have hb : base [] [] = [] := rfl
    rw [hb, List.nil_append, tot_one] at hc
    rw [hb, List.nil_append, hc] at g
    exact fin_ok g

theorem wapp_own (q : List UInt8) (n k c : Int) (r : List Int) (fs : Fs) (l : List disk_write) {e n' k' c' : Int} {q' : List UInt8} {fs' : Fs} {l' : List disk_write} (h : __wal_Wal__Append_i1 FF r q n k c fs l = some (e, q', n', k', c', fs', l')) :
    __wal_Wal__Append FF q n k r c fs l = some (e, q', n', k', r, c', fs', l') := by
  unfold __wal_Wal__Append_i1 at h
  unfold __wal_Wal__Append
  cases hf : wal_framed FF r with
  | none => rw [hf] at h; cases h
  | some y =>
    rw [hf] at h
    rw [Option.bind_some] at h ⊢
    cases hy : (y.2 != 0) with
    | true =>
      rw [hy, cond_true] at h
      rw [cond_true]
      injection h with h
      injection h with h1 h; injection h with h2 h; injection h with h3 h; injection h with h4 h; injection h with h5 h; injection h with h6 h7
      subst h1 h2 h3 h4 h5 h6 h7
      rfl
    | false =>
      rw [hy, cond_false] at h
      rw [cond_false]
      cases ha : __disk_Disk__Append FF q y.1 c fs l with
      | none => rw [ha] at h; cases h
      | some z =>
        rw [ha] at h
        rw [Option.bind_some] at h ⊢
        cases hz : (z.1 != 0) with
        | true =>
          rw [hz, cond_true] at h
          rw [cond_true]
          injection h with h
          injection h with h1 h; injection h with h2 h; injection h with h3 h; injection h with h4 h; injection h with h5 h; injection h with h6 h7
          subst h1 h2 h3 h4 h5 h6 h7
          rfl
        | false =>
          rw [hz, cond_false] at h
          rw [cond_false]
          injection h with h
          injection h with h1 h; injection h with h2 h; injection h with h3 h; injection h with h4 h; injection h with h5 h; injection h with h6 h7
          subst h1 h2 h3 h4 h5 h6 h7
          rfl

theorem wsync_some {q : List UInt8} {x : List Int} {n k c : Int} {fs : Fs} {l : List disk_write} (h : mget q fs = some x) (hl : l.length ≤ 2000000) : __wal_Wal__Sync FF q n k c fs l = some (0, c, fgt q l) := by
  unfold __wal_Wal__Sync
  rw [sync_some h hl]; rfl
theorem fgt_wv (N : List UInt8) (rs : List (List Int)) : fgt N (rs.map (wv N)) = [] := by
  unfold fgt
  rw [List.filter_eq_nil_iff]
  intro w hw
  obtain ⟨r, _, rfl⟩ := List.mem_map.1 hw
  simp [wv]
end Go.T
/-
  LWalS2: awake.
-/
set_option linter.unusedVariables false
set_option linter.unusedSimpArgs false
namespace Go.T
open Go Go.Ab

theorem awake_true : matinslaw10_awake FF = some true := by
  have hh := log_head
  have b1 : Byt [97] := Byt.cons ⟨by omega, by omega⟩ Byt.nil
  have b2 : Byt [98, 99] := Byt.cons ⟨by omega, by omega⟩ (Byt.cons ⟨by omega, by omega⟩ Byt.nil)
  have f1 : (frameL [97]).length ≤ 15 := by have h2 : (putL 1).length ≤ 10 := (putN_len 9 1).2; rw [frame_len, show ([97] : List Int).length = 1 from rfl]; omega
  have f2 : (frameL [98, 99]).length ≤ 16 := by have h2 : (putL 2).length ≤ 10 := (putN_len 9 2).2; rw [frame_len, show ([98, 99] : List Int).length = 2 from rfl]; omega
  have R0 : Recs [] := fun r hr => by cases hr
  have hA : (logL 0 ([] ++ [[97]]) []).length ≤ 1048576 := by rw [log_more, List.length_append]; omega
  have hB : (logL 0 (([] ++ [[97]]) ++ [[98, 99]]) []).length ≤ 1048576 := by rw [log_more, log_more, List.length_append, List.length_append]; omega
  unfold matinslaw10_awake disk_New
  simp only [Option.bind_some, open_empty, Sum.elim_inr, List.length_nil, Int.natCast_zero, show ((0 : Int) != 0) = false from rfl, cond_false, __wal_Wal__File]
  rw [show (!(nameL 1 == [108, 111, 103, 45, 49])) = false by rw [nm1]; rfl, cond_false]
  have hw0 : (0 : Int) ≤ 0 ∧ (0 : Int) ≤ 2000000 := by decide
  have hw1 : (0 : Int) ≤ 0 + 1 ∧ (0 : Int) + 1 ≤ 2000000 := by decide
  rcases wapp_log 0 1 [] [97] 0 [] (by omega) R0 (by simp) hw0 (by omega) b1 with ⟨e, he, h1, h2⟩ | ⟨h1, R1, h3⟩
  · exfalso
    rcases h2 with q | q | q
    · simp at q
    · exact q nd1
    · omega
  have hcast : ((1 : Nat) : Int) = 1 := rfl
  rw [hcast] at h1
  rw [wapp_own _ _ _ _ _ _ _ h1]
  simp only [Option.bind_some]
  rw [wsync_some (mget_one 1 _) (by simp)]
  simp only [Option.bind_some]
  rw [show ([] : List disk_write) ++ [wv (nameL 1) [97]] = [[97]].map (wv (nameL 1)) from rfl, fgt_wv]
  rcases wapp_log 0 1 ([] ++ [[97]]) [98, 99] (0 + 1) [] (by omega) R1 (by simp) hw1 hA b2 with ⟨e, he, g1, g2⟩ | ⟨g1, R2, g3⟩
  · exfalso
    rcases g2 with q | q | q
    · simp at q
    · exact q nd1
    · omega
  rw [hcast] at g1
  rw [wapp_own _ _ _ _ _ _ _ g1]
  simp only [Option.bind_some]
  have hRp : Recs [[98, 99]] := fun r hr => by
    simp only [List.mem_singleton] at hr
    subst hr; exact ⟨by simp, b2⟩
  have hP : logL 0 (([] ++ [[97]]) ++ [[98, 99]]) [] = logL 0 ([] ++ [[97]]) [] ++ [[98, 99]].flatMap frameL := by rw [log_more]; simp
  have hl : ([] : List disk_write) ++ [wv (nameL 1) [98, 99]] = [[98, 99]].map (wv (nameL 1)) := rfl
  rw [hP, hl]
  rw [hP] at g3
  obtain ⟨j', t, c', a1, a2, a3, a4, a5, a6, a7, _⟩ := crash_eq 0 3 (nameL 1) (logL 0 ([] ++ [[97]]) []) [[98, 99]] hRp (by simp) g3
  obtain ⟨q1, q2⟩ := a7 rfl rfl [98, 99] rfl (by have := frame_pos [98, 99]; omega)
  subst q1
  have hX : logL 0 ([] ++ [[97]]) [] ++ ([[98, 99]].take 0).flatMap frameL ++ t = logL 0 [[97]] t := by unfold logL; simp
  rw [hX] at a4 a5 a6
  rw [a4, Option.bind_some]
  simp only
  subst a5
  have R1' : Recs [[97]] := R1
  have hD := di_one 1 (logL 0 [[97]] t) (by omega) a6 (log_byt R1' a3)
  have hread := read_log 0 [[97]] t (by omega) R1' a2 a6
  rw [decide_eq_true (by simp)] at hread
  have htl : t.length ≤ (logL 0 [[97]] t).length := by unfold logL; rw [List.length_append, List.length_append]; omega
  rcases open_one _ _ [] 1 _ _ [[97]] hD (by simp) (by omega) (by omega) (mget_one 1 _) (only_one 1 _) hread R1' (by have := log_len 0 [[97]] t; exact this) with ⟨p1, p2⟩ | ⟨p1, ⟨c'', fs'', l'', p2, p3⟩ | ⟨c'', l'', p2, p3, p4, p5, p6⟩⟩
  · exfalso; omega
  · exfalso
    have h4 : (logL 1 [[97]] []).length ≤ 1048576 := by
      unfold logL
      have h5 : (putL 1).length ≤ 10 := (putN_len 9 1).2
      have h6 : (putL (putL 1).length).length ≤ 10 := (putN_len 9 (putL 1).length).2
      rw [List.length_append, List.append_nil, frame_len, List.flatMap_cons, List.flatMap_nil, List.append_nil]
      omega
    rcases p3 with q | q | q | q
    · rw [name_num (by omega) (by omega)] at q; omega
    · exact q nd2
    · have h7 : tot [(nameL 1, logL 0 [[97]] t)] + (logL 1 [[97]] []).length ≤ 1048576 := by
        rw [tot_one]
        have h8 : (logL 0 [[97]] t).length ≤ 100 := by
          unfold logL
          have h5 : (putL 0).length ≤ 10 := (putN_len 9 0).2
          have h6 : (putL (putL 0).length).length ≤ 10 := (putN_len 9 (putL 0).length).2
          rw [List.length_append, List.length_append, frame_len, List.flatMap_cons, List.flatMap_nil, List.append_nil]
          omega
        have h9 : (logL 1 [[97]] []).length ≤ 100 := by
          unfold logL
          have h5 : (putL 1).length ≤ 10 := (putN_len 9 1).2
          have h6 : (putL (putL 1).length).length ≤ 10 := (putN_len 9 (putL 1).length).2
          rw [List.length_append, List.append_nil, frame_len, List.flatMap_cons, List.flatMap_nil, List.append_nil]
          omega
        omega
      have q' : 1048576 < tot [(nameL 1, logL 0 [[97]] t)] + (logL 1 [[97]] []).length := q
      omega
    · simp at q
  · rw [p2]
    simp only [Option.bind_some, Sum.elim_inr, beq_self_eq_true, cond_true]
    rw [lists_self [[97]] R1' (by simp)]
    simp only [Option.bind_some, cond_true, __wal_Wal__Count]
    rw [show (nameL (1 + 1) == [108, 111, 103, 45, 50]) = true by rw [show 1 + 1 = 2 from rfl, nm2]; rfl, cond_true]
    rfl
end Go.T
/-
  LWalK: WalKeeps.
-/
set_option linter.unusedVariables false
set_option linter.unusedSimpArgs false
namespace Go.T
open Go Go.Ab

/-- what holds while the script of WalKeeps runs -/
structure KI (n k : Nat) (done pend : List (List Int)) : Prop where
  n1 : 1 ≤ n
  n2 : n ≤ 999999999
  k1 : k ≤ done.length
  rcs : Recs (done ++ pend)
  len : (logL k (done ++ pend) []).length ≤ 1048576

theorem KI.cnt {n k : Nat} {done pend : List (List Int)} (h : KI n k done pend) : (done ++ pend).length ≤ 1048576 := by
  have := log_len k (done ++ pend) []
  have := h.len
  omega

def kState (n k : Nat) (done pend : List (List Int)) (m : Nat) (script : List matinslaw10_Do) (i : Nat) :=
  matinslaw10_WalKeeps_l0 FF script m (done.length : Int) (i : Int) ((logL k (done ++ pend) []).length : Int) (nameL n) (n : Int) ((done ++ pend).length : Int) (done ++ pend) [(nameL n, logL k (done ++ pend) [])] (pend.map (wv (nameL n)))

theorem keeps_l0 (script : List matinslaw10_Do) (hs : ∀ d, d ∈ script → Byt d.Rec ∧ ∀ x, x ∈ d.Recs → Byt x) : ∀ (d i m : Nat) (n k : Nat) (done pend : List (List Int)), 100 - i = d → i ≤ 100 → d < m → KI n k done pend →
    kState n k done pend m script i = some (.inl true) ∨
    ∃ n' k' done' pend', KI n' k' done' pend' ∧ kState n k done pend m script i = some (.inr ((done'.length : Int), ((logL k' (done' ++ pend') []).length : Int), done' ++ pend', [(nameL n', logL k' (done' ++ pend') [])], pend'.map (wv (nameL n')))) := by
  intro d
  induction d with
  | zero =>
    intro i m n k done pend h hi hm hI
    obtain ⟨m, rfl⟩ : ∃ k, m = k + 1 := ⟨m - 1, by omega⟩
    right
    refine ⟨n, k, done, pend, hI, ?_⟩
    unfold kState matinslaw10_WalKeeps_l0
    rw [decide_eq_false (show ¬ (i : Int) < 100 by omega)]
    have : (bif (decide ((i : Int) < (script.length : Int))) then some false else some false) = some false := by cases (decide ((i : Int) < (script.length : Int))) <;> rfl
    rw [this, Option.bind_some, cond_false]
  | succ d ih =>
    intro i m n k done pend h hi hm hI
    obtain ⟨m, rfl⟩ : ∃ k, m = k + 1 := ⟨m - 1, by omega⟩
    by_cases hlt : i < script.length
    · have hsd := hs _ (List.getElem_mem hlt)
      have hcnt := hI.cnt
      have hnext : ∀ (n k : Nat) (done pend : List (List Int)), KI n k done pend → kState n k done pend m script (i + 1) = some (.inl true) ∨
        ∃ n' k' done' pend', KI n' k' done' pend' ∧ kState n k done pend m script (i + 1) = some (.inr ((done'.length : Int), ((logL k' (done' ++ pend') []).length : Int), done' ++ pend', [(nameL n', logL k' (done' ++ pend') [])], pend'.map (wv (nameL n')))) :=
        fun n k done pend hI => ih (i + 1) m n k done pend (by omega) (by omega) (by omega) hI
      have hpl : (pend.map (wv (nameL n))).length ≤ 900000 ∨ True := .inr trivial
      have hpl2 : (pend.map (wv (nameL n))).length ≤ 1048576 := by rw [List.length_map]; rw [List.length_append] at hcnt; omega
      unfold kState matinslaw10_WalKeeps_l0
      rw [decide_eq_true (show (i : Int) < 100 by omega), decide_eq_true (show (i : Int) < (script.length : Int) by omega), cond_true, Option.bind_some, cond_true, ge0, cond_true, cI, List.getElem?_eq_getElem hlt, Option.bind_some, wadd i (by omega)]
      generalize script[i] = dd at hsd
      cases h0 : (dd.Kind == 0) with
      | true =>
        rw [cond_true]
        rcases wapp_log k n (done ++ pend) dd.Rec ((done ++ pend).length : Int) (pend.map (wv (nameL n))) hI.n2 hI.rcs (by omega) (by omega) hI.len hsd.1 with ⟨e, he, h1, _⟩ | ⟨h1, h2, h3⟩
        · rw [h1, Option.bind_some]
          simp only
          rw [show (e == 0) = false by rw [beq_eq_false_iff_ne]; exact he, cond_false, Option.bind_some, Sum.elim_inr]
          exact hnext n k done pend hI
        · rw [h1, Option.bind_some]
          simp only [beq_self_eq_true, cond_true]
          rw [decide_eq_true (by simp only [LIM]; omega), cond_true, Option.bind_some, Sum.elim_inr]
          simp only
          have hN : KI n k done (pend ++ [dd.Rec]) := by
            refine ⟨hI.n1, hI.n2, hI.k1, ?_, ?_⟩
            · rw [← List.append_assoc]; exact h2
            · rw [← List.append_assoc]; exact h3
          have hg := hnext n k done (pend ++ [dd.Rec]) hN
          unfold kState at hg
          have e1 : done ++ (pend ++ [dd.Rec]) = (done ++ pend) ++ [dd.Rec] := (List.append_assoc ..).symm
          have e2 : (pend ++ [dd.Rec]).map (wv (nameL n)) = pend.map (wv (nameL n)) ++ [wv (nameL n) dd.Rec] := by rw [List.map_append]; rfl
          have e3 : (((done ++ pend) ++ [dd.Rec]).length : Int) = ((done ++ pend).length : Int) + 1 := by rw [@List.length_append _ (done ++ pend)]; rfl
          rw [e1, e2, e3] at hg
          exact hg
      | false =>
        rw [cond_false]
        cases h1 : (dd.Kind == 1) with
        | true =>
          rw [cond_true, wsync_some (mget_one n _) (by omega), Option.bind_some, fgt_wv]
          simp only [show ((0 : Int) != 0) = false from rfl, cond_false, Option.bind_some, Sum.elim_inr, List.length_map]
          have hN : KI n k (done ++ pend) [] := by
            refine ⟨hI.n1, hI.n2, ?_, ?_, ?_⟩
            · have := hI.k1; rw [List.length_append]; omega
            · rw [List.append_nil]; exact hI.rcs
            · rw [List.append_nil]; exact hI.len
          have hg := hnext n k (done ++ pend) [] hN
          unfold kState at hg
          rw [List.append_nil] at hg
          exact hg
        | false =>
          rw [cond_false]
          cases h2 : (dd.Kind == 2) with
          | true =>
            rw [cond_true]
            by_cases hrl : (100 : Int) < (dd.Recs.length : Int)
            · rw [decide_eq_true hrl, cond_true, Option.bind_some, Sum.elim_inr]
              exact hnext n k done pend hI
            · rw [decide_eq_false hrl, cond_false]
              have hD := di_one n _ hI.n2 hI.len (log_byt hI.rcs Byt.nil)
              have hpl3 : (pend.map (wv (nameL n))).length ≤ 900000 := by
                have h5 : ∀ rs : List (List Int), 5 * rs.length ≤ (rs.flatMap frameL).length := by
                  intro rs
                  induction rs with
                  | nil => simp
                  | cons r rs ih' =>
                    have := frame_pos r
                    rw [List.flatMap_cons, List.length_append, List.length_cons]; omega
                have h6 := h5 (done ++ pend)
                have h7 := hI.len
                unfold logL at h7
                rw [List.length_append, List.append_nil] at h7
                rw [List.length_append] at h6
                rw [List.length_map]; omega
              rcases reset_spec dd.Recs (nameL n) n ((done ++ pend).length : Int) _ _ (pend.map (wv (nameL n))) (by omega) hsd.2 hI.n2 hD hpl3 (fresh_one hI.n2 (only_one n _)) (.inr ⟨_, mget_one n _⟩) with ⟨g, x, hx, hx2⟩ | ⟨c2, c', fs', l', g, _⟩ | ⟨g1, g2, c', l', g, g3, g4, g5⟩
              · rw [g, Option.bind_some]
                simp only [show ((1 : Int) == 3) = false from rfl, show ((1 : Int) == 0) = false from rfl, cond_false, Option.bind_some, Sum.elim_inr]
                exact hnext n k done pend hI
              · rw [g, Option.bind_some]
                simp only [show ((3 : Int) == 3) = true from rfl, cond_true, Option.bind_some, Sum.elim_inl]
                exact .inl trivial
              · rw [g, Option.bind_some]
                simp only [show ((0 : Int) == 3) = false from rfl, show ((0 : Int) == 0) = true from rfl, cond_false, cond_true]
                rw [decide_eq_true (by simp only [LIM]; omega), cond_true, Option.bind_some, Sum.elim_inr]
                have hl' : l' = [] := by
                  apply List.eq_nil_iff_forall_not_mem.2
                  intro w hw
                  obtain ⟨a1, a2, a3⟩ := g4 w hw
                  obtain ⟨r, _, rfl⟩ := List.mem_map.1 a1
                  exact a3 (name_ne n) rfl
                subst hl'
                have hb : base (nameL n) [(nameL n, logL k (done ++ pend) [])] = [] := by unfold base; rw [if_neg (name_ne n), mdel_one]
                have hc := g3.tot
                have hle := g3.le
                rw [hb, List.nil_append, tot_one] at hc hle
                rw [hb, List.nil_append]
                have hN : KI (n + 1) dd.Recs.length dd.Recs [] := ⟨by omega, g2, Nat.le_refl _, by rw [List.append_nil]; exact g1, by rw [List.append_nil]; exact hle⟩
                have hg := hnext (n + 1) dd.Recs.length dd.Recs [] hN
                unfold kState at hg
                rw [List.append_nil] at hg
                simp only [List.nil_append, List.length_map]
                rw [hc]
                exact hg
          | false =>
            rw [cond_false, Option.bind_some, Sum.elim_inr]
            exact hnext n k done pend hI
    · right
      refine ⟨n, k, done, pend, hI, ?_⟩
      unfold kState matinslaw10_WalKeeps_l0
      rw [decide_eq_false (show ¬ (i : Int) < (script.length : Int) by omega), cond_false, Option.bind_some, cond_false]

/-- what a crash and the next Open leave of a log: the records that were synced, and some more -/
theorem crash_open (keep torn : Int) (n k : Nat) (done pend : List (List Int)) (hI : KI n k done pend) :
    ∃ (fs' : Fs) (c' : Int) (j : Nat), __disk_Disk__Crash FF keep torn ((logL k (done ++ pend) []).length : Int) [(nameL n, logL k (done ++ pend) [])] (pend.map (wv (nameL n))) = some (c', fs') ∧ j ≤ pend.length ∧
      ((pend ≠ [] ∧ ∃ c2 fs2 l2, wal_Open FF c' fs' [] = some (.inl (3, c2, fs2, [], l2))) ∨
        ∃ c2 fs2 l2 n2, wal_Open FF c' fs' [] = some (.inr (done ++ pend.take j, 0, c2, fs2, nameL n2, (n2 : Int), ((done ++ pend.take j).length : Int), l2)) ∧ (pend = [] → fs2.length = 1 ∧ ∀ e, e ∈ fs2 → e.1.length ≤ 16)) := by
  have hRp : Recs pend := fun r hr => hI.rcs r (List.mem_append_right _ hr)
  have hcnt := hI.cnt
  rw [List.length_append] at hcnt
  have hY : logL k (done ++ pend) [] = logL k done [] ++ pend.flatMap frameL := by unfold logL; rw [List.flatMap_append]; simp
  have hlen := hI.len
  rw [hY] at hlen ⊢
  obtain ⟨j', t, c', a1, a2, a3, a4, a5, a6, _, a8⟩ := crash_eq keep torn (nameL n) (logL k done []) pend hRp (by omega) hlen
  refine ⟨_, _, j', a4, a1, ?_⟩
  have hX : logL k done [] ++ (pend.take j').flatMap frameL ++ t = logL k (done ++ pend.take j') t := by unfold logL; rw [List.flatMap_append]; simp
  rw [hX] at a5 a6 ⊢
  subst a5
  have hR : Recs (done ++ pend.take j') := by
    intro r hr
    rcases List.mem_append.1 hr with hr | hr
    · exact hI.rcs r (List.mem_append_left _ hr)
    · exact hRp r (List.mem_of_mem_take hr)
  have hD := di_one n _ hI.n2 a6 (log_byt hR a3)
  have hk := hI.k1
  have hread := read_log k _ t (by omega) hR a2 a6
  rw [decide_eq_true (by rw [List.length_append]; omega)] at hread
  rcases open_one _ _ [] n _ _ _ hD (by simp) hI.n1 hI.n2 (mget_one n _) (only_one n _) hread hR (log_len _ _ _) with ⟨p1, p2⟩ | ⟨p1, ⟨c'', fs'', l'', p2, p3⟩ | ⟨c'', l'', p2, p3, p4, p5, p6⟩⟩
  · refine .inr ⟨_, _, _, n, p2, fun _ => ⟨rfl, fun e he => hD.names e he⟩⟩
  · refine .inl ⟨fun q => p1 ?_, _, _, _, p2⟩
    rw [a8 q, List.length_nil, Nat.sub_zero]
  · refine .inr ⟨_, _, _, n + 1, p2, fun _ => ⟨by rw [mdel_one]; rfl, fun e he => p4.names e he⟩⟩
end Go.T
/-
  LWalK2: WalKeeps and WalLays hold.
-/
set_option linter.unusedVariables false
set_option linter.unusedSimpArgs false
namespace Go.T
open Go Go.Ab

theorem ki_start : KI 1 0 [] [] := ⟨by omega, by omega, by simp, fun r hr => (by cases hr), by have := log_head; rw [List.append_nil]; omega⟩

theorem keeps_true (script : List matinslaw10_Do) (keep torn : Int) (hs : ∀ d, d ∈ script → Byt d.Rec ∧ ∀ x, x ∈ d.Recs → Byt x) : matinslaw10_WalKeeps FF script keep torn = some true := by
  unfold matinslaw10_WalKeeps
  rw [awake_true, Option.bind_some, Bool.not_true, cond_false]
  unfold disk_New
  simp only [Option.bind_some, open_empty, Sum.elim_inr, show ((0 : Int) != 0) = false from rfl, cond_false]
  have hg := keeps_l0 script hs 100 0 FF 1 0 [] [] rfl (by omega) (by show _ < 4000000; omega) ki_start
  have e0 : kState 1 0 [] [] FF script 0 = matinslaw10_WalKeeps_l0 FF script FF 0 0 ((logL 0 [] []).length : Int) (nameL 1) 1 0 [] [(nameL 1, logL 0 [] [])] [] := rfl
  rw [e0] at hg
  rcases hg with hg | ⟨n, k, done, pend, hI, hg⟩
  · rw [hg]; rfl
  · rw [hg]
    simp only [Option.bind_some, Sum.elim_inr]
    obtain ⟨fs', c', j, h1, h2, h3⟩ := crash_open keep torn n k done pend hI
    rw [h1]
    simp only [Option.bind_some]
    rcases h3 with ⟨_, c2, fs2, l2, h3⟩ | ⟨c2, fs2, l2, n2, h3, _⟩
    · rw [h3]
      simp only [Option.bind_some, Sum.elim_inl]
      rfl
    · rw [h3]
      have hcnt := hI.cnt
      have hlen : (done ++ pend.take j).length = done.length + j := by rw [List.length_append, List.length_take, Nat.min_eq_left h2]
      have htk : (done ++ pend).take (done ++ pend.take j).length = done ++ pend.take j := by
        rw [hlen, List.take_length_add_append]
      have hR : Recs (done ++ pend.take j) := by
        intro r hr
        rcases List.mem_append.1 hr with hr | hr
        · exact hI.rcs r (List.mem_append_left _ hr)
        · exact hI.rcs r (List.mem_append_right _ (List.mem_of_mem_take hr))
      have hll : (done ++ pend).length = done.length + pend.length := List.length_append
      simp only [Option.bind_some, Sum.elim_inr, show ((0 : Int) != 0) = false from rfl, cond_false, List.length_map, cI, htk]
      rw [decide_eq_true (by omega), cond_true, decide_eq_true (by omega), cond_true, decide_eq_true (by omega), cond_true, lists_self _ hR (by omega), Option.bind_some, cond_true]
      unfold __wal_Wal__Count
      rw [Option.bind_some, beq_self_eq_true]

def lState (n k : Nat) (pend : List (List Int)) (m : Nat) (script : List matinslaw10_Do) (i : Nat) :=
  matinslaw10_WalLays_l0 FF script m (i : Int) ((logL k pend []).length : Int) (nameL n) (n : Int) (pend.length : Int) [(nameL n, logL k pend [])] (pend.map (wv (nameL n)))

theorem lays_l0 (script : List matinslaw10_Do) (hs : ∀ d, d ∈ script → Byt d.Rec ∧ ∀ x, x ∈ d.Recs → Byt x) : ∀ (d i m : Nat) (pend : List (List Int)), 100 - i = d → i ≤ 100 → d < m → KI 1 0 [] pend → pend.length ≤ i →
    ∃ pend', KI 1 0 [] pend' ∧ pend'.length ≤ 100 ∧ lState 1 0 pend m script i = some (((logL 0 pend' []).length : Int), nameL 1, ((1 : Nat) : Int), (pend'.length : Int), [(nameL 1, logL 0 pend' [])], pend'.map (wv (nameL 1))) := by
  intro d
  induction d with
  | zero =>
    intro i m pend h hi hm hI hp
    obtain ⟨m, rfl⟩ : ∃ k, m = k + 1 := ⟨m - 1, by omega⟩
    refine ⟨pend, hI, by omega, ?_⟩
    unfold lState matinslaw10_WalLays_l0
    rw [decide_eq_false (show ¬ (i : Int) < 100 by omega)]
    have : (bif (decide ((i : Int) < (script.length : Int))) then some false else some false) = some false := by cases (decide ((i : Int) < (script.length : Int))) <;> rfl
    rw [this, Option.bind_some, cond_false]
  | succ d ih =>
    intro i m pend h hi hm hI hp
    obtain ⟨m, rfl⟩ : ∃ k, m = k + 1 := ⟨m - 1, by omega⟩
    by_cases hlt : i < script.length
    · have hsd := hs _ (List.getElem_mem hlt)
      have hrcs := hI.rcs
      have hlen := hI.len
      rw [List.nil_append] at hrcs hlen
      unfold lState matinslaw10_WalLays_l0
      rw [decide_eq_true (show (i : Int) < 100 by omega), decide_eq_true (show (i : Int) < (script.length : Int) by omega), cond_true, Option.bind_some, cond_true, ge0, cond_true, cI, List.getElem?_eq_getElem hlt, Option.bind_some, wadd i (by omega), cond_true, Option.bind_some]
      generalize script[i] = dd at hsd
      cases h0 : (dd.Kind == 0) with
      | true =>
        rw [cond_true]
        rcases wapp_log 0 1 pend dd.Rec (pend.length : Int) (pend.map (wv (nameL 1))) (by omega) hrcs (by rw [List.length_map]; omega) (by omega) hlen hsd.1 with ⟨e, he, h1, _⟩ | ⟨h1, h2, h3⟩
        · rw [h1, Option.bind_some, Option.bind_some]
          exact ih (i + 1) m pend (by omega) (by omega) (by omega) hI (by omega)
        · rw [h1, Option.bind_some, Option.bind_some]
          have hN : KI 1 0 [] (pend ++ [dd.Rec]) := ⟨by omega, by omega, by simp, h2, h3⟩
          obtain ⟨p', q1, q2, q3⟩ := ih (i + 1) m (pend ++ [dd.Rec]) (by omega) (by omega) (by omega) hN (by simp; omega)
          refine ⟨p', q1, q2, ?_⟩
          rw [← q3]
          unfold lState
          rw [List.map_append, List.length_append (bs := [dd.Rec])]
          rfl
      | false =>
        rw [cond_false, Option.bind_some]
        exact ih (i + 1) m pend (by omega) (by omega) (by omega) hI (by omega)
    · refine ⟨pend, hI, by omega, ?_⟩
      unfold lState matinslaw10_WalLays_l0
      rw [decide_eq_false (show ¬ (i : Int) < (script.length : Int) by omega), cond_false, Option.bind_some, cond_false]

theorem lays_true (script : List matinslaw10_Do) (recs : List (List Int)) (keep torn : Int) (hs : ∀ d, d ∈ script → Byt d.Rec ∧ ∀ x, x ∈ d.Recs → Byt x) (hr : ∀ x, x ∈ recs → Byt x) : matinslaw10_WalLays FF script recs keep torn = some true := by
  unfold matinslaw10_WalLays
  rw [awake_true, Option.bind_some, Bool.not_true, cond_false]
  unfold disk_New
  simp only [Option.bind_some, open_empty, Sum.elim_inr, show ((0 : Int) != 0) = false from rfl, cond_false, List.length_map]
  by_cases hrl : (100 : Int) < (recs.length : Int)
  · rw [decide_eq_true hrl, cond_true]
  rw [decide_eq_false hrl, cond_false]
  have hg := lays_l0 script hs 100 0 FF [] rfl (by omega) (by show _ < 4000000; omega) ki_start (by simp)
  have e0 : lState 1 0 [] FF script 0 = matinslaw10_WalLays_l0 FF script FF 0 ((logL 0 [] []).length : Int) (nameL 1) 1 0 [(nameL 1, logL 0 [] [])] [] := rfl
  rw [e0] at hg
  obtain ⟨pend, hI, hpl, hg⟩ := hg
  rw [hg, Option.bind_some]
  simp only
  have hrcs := hI.rcs
  have hlen := hI.len
  rw [List.nil_append] at hrcs hlen
  have hD := di_one 1 _ (by omega) hlen (log_byt hrcs Byt.nil)
  rcases reset_spec recs (nameL 1) 1 (pend.length : Int) _ _ (pend.map (wv (nameL 1))) (by omega) hr (by omega) hD (by rw [List.length_map]; omega) (fresh_one (by omega) (only_one 1 _)) (.inr ⟨_, mget_one 1 _⟩) with ⟨g, x, hx, hx2⟩ | ⟨c2, c', fs', l', g, _⟩ | ⟨g1, g2, c', l', g, g3, g4, g5⟩
  · rw [g]; rfl
  · rw [g]; rfl
  · rw [g]
    have hl' : l' = [] := by
      apply List.eq_nil_iff_forall_not_mem.2
      intro w hw
      obtain ⟨a1, a2, a3⟩ := g4 w hw
      obtain ⟨r, _, rfl⟩ := List.mem_map.1 a1
      exact a3 (name_ne 1) rfl
    subst hl'
    have hb : base (nameL 1) [(nameL 1, logL 0 pend [])] = [] := by unfold base; rw [if_neg (name_ne 1), mdel_one]
    have hc := g3.tot
    have hle := g3.le
    rw [hb, List.nil_append, tot_one] at hc hle
    rw [hb, List.nil_append]
    subst hc
    have hN : KI 2 recs.length recs [] := ⟨by omega, g2, Nat.le_refl _, by rw [List.append_nil]; exact g1, by rw [List.append_nil]; exact hle⟩
    obtain ⟨fs', c', j, h1, h2, h3⟩ := crash_open keep torn 2 recs.length recs [] hN
    have hj : j = 0 := by simpa using h2
    subst hj
    rw [List.append_nil, List.map_nil] at h1
    rw [List.take_nil, List.append_nil] at h3
    simp only [Option.bind_some, show ((0 : Int) != 0) = false from rfl, cond_false, __wal_Wal__Count]
    rw [show (1 + 1 : Nat) = 2 from rfl, h1]
    simp only [Option.bind_some]
    rcases h3 with ⟨h3, _⟩ | ⟨c2, fs2, l2, n2, h3, h4⟩
    · exact absurd rfl h3
    · rw [h3]
      obtain ⟨h5, h6⟩ := h4 rfl
      simp only [Option.bind_some, Sum.elim_inr, beq_self_eq_true, cond_true]
      rw [lists_self _ g1 (by omega)]
      simp only [Option.bind_some, cond_true]
      unfold __disk_Disk__Names
      have hall : (List.all fs2 fun e => decide (e.1.length ≤ LIM)) = true := by
        rw [List.all_eq_true]
        intro e he
        have := h6 e he
        exact decide_eq_true (by simp only [LIM]; omega)
      rw [decide_eq_true (by exact ⟨by simp only [LIM]; omega, hall⟩), cond_true, Option.bind_some, (sortS_perm _).length_eq, List.length_map, h5]
      rfl
end Go.T
/-
  LWalN: Open on any disk.
-/
set_option linter.unusedVariables false
set_option linter.unusedSimpArgs false
namespace Go.T
open Go Go.Ab

/-- a disk that a log was opened on -/
structure Good (c : Int) (fs : Fs) (f : Nat) (X : List Int) (rs : List (List Int)) : Prop where
  di : DI c fs
  f1 : 1 ≤ f
  f2 : f ≤ 999999999
  get : mget (nameL f) fs = some X
  only : Only fs f
  rd : wal_read FF X = some ((X.length : Int), true, rs)
  rcs : Recs rs

/-- what holds while Open looks at the logs zs -/
structure RI (zs : List Nat) (c : Int) (fs : Fs) (rs : List (List Int)) (cl : Bool) (file : List UInt8) (last : Nat) : Prop where
  di : DI c fs
  nd : zs.Nodup
  zsr : ∀ z, z ∈ zs → 1 ≤ z ∧ z ≤ 999999999 ∧ ∃ x, mget (nameL z) fs = some x
  fl : (file = [] ∧ rs = [] ∧ cl = false ∧ ∀ e, e ∈ fs → numberL e.1 ≠ 0 → ∃ z, z ∈ zs ∧ e.1 = nameL z) ∨
    ∃ (f : Nat) (X : List Int) (size : Nat), file = nameL f ∧ 1 ≤ f ∧ f ≤ last ∧ f ∉ zs ∧ mget (nameL f) fs = some X ∧ wal_read FF X = some ((size : Int), true, rs) ∧ cl = decide (size = X.length) ∧ Recs rs ∧ rs.length ≤ X.length ∧
      ∀ e, e ∈ fs → numberL e.1 ≠ 0 → (∃ z, z ∈ zs ∧ e.1 = nameL z) ∨ e.1 = nameL f
  la : last ≤ 999999999

theorem mxn (z last : Nat) : mx z (last : Int) = ((max z last : Nat) : Int) := by
  unfold mx
  split <;> omega

theorem r1_fold : ∀ (zs : List Nat) (c : Int) (fs : Fs) (rs : List (List Int)) (cl : Bool) (l : List disk_write) (file : List UInt8) (last : Nat) (cnt : Int), RI zs c fs rs cl file last → l.length ≤ 900000 →
    ∃ c' fs' rs' cl' l' file' last' cnt', wal_Open_r1 FF (zs.map (fun n : Nat => (n : Int))) c fs rs cl l file (last : Int) cnt = some (c', fs', rs', cl', l', file', ((last' : Nat) : Int), cnt') ∧ RI [] c' fs' rs' cl' file' last' ∧ l'.length ≤ l.length := by
  intro zs
  induction zs with
  | nil =>
    intro c fs rs cl l file last cnt h hl
    refine ⟨c, fs, rs, cl, l, file, last, cnt, ?_, h, Nat.le_refl _⟩
    rw [List.map_nil]; rfl
  | cons z zs ih =>
    intro c fs rs cl l file last cnt h hl
    obtain ⟨z1, z2, x, hx⟩ := h.zsr z (List.mem_cons_self ..)
    have hnd := h.nd
    rw [List.nodup_cons] at hnd
    have hxm := mget_mem hx
    have hxl := tot_mem hxm
    simp only at hxl
    have hle := h.di.le
    obtain ⟨size, whole, rs2, hr, r1, r2, r3, r4⟩ := read_total x (h.di.byt _ hxm) (by omega)
    have hla := h.la
    rw [List.map_cons, r1_step z z2 _ c fs rs cl l file (last : Int) cnt h.di (by omega) x hx size whole rs2 hr, mxn]
    by_cases hcond : file ≠ [] ∨ whole = false
    · rw [if_pos hcond]
      have hD := h.di.del (nameL z) x hx
      have hfl : (fgt (nameL z) l).length ≤ l.length := List.length_filter_le ..
      have hothers : ∀ p, p ≠ nameL z → mget p (mdel (nameL z) fs) = mget p fs := fun p hp => mdel_other hp fs
      have hmem : ∀ e, e ∈ mdel (nameL z) fs → e ∈ fs ∧ e.1 ≠ nameL z := by
        intro e he
        refine ⟨(mdel_sub fs).subset he, ?_⟩
        exact mget_none.1 (mdel_none h.di.nk) e he
      have hN : RI zs (c - (x.length : Int)) (mdel (nameL z) fs) rs cl file (max z last) := by
        refine ⟨hD, hnd.2, ?_, ?_, by omega⟩
        · intro z' hz'
          obtain ⟨a, b, x', hx'⟩ := h.zsr z' (List.mem_cons_of_mem _ hz')
          refine ⟨a, b, x', ?_⟩
          rw [hothers, hx']
          intro q
          have := name_inj b z2 q
          subst this
          exact hnd.1 hz'
        · rcases h.fl with ⟨q1, q2, q3, q4⟩ | ⟨f, X, sz, q1, q2, q3, q4, q5, q6, q7, q8, q9, q10⟩
          · refine .inl ⟨q1, q2, q3, fun e he hz => ?_⟩
            obtain ⟨he1, he2⟩ := hmem e he
            obtain ⟨z', hz', hq⟩ := q4 e he1 hz
            rcases List.mem_cons.1 hz' with rfl | hz'
            · exact absurd hq he2
            · exact ⟨z', hz', hq⟩
          · refine .inr ⟨f, X, sz, q1, q2, by omega, fun q => q4 (List.mem_cons_of_mem _ q), ?_, q6, q7, q8, q9, fun e he hz => ?_⟩
            · rw [hothers, q5]
              intro q
              have := name_inj (by omega) z2 q
              subst this
              exact q4 (List.mem_cons_self ..)
            · obtain ⟨he1, he2⟩ := hmem e he
              rcases q10 e he1 hz with ⟨z', hz', hq⟩ | hq
              · rcases List.mem_cons.1 hz' with rfl | hz'
                · exact absurd hq he2
                · exact .inl ⟨z', hz', hq⟩
              · exact .inr hq
      obtain ⟨c', fs', rs', cl', l', file', last', cnt', g1, g2, g3⟩ := ih _ _ rs cl (fgt (nameL z) l) file (max z last) cnt hN (by omega)
      exact ⟨c', fs', rs', cl', l', file', last', cnt', g1, g2, by omega⟩
    · rw [if_neg hcond]
      have hfile : file = [] := Classical.byContradiction fun q => hcond (.inl q)
      have hw : whole = true := by
        cases whole with
        | true => rfl
        | false => exact absurd (.inr rfl) hcond
      subst hw
      have hN : RI zs c fs rs2 (decide (size = x.length)) (nameL z) (max z last) := by
        refine ⟨h.di, hnd.2, fun z' hz' => h.zsr z' (List.mem_cons_of_mem _ hz'), ?_, by omega⟩
        rcases h.fl with ⟨q1, q2, q3, q4⟩ | ⟨f, X, sz, q1, _⟩
        · refine .inr ⟨z, x, size, rfl, z1, by omega, hnd.1, hx, hr, rfl, r2, r3, fun e he hz => ?_⟩
          obtain ⟨z', hz', hq⟩ := q4 e he hz
          rcases List.mem_cons.1 hz' with rfl | hz'
          · exact .inr hq
          · exact .inl ⟨z', hz', hq⟩
        · rw [hfile] at q1
          exact absurd q1.symm (name_ne f)
      obtain ⟨c', fs', rs', cl', l', file', last', cnt', g1, g2, g3⟩ := ih _ _ rs2 _ l (nameL z) (max z last) (rs2.length : Int) hN hl
      exact ⟨c', fs', rs', cl', l', file', last', cnt', g1, g2, g3⟩

/-- Open on any disk: no room, or a disk with one log that reads whole -/
theorem open_any (c : Int) (fs : Fs) (l : List disk_write) (hD : DI c fs) (hl : l.length ≤ 900000) :
    (∃ c' fs' l', wal_Open FF c fs l = some (.inl (3, c', fs', [], l'))) ∨
    ∃ rs c' fs' f n cnt l' X, wal_Open FF c fs l = some (.inr (rs, 0, c', fs', nameL f, n, cnt, l')) ∧ Good c' fs' f X rs ∧ l'.length ≤ l.length := by
  obtain ⟨zs, z1, z2, z3, z4⟩ := numsO_nat fs hD.nk
  have hI : RI zs c fs [] false [] 0 := ⟨hD, z2, z3, .inl ⟨rfl, rfl, rfl, z4⟩, by omega⟩
  obtain ⟨c', fs', rs', cl', l', file', last', cnt', g1, g2, g3⟩ := r1_fold zs c fs [] false l [] 0 0 hI hl
  rw [open_eq c fs l hD, z1, show wal_Open_r1 FF (zs.map (fun n : Nat => (n : Int))) c fs [] false l [] 0 0 = _ from g1, Option.bind_some]
  have hla := g2.la
  have hle := g2.di.le
  have key : cl' = false → rs'.length ≤ 1048576 → Recs rs' → (∀ e, e ∈ base file' fs' → numberL e.1 = 0) → (∀ k : Nat, last' < k → k ≤ 999999999 → mget (nameL k) fs' = none) → (file' = [] ∨ ∃ x, mget file' fs' = some x) →
      (∃ c2 fs2 l2, openFin (c', fs', rs', cl', l', file', (last' : Int), cnt') = some (.inl (3, c2, fs2, [], l2))) ∨
      ∃ rs c2 fs2 f n cnt l2 X, openFin (c', fs', rs', cl', l', file', (last' : Int), cnt') = some (.inr (rs, 0, c2, fs2, nameL f, n, cnt, l2)) ∧ Good c2 fs2 f X rs ∧ l2.length ≤ l.length := by
    intro hcl hrl hR hno hfr hfi
    subst hcl
    rcases reset_spec rs' file' last' cnt' c' fs' l' hrl (fun x hx => (hR x hx).2) hla g2.di (by omega) hfr hfi with ⟨g, x, hx, hx2⟩ | ⟨c2, c3, fs3, l3, g, _⟩ | ⟨k1, k2, c3, l3, g, k3, k4, k5⟩
    · have := (hR x hx).1
      omega
    · exact .inl ⟨c3, fs3, l3, fin_full g⟩
    · right
      refine ⟨rs', c3, _, last' + 1, _, _, l3, logL rs'.length rs' [], fin_ok g, ?_, by omega⟩
      have hX : (logL rs'.length rs' []).length ≤ 1048576 := by
        have := k3.le
        rw [tot_app, tot_one] at this
        omega
      have hread := read_log rs'.length rs' [] (by omega) hR un_nil hX
      rw [decide_eq_true (Nat.le_refl _), List.length_nil, Nat.sub_zero] at hread
      refine ⟨k3, by omega, k2, ?_, ?_, hread, hR⟩
      · rw [mget_app]
        · exact mget_one _ _
        · rw [mget_none]
          intro e he q
          have := hno e he
          rw [q, name_num (by omega) k2] at this
          omega
      · intro e he hz
        rcases List.mem_append.1 he with he | he
        · exact absurd (hno e he) hz
        · simp only [List.mem_singleton] at he
          subst he; rfl
  rcases g2.fl with ⟨q1, q2, q3, q4⟩ | ⟨f, X, sz, q1, q2, q3, q4, q5, q6, q7, q8, q9, q10⟩
  · have hno : ∀ e, e ∈ fs' → numberL e.1 = 0 := by
      intro e he
      refine Classical.byContradiction fun q => ?_
      obtain ⟨z, hz, _⟩ := q4 e he q
      cases hz
    refine key q3 (by rw [q2]; simp) (by rw [q2]; intro r hr; cases hr) ?_ ?_ (.inl q1)
    · rw [q1]; exact hno
    · intro k h1 h2
      rw [mget_none]
      intro e he q
      have := hno e he
      rw [q, name_num (by omega) h2] at this
      omega
  · have hon : Only fs' f := by
      intro e he hz
      rcases q10 e he hz with ⟨z, hz', _⟩ | q
      · cases hz'
      · exact q
    by_cases hs : sz = X.length
    · rw [q7, decide_eq_true hs, q1]
      right
      refine ⟨rs', c', fs', f, _, _, l', X, fin_clean .., ⟨g2.di, q2, by omega, q5, hon, ?_, q8⟩, g3⟩
      rw [q6, hs]
    · have hxl := tot_mem (mget_mem q5)
      simp only at hxl
      refine key (by rw [q7, decide_eq_false hs]) (by omega) q8 ?_ ?_ (.inr ⟨X, by rw [q1]; exact q5⟩)
      · rw [q1]
        unfold base
        rw [if_neg (name_ne f)]
        intro e he
        refine Classical.byContradiction fun q => ?_
        have h1 := hon e ((mdel_sub fs').subset he) q
        exact mget_none.1 (mdel_none g2.di.nk) e he h1
      · intro k h1 h2
        exact fresh_one (by omega) hon k (by omega) h2

/-- Open on what Open left changes nothing -/
theorem open_good {c : Int} {fs : Fs} {f : Nat} {X : List Int} {rs : List (List Int)} (h : Good c fs f X rs) (l : List disk_write) (hl : l.length ≤ 900000) : wal_Open FF c fs l = some (.inr (rs, 0, c, fs, nameL f, (f : Int), (rs.length : Int), l)) := by
  have hxm := mget_mem h.get
  have hxl := tot_mem hxm
  simp only at hxl
  have hle := h.di.le
  obtain ⟨size, whole, rs2, hr, r1, r2, r3, r4⟩ := read_total X (h.di.byt _ hxm) (by omega)
  have hrd := h.rd
  rw [hr] at hrd
  injection hrd with hrd
  injection hrd with e1 hrd; injection hrd with e2 e3
  subst e3
  rcases open_one c fs l f X X.length rs2 h.di hl h.f1 h.f2 h.get h.only h.rd h.rcs r3 with ⟨_, p⟩ | ⟨p, _⟩
  · exact p
  · exact absurd rfl p
end Go.T
/-
  LWalN2: WalAgain holds.
-/
set_option linter.unusedVariables false
set_option linter.unusedSimpArgs false
namespace Go.T
open Go Go.Ab

theorem again_l0 (script : List matinslaw10_Do) (hs : ∀ d, d ∈ script → Byt d.Rec ∧ d.Rec.length ≤ 2000000 ∧ d.Name.length ≤ 2000000) : ∀ (d i m : Nat) (c : Int) (fs : Fs) (l : List disk_write), 100 - i = d → i ≤ 100 → d < m → DI c fs → l.length ≤ i →
    ∃ c' fs' l', matinslaw10_WalAgain_l0 FF script m (i : Int) c fs l = some (c', fs', l') ∧ DI c' fs' ∧ l'.length ≤ 100 := by
  intro d
  induction d with
  | zero =>
    intro i m c fs l h hi hm hD hl
    obtain ⟨m, rfl⟩ : ∃ k, m = k + 1 := ⟨m - 1, by omega⟩
    refine ⟨c, fs, l, ?_, hD, by omega⟩
    unfold matinslaw10_WalAgain_l0
    rw [decide_eq_false (show ¬ (i : Int) < 100 by omega)]
    have : (bif (decide ((i : Int) < (script.length : Int))) then some false else some false) = some false := by cases (decide ((i : Int) < (script.length : Int))) <;> rfl
    rw [this, Option.bind_some, cond_false]
  | succ d ih =>
    intro i m c fs l h hi hm hD hl
    obtain ⟨m, rfl⟩ : ∃ k, m = k + 1 := ⟨m - 1, by omega⟩
    by_cases hlt : i < script.length
    · obtain ⟨s1, s2, s3⟩ := hs _ (List.getElem_mem hlt)
      unfold matinslaw10_WalAgain_l0
      rw [decide_eq_true (show (i : Int) < 100 by omega), decide_eq_true (show (i : Int) < (script.length : Int) by omega), cond_true, Option.bind_some, cond_true, ge0, cond_true, cI, List.getElem?_eq_getElem hlt, Option.bind_some, wadd i (by omega), cond_true, Option.bind_some]
      rcases append_spec (script[i]).Name (script[i]).Rec c fs l s3 s2 hD (by omega) with ⟨e, _, h1, _⟩ | ⟨h1, h2, h3, h4⟩
      · rw [h1, Option.bind_some]
        exact ih (i + 1) m c fs l (by omega) (by omega) (by omega) hD (by omega)
      · rw [h1, Option.bind_some]
        exact ih (i + 1) m _ _ _ (by omega) (by omega) (by omega) (hD.put _ _ h2 s1 h3 h4) (by simp; omega)
    · refine ⟨c, fs, l, ?_, hD, by omega⟩
      unfold matinslaw10_WalAgain_l0
      rw [decide_eq_false (show ¬ (i : Int) < (script.length : Int) by omega), cond_false, Option.bind_some, cond_false]

theorem good_more {c : Int} {fs : Fs} {f : Nat} {X : List Int} {rs : List (List Int)} (h : Good c fs f X rs) (r : List Int) (hr : r.length ≤ 65536) (hb : Byt r) (hle : tot fs + (frameL r).length ≤ 1048576) :
    Good (c + ((frameL r).length : Int)) (mput (nameL f) (X ++ frameL r) fs) f (X ++ frameL r) (rs ++ [r]) := by
  have hD := h.di.put (nameL f) (frameL r) (by have := nameL_len f h.f2; omega) (frame_byt r hb) hle (fun q => by rw [h.get] at q; cases q)
  rw [h.get, Option.getD_some] at hD
  have hxm := mget_mem h.get
  have hxl := tot_mem hxm
  simp only at hxl
  have hle2 := h.di.le
  have hg := mget_mput (q := nameL f) (X ++ frameL r) fs
  have hxl2 := tot_mem (mget_mem hg)
  simp only at hxl2
  have hle3 := hD.le
  obtain ⟨size, whole, rs2, hr2, r1, r2, r3, r4⟩ := read_total X (h.di.byt _ hxm) (by omega)
  have hrd := h.rd
  rw [hr2] at hrd
  injection hrd with hrd
  injection hrd with e1 hrd; injection hrd with e2 e3
  subst e3
  refine ⟨hD, h.f1, h.f2, hg, ?_, r4 e2 (by omega) r hr hb (by omega), ?_⟩
  · intro e he hz
    rcases mput_mem he with rfl | he
    · rfl
    · exact h.only e he hz
  · intro x hx
    rcases List.mem_append.1 hx with hx | hx
    · exact h.rcs x hx
    · simp only [List.mem_singleton] at hx
      subst hx; exact ⟨hr, hb⟩

theorem again_true (script : List matinslaw10_Do) (rec : List Int) (hs : ∀ d, d ∈ script → Byt d.Rec ∧ d.Rec.length ≤ 2000000 ∧ d.Name.length ≤ 2000000) (hb : Byt rec) : matinslaw10_WalAgain FF script rec = some true := by
  unfold matinslaw10_WalAgain
  rw [awake_true, Option.bind_some, Bool.not_true, cond_false]
  unfold disk_New
  rw [Option.bind_some]
  simp only
  obtain ⟨c0, fs0, l0, h0, hD0, hl0⟩ := again_l0 script hs 100 0 FF 0 [] [] rfl (by omega) (by show _ < 4000000; omega) di_nil (by simp)
  rw [show matinslaw10_WalAgain_l0 FF script FF 0 0 [] [] = _ from h0, Option.bind_some]
  simp only
  rcases open_any c0 fs0 l0 hD0 (by omega) with ⟨c', fs', l', h1⟩ | ⟨rs, c', fs', f, n, cnt, l', X, h1, hG, hl1⟩
  · rw [h1]; rfl
  · rw [h1, Option.bind_some]
    have hR := hG.rcs
    have hxm := mget_mem hG.get
    have hxl := tot_mem hxm
    simp only at hxl
    have hle := hG.di.le
    have hXL : X.length ≤ LIM := by simp only [LIM]; omega
    have hXb := byt_ok (hG.di.byt _ hxm)
    obtain ⟨_, _, rs2, hr2, _, _, r3, _⟩ := read_total X (hG.di.byt _ hxm) (by omega)
    have hrl : rs.length ≤ 1048576 := by
      have hrd := hG.rd
      rw [hr2] at hrd
      injection hrd with hrd
      injection hrd with e1 hrd; injection hrd with e2 e3
      subst e3
      omega
    simp only [Sum.elim_inr, show ((0 : Int) != 0) = false from rfl, cond_false]
    rw [open_good hG l' (by omega), Option.bind_some]
    simp only [Sum.elim_inr, show ((0 : Int) != 0) = false from rfl, cond_false]
    rw [lists_self rs hR (by omega)]
    simp only [Option.bind_some, Bool.not_true, cond_false, __wal_Wal__File]
    rw [dread_some hG.get hXL]
    simp only [Option.bind_some, Sum.elim_inl]
    have hfl := nameL_len f hG.f2
    rcases wappend_spec rec (nameL f) (f : Int) (rs.length : Int) c' fs' l' (by omega) hG.di (by omega) (by omega) with ⟨e, he, h2, _⟩ | ⟨h2, h3, h4, h5, h6⟩
    · rw [h2, Option.bind_some]
      simp only
      rw [open_good hG l' (by omega), Option.bind_some]
      simp only [Sum.elim_inr, show ((0 : Int) != 0) = false from rfl, cond_false, Option.bind_some, beq_self_eq_true, Bool.not_true]
      rw [dread_some hG.get hXL, Option.bind_some]
      simp only [Sum.elim_inl]
      rw [show (e != 0) = true by simpa using he, cond_true, lists_self rs hR (by omega), Option.bind_some, cond_true, hXb, cond_true, cond_true]
      simp
    · rw [h2, Option.bind_some]
      have hG2 := good_more hG rec h3 hb h5
      rw [hG.get, Option.getD_some]
      simp only
      have hll : (l' ++ [disk_write.mk (nameL f) ((frameL rec).length : Int)]).length ≤ 900000 := by simp; omega
      rw [open_good hG2 _ hll, Option.bind_some]
      simp only [Sum.elim_inr, show ((0 : Int) != 0) = false from rfl, cond_false, Option.bind_some, beq_self_eq_true, Bool.not_true]
      have hx2 := tot_mem (mget_mem hG2.get)
      simp only at hx2
      have hle2 := hG2.di.le
      rw [dread_some hG2.get (by simp only [LIM]; omega), Option.bind_some]
      simp only [Sum.elim_inl, show ((0 : Int) != 0) = false from rfl, cond_false, List.length_map, cI]
      have hlen : (((rs ++ [rec]).length : Int) == IntKind.wrap IntKind.i64 ((rs.length : Int) + 1)) = true := by
        rw [wadd rs.length (by omega), List.length_append]; simp
      have hpos := frame_pos rec
      rw [hlen, cond_true, decide_eq_true (Nat.zero_le _), cond_true, decide_eq_true (by simp), cond_true, List.take_left, lists_self rs hR (by omega), Option.bind_some, cond_true]
      rw [List.getElem?_append_right (Nat.le_refl _), Nat.sub_self, List.getElem?_cons_zero, Option.bind_some, byt_ok hb, cond_true, cond_true, beq_self_eq_true, cond_true]
      rw [decide_eq_true (by rw [List.length_append]; omega), cond_true]
      have hdec : decide (X.length ≤ (X ++ frameL rec).length) = true := decide_eq_true (by simp)
      simp only [hdec, cond_true, List.take_left, hXb, beq_self_eq_true]
      first | done | rfl | simp
end Go.T
/-
  LWalZ: the three laws, for arguments as a row reads them.
-/
set_option linter.unusedVariables false
namespace Go.T
open Go Go.Ab

theorem byt_of {x : List Int} (h : ∀ y, y ∈ x → okI .u8 y) : Byt x := fun y hy => okI_u8 (h y hy)

theorem WalKeeps_true (script : List matinslaw10_Do) (keep torn : Int) (h : List.length script ≤ 1048576 ∧ ∀ y, y ∈ script → matinslaw10_Do.ok 1048576 y) : matinslaw10_WalKeeps FF script keep torn = some true :=
  keeps_true script keep torn fun d hd => by
    obtain ⟨_, h1, h2, _⟩ := h.2 d hd
    exact ⟨byt_of h1.2, fun x hx => byt_of (h2.2 x hx).2⟩

theorem WalAgain_true (script : List matinslaw10_Do) (rec : List Int) (h : List.length script ≤ 1048576 ∧ ∀ y, y ∈ script → matinslaw10_Do.ok 1048576 y) (hr : List.length rec ≤ 1048576 ∧ ∀ y, y ∈ rec → okI .u8 y) : matinslaw10_WalAgain FF script rec = some true :=
  again_true script rec (fun d hd => by
    obtain ⟨_, h1, _, _, _, h2, _⟩ := h.2 d hd
    exact ⟨byt_of h1.2, by have := h1.1; omega, by omega⟩) (byt_of hr.2)

theorem WalLays_true (script : List matinslaw10_Do) (recs : List (List Int)) (keep torn : Int) (h : List.length script ≤ 1048576 ∧ ∀ y, y ∈ script → matinslaw10_Do.ok 1048576 y)
    (hr : List.length recs ≤ 1048576 ∧ ∀ y, y ∈ recs → (List.length y ≤ 1048576 ∧ ∀ yy, yy ∈ y → okI .u8 yy)) : matinslaw10_WalLays FF script recs keep torn = some true :=
  lays_true script recs keep torn (fun d hd => by
    obtain ⟨_, h1, h2, _⟩ := h.2 d hd
    exact ⟨byt_of h1.2, fun x hx => byt_of (h2.2 x hx).2⟩) fun x hx => byt_of (hr.2 x hx).2
end Go.T
