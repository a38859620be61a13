/-
  AbSound: what the evaluator says is so in the model.
-/
import Derived.Test.YtnofpgegbhegnaaGreatDoorAbRange
namespace Go.Ab
theorem KQ_noStop {P : Program} {C C' : Cx} {r : Option Nat} {B : Exit → Act → World → Prop} : ∀ {k : List Frm}, noStop k = true → KQ P C r B k = KQ P C' r B k
  | [], _ => rfl
  | .code c :: k, h => by simp only [KQ]; rw [KQ_noStop (C' := C') (k := k) h]
  | .blk id :: k, h => by simp only [KQ]; rw [KQ_noStop (C' := C') (k := k) h]
  | .stop _ :: _, h => by cases h

theorem xcode_ok {P : Program} (hm : P.follows .mixedOrders = true) (n : Nat) : ∀ {r : Option Nat} {C : Cx} {fin : Tm → Os → Prop} {B : Exit → Act → World → Prop}
    (_ : C.N.no = false → r = none ∧ C.dfs = [] ∧ C.qb = [])
    (_ : ∀ C', C.to C' → ∀ g os, fin g os → ∀ S ι un a w, Inv C' S ι un (toFS g os) a w → B .normal a w ∧ B .ret a w)
    (k : List Frm) (g : Tm) (os : Os) (nx : Nat), xcode P C.G C.N C.m fin n k g os nx → ∀ S ι a w, Inv C S ι (fun x => nx ≤ x) (toFS g os) a w → KQ P C r B k .normal a w := by
  induction n with
  | zero => intro r C fin B hr hfin k g os nx h; exact h.elim
  | succ n ihA =>
    intro r C fin B hr hfin k g os nx h S ι a w hinv
    have ih := fun (k : List Frm) (g : Tm) (os : Os) (nx : Nat) (h : xcode P C.G C.N C.m fin n k g os nx) => ihA hr hfin k g os nx h
    cases k with
    | nil => exact (hfin C .refl g os h S ι _ a w hinv).1
    | cons f k =>
      cases f with
      | blk id => exact ih k g os nx h S ι a w hinv
      | stop κ => exact ⟨g, os, nx, S, ι, h, hinv⟩
      | code c =>
        show c.wpIn (WF r) 0 P (KQ P C r B k) a w
        simp only [xcode] at h
        rcases orJ_e h with h | ⟨R, gx, osx, nx', hbody, hK⟩
        rotate_left
        · have h1 : c.wpIn (WF r) 0 P (KQ P C r B (.stop _ :: k)) a w := ih _ g os nx hbody S ι a w hinv
          refine wpIn_mono (Exit.then_mono (N2 := KQ P C r B k .normal) h1 ?_) ?_
          · rintro a' w' ⟨g', os', _, S', ι', ⟨hR, σ, hc⟩, hinv'⟩
            obtain ⟨ι2, hinv2⟩ := hinv'.cov hc
            exact ih k gx osx nx' (hK hR) S' ι2 a' w' hinv2
          · intro e a' w' hq
            cases e <;> exact hq
        cases c with
        | skip => exact wpIn_skip (ih k g os nx h S ι a w hinv)
        | seq x y => exact wpIn_seq (ih _ g os nx h S ι a w hinv)
        | cond c x y =>
          simp only at h
          split at h
          · rename_i b hb
            have hv := hinv.ev c
            rw [show (toFS g os).g = lookG g from rfl, hb] at hv
            rcases brn_e h with ⟨hbb, h'⟩ | ⟨hbb, h'⟩
            · subst hbb
              exact wpIn_cond_true hv.bool_inv (ih _ g os nx h' S ι a w hinv)
            · subst hbb
              exact wpIn_cond_false hv.bool_inv (ih _ g os nx h' S ι a w hinv)
          · rename_i p hb
            have hv := hinv.ev c
            rw [show (toFS g os).g = lookG g from rfl, hb] at hv
            obtain ⟨b, hv, hp⟩ := hv.anyb_inv
            cases b with
            | true => exact wpIn_cond_true hv (ih _ g os nx (h.1 (hp rfl)) S ι a w hinv)
            | false => exact wpIn_cond_false hv (ih _ g os nx h.2 S ι a w hinv)
          · exact h.elim
        | block id c => exact wpIn_block (ih _ g os nx h S ι a w hinv)
        | exit id =>
          simp only at h
          split at h
          · rename_i k' hk
            exact wpIn_exit (KQ_exit hk (ih k' g os nx h S ι a w hinv))
          · exact h.elim
        | ret => exact wpIn_ret (KQ_ret (hfin C .refl g os h S ι _ a w hinv).2)
        | region id ops draw =>
          simp only at h
          rcases brn_e h with ⟨hdst, h'⟩ | ⟨_, h'⟩
          · obtain ⟨g', os', ext, hK, hlen, hch⟩ := xops_ok (N := C.N) ops.toList 0 g os [] _ (fun k o hk => by simpa using hk) hdst rfl h'
            simp only [List.append_nil, Array.length_toList] at hK hlen hch
            have hchain := hch (logOf ext) (fun k _ _ => rfl)
            rw [range'_zero] at hchain
            cases draw with
            | false =>
              exact region_ok hm hchain (fun e => by cases e) hinv (dst_nodefer hdst) (fun S' ι' a' w' hinv' => ih k g' os' _ (cast (fN_eq _ _) hK) S' ι' a' w' hinv')
            | true =>
              exact region_ok hm hchain (fun _ => hK.1) hinv (dst_nodefer hdst) (fun S' ι' a' w' hinv' => ih k g' os' _ (cast (fN_eq _ _) hK.2) S' ι' a' w' hinv')
          · exact h'.elim
        | loop body =>
          simp only at h
          obtain ⟨α, gx, osx, nx', I, μ, x0, σ0, hI, hcov, hround⟩ := h
          refine wp_loop_lt (fun m a w => ∃ x S ι, I x ∧ μ x = m ∧ Inv C S ι (fun y => nx' ≤ y) (toFS (gx x) (osx x)) a w) ?_ (μ x0) a w ?_
          · rintro m a w ⟨x, S, ι, hIx, rfl, hinv⟩
            have := ih _ _ _ _ (hround x hIx) S ι a w hinv
            refine Exit.then_mono this ?_
            rintro a' w' ⟨g', os', nx'', S', ι', ⟨x', σ, hI', hlt, hc⟩, hinv'⟩
            obtain ⟨ι2, hinv2⟩ := hinv'.cov hc
            exact ⟨μ x', hlt, x', S', ι2, hI', rfl, hinv2⟩
          · obtain ⟨ι2, hinv2⟩ := hinv.cov hcov
            exact ⟨x0, S, ι2, hI, rfl, hinv2⟩
        | rangeFunc gop ps assign body =>
          simp only at h
          obtain ⟨hno, hR⟩ := h
          simp only [Bool.and_eq_true, Bool.not_eq_true'] at hno
          obtain ⟨hr0, hdf⟩ := hr hno.1
          subst hr0
          refine range_ok hdf ?_ ?_ hR hinv
          · intro C' lo b κ g1 os1 nx1 l hN hG hM hx S1 ι1 a1 w1 hi1
            have := ihA (r := some l) (C := C') (fin := fun _ _ => False) (B := fun _ _ _ => False) (fun h => by rw [hN] at h; cases h) (fun _ _ _ _ h => h.elim) [.code (bif b then body else assign), .stop κ] g1 os1 nx1
              (by rw [hN, hG, hM]; exact hx) S1 ι1 a1 w1 hi1
            exact this
          · intro D g1 os1 nx1 hk hO S1 ι1 a1 w1 hi1
            rw [KQ_noStop (C' := C.ranged D) hno.2]
            exact ihA (r := none) (C := C.ranged D) (fun h => by simp [Cx.ranged] at h) (fun C' hto => by
              cases hto with
              | refl => exact hfin _ (.ranged D hno.1 hO)
              | ranged D' h' _ => simp [Cx.ranged] at h') k g1 os1 nx1 hk S1 ι1 a1 w1 hi1
        | _ => exact h.elim
end Go.Ab
