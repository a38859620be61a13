/-
  LibMv: library functions and others of the program,walked or evaluated. Printed by a program.
-/
import Derived.Test.YthohllgoneadhaaGreatDoorProg
import Derived.Tactics
import Derived.Tactics2
import Derived.Defers
import Derived.WalkKit
import Derived.Laws.Pointers
import Derived.Laws.LoneSync
import Derived.RegionTactic
import Derived.RegionCalls
import Derived.ChangeAlike
import Derived.KernelRfl
import Derived.Test.YthohllgoneadhaaGreatDoorTy
import Derived.Test.YthohllgoneadhaaGreatDoorAbH
import Derived.Test.YthohllgoneadhaaGreatDoorAbI
import Derived.Test.YthohllgoneadhaaGreatDoorAbL
import Derived.Lib.JoinLaws
import Derived.Deep.RegionLaw
set_option linter.unusedVariables false
set_option linter.unusedSimpArgs false
namespace Go.T
open Go Go.Ab Go.Proofs Go.RowKit Go.Lib
theorem ZcB:Tryz.prog.follows .mixedOrders=true:=by kernel_rfl
set_option maxHeartbeats 4000000
set_option maxRecDepth 100000
theorem ZeM:∃ i0 z,Tryz.prog.info? 74=some i0∧i0.zero=some z∧i0.size=5∧z.cells.size=5∧i0.bytes≤1024:=by
  refine ⟨_,_,rfl,rfl,rfl,rfl,?_⟩
  decide
theorem Zk8 (i0:TypeInfo) (z:Value) (hi0:Tryz.prog.info? 74=some i0) (hz0:i0.zero=some z) (zs:List Value) (hz:(Builtin.zeroCells z.cells 1).toList=zs):∀ v∈zs,v.oneCell'=true:=by
  have hi:∃ i1 z1,Tryz.prog.info? 74=some i1∧i1.zero=some z1∧((Builtin.zeroCells z1.cells 1).toList.all fun v=>v.oneCell')=true:=⟨_,_,rfl,rfl,by kernel_rfl⟩
  obtain ⟨i1,z1,h1,h2,h3⟩:=hi
  rw [hi0] at h1
  obtain rfl:=Option.some.inj h1
  rw [hz0] at h2
  obtain rfl:=Option.some.inj h2
  subst hz
  intro v hv
  exact List.all_eq_true.1 h3 v hv
theorem Zkg (b off n c i vb voff vc : Nat) (cs vs : List Value) (w : World) (hi : i < n) (hroom : n + 1 ≤ c) (hL : n < LIM) (hvb : vb ≠ b) (hcl : cs.length = n * 5) (hvl : vs.length = 5)
    (hcs:∀ (j:Nat) v,cs[j]? = some v→w.cell? ⟨b,off+j,none⟩=some v) (hsp:∀ j,j<(n+1) * 5→(w.cell? ⟨b,off+j,none⟩).isSome=true) (hfz:∀ j,j<(n+1) * 5→w.frozen? ⟨b,off+j,none⟩=false)
    (hvs:∀ (j:Nat) v,vs[j]? = some v→w.cell? ⟨vb,voff+j,none⟩=some v) (h1c:∀ v∈cs,v.oneCell'=true) (h1v:∀ v∈vs,v.oneCell'=true) (hfv:∀ j,w.frozen? ⟨vb,j,none⟩=false) :
    Calls Tryz.prog 51 #[.slice (some ⟨b,off,none⟩) n c,.int .i64 i,.slice (some ⟨vb,voff,none⟩) 1 vc] w fun e w' =>
      e = .returned (.slice (some ⟨b,off,none⟩) (n+1) c)∧w'=(w.drew.setCells b (off+(i+1) * 5) (cs.drop (i * 5))).setCells b (off+i * 5) vs:=by
  have hL':n<1073741824:=hL
  have mixed:=ZcB
  obtain ⟨i0,z,hi0,hz0,hzs,hzc,hzb⟩:=ZeM
  have hsz:(Tryz.prog.info? 74).map (·.size)=some 5:=by rw [hi0];simp [hzs]
  have hz9:∀ w,(Go.sizeOf 74).run Tryz.prog w = .ok 5 w:=fun w=>by simp [Go.sizeOf,typeInfo,hi0,hzs]
  obtain ⟨v0,hv0⟩:∃ v0,vs[0]? = some v0:=⟨_,List.getElem?_eq_getElem (by omega)⟩
  obtain ⟨c0,hc0⟩:∃ c0,cs[0]? = some c0:=⟨_,List.getElem?_eq_getElem (by omega)⟩
  obtain ⟨tA,kA,hsa,_⟩:=Zga (hvs 0 v0 hv0)
  obtain ⟨tB,kB,hsb,hkB⟩:=Zga (hcs 0 c0 hc0)
  have hz2:¬ ((i:Int)=(n:Int)):=by omega
  have hov:∀ lb cb,(callFunc 70 #[.slice (some ⟨vb,voff,none⟩) 1 vc,.slice (some ⟨b,off+(i+1) * 5,none⟩) lb cb]).run Tryz.prog w = .ok (.value (.bool false)) w:=fun lb cb=>by
    rw [run_callFunc_extern Tryz.func70 (by kernel_rfl) (by kernel_rfl) (by kernel_rfl) (e:=Extern.SlicesOverlaps.overlaps #[26,26] #[4]) (by kernel_rfl),
      Lib.run_overlaps_apart w 26 4 74 Tryz.underlying26 5 hz9 ⟨vb,voff,none⟩ ⟨b,off+(i+1) * 5,none⟩ 1 vc lb cb hvb tA tB kA kB hsa hsb hkB (hfv _) (hfv _)]
    rfl
  have hdl:(cs.drop (i * 5)).length=(n - i) * 5:=by rw [List.length_drop,hcl,Nat.sub_mul]
  have hw1:IntKind.i64.wrap ((i:Int)+1)=(i:Int)+1:=by rw [IntKind.wrap_i64];omega
  have hwn:IntKind.i64.wrap ((n:Int)+1)=(n:Int)+1:=by rw [IntKind.wrap_i64];omega
  have hb1:(0:Int)≤(i:Int)+1:=by omega
  have hin:i≤n:=by omega
  have htn:((i:Int)+1).toNat=i+1:=by omega
  have htn2:((n:Int)+1).toNat=n+1:=by omega
  have hb2:¬ (c=i+1):=by omega
  have hb3:(i:Int)≤(n:Int)+1:=by omega
  have hb4:¬ (c=i):=by omega
  have hb5:¬ ((c:Int)<(n:Int)+1):=by omega
  have hcp1:∀ ty dc sc,(Builtin.copy_ #[26,26] ty #[.slice (some ⟨b,off+(i+1) * 5,none⟩) (n - i) dc,.slice (some ⟨b,off+i * 5,none⟩) (n+1 - i) sc]).run Tryz.prog w.drew = .ok (goInt ((n - i:Nat):Int)) (w.drew.setCells b (off+(i+1) * 5) (cs.drop (i * 5))):=fun ty dc sc =>
    ZbH w.drew _ _ ty 74 5 (n - i) b (off+(i+1) * 5) (n - i) dc ⟨b,off+i * 5,none⟩ (n+1 - i) sc (cs.drop (i * 5)) Tryz.underlying26 hsz (by simp only [Nat.min_def];split<;>omega) hdl
      (fun j v hj=>by rw [Addr.add_lit,Nat.add_assoc];exact hcs (i * 5+j) v (by rwa [List.getElem?_drop] at hj))
      (fun j hj=>by rw [Nat.add_assoc];exact hsp _ (by rw [hdl] at hj;omega)) (fun j hj=>by rw [Nat.add_assoc];exact hfz _ (by rw [hdl] at hj;omega)) (fun v hv=>h1c v (List.mem_of_mem_drop hv))
  obtain ⟨W1,hW1⟩:∃ W1,W1=w.drew.setCells b (off+(i+1) * 5) (cs.drop (i * 5)):=⟨_,rfl⟩
  have hsp1:∀ k,k<(n+1) * 5→(W1.cell? ⟨b,off+k,none⟩).isSome=true:=fun k hk=>by
    rw [hW1]
    exact isSome_setCells b _ _ _ (fun j hj=>by rw [Nat.add_assoc];exact hsp _ (by rw [hdl] at hj;omega)) _ (hsp k hk)
  have hcp2:∀ (W:World),(∀ x,W.cell? x=W1.cell? x)→(∀ x,W.frozen? x=W1.frozen? x)→∀ ty dc,(Builtin.copy_ #[26,26] ty #[.slice (some ⟨b,off+i * 5,none⟩) (n+1 - i) dc,.slice (some ⟨vb,voff,none⟩) 1 vc]).run Tryz.prog W = .ok (goInt ((1:Nat):Int)) (W.setCells b (off+i * 5) vs):=fun W hWc hWf ty dc =>
    ZbH W _ _ ty 74 5 1 b (off+i * 5) (n+1 - i) dc ⟨vb,voff,none⟩ 1 vc vs Tryz.underlying26 hsz (by simp only [Nat.min_def];split<;>omega) (by rw [hvl])
      (fun j v hj=>by
        rw [Addr.add_lit,hWc,hW1,World.cell?_setCells_out b _ _ _ _ (fun h _=>absurd h hvb)]
        exact hvs j v hj)
      (fun j hj=>by rw [hWc,Nat.add_assoc];exact hsp1 _ (by omega)) (fun j hj=>by rw [hWf,hW1,World.frozen?_setCells,Nat.add_assoc];exact hfz _ (by omega)) h1v
  rw [← hW1] at hcp1
  go_enter Tryz.func51,Tryz.ntmps51
  go_wp2_with (simp only [hov])
  go_region_law_o (refine step_copy_runI rfl _ _ 26 26 rfl _ _ (by simp [Act.eval,Act.put]) (by simp [Act.eval,Act.put]) (hcp1 _ _ _) ?_)
  go_wp2_with (at_builtin;refine wpList_copy_runI _ rfl _ _ 26 26 rfl _ _ rfl rfl (hcp2 _ (fun _=>rfl) (fun _=>rfl) _ _) ?_)
  go_ret
  first | exact ⟨rfl,rfl⟩ | exact ⟨rfl,by rw [hW1]⟩
theorem Zlg (b off n c vb voff vc : Nat) (vs : List Value) (w : World) (hroom : n + 1 ≤ c) (hvl : vs.length = 5)
    (hsp:∀ j,j<5→(w.cell? ⟨b,off+n * 5+j,none⟩).isSome=true) (hfz:∀ j,j<5→w.frozen? ⟨b,off+n * 5+j,none⟩=false)
    (hvs:∀ (j:Nat) v,vs[j]? = some v→w.cell? ⟨vb,voff+j,none⟩=some v) (h1v:∀ v∈vs,v.oneCell'=true) :
    Calls Tryz.prog 51 #[.slice (some ⟨b,off,none⟩) n c,.int .i64 n,.slice (some ⟨vb,voff,none⟩) 1 vc] w fun e w' =>
      e = .returned (.slice (some ⟨b,off,none⟩) (n+1) c)∧w'=w.setCells b (off+n * 5) vs:=by
  have mixed:=ZcB
  obtain ⟨i0,z,hi0,hz0,hzs,hzc,hzb⟩:=ZeM
  have hsrc:Src Tryz.prog i0.size 26 (.slice (some ⟨vb,voff,none⟩) 1 vc) 1 vs w:=Src.ofSlice w Tryz.underlying26 ⟨vb,voff,none⟩ 1 vc vs (by omega) (fun j u hj=>by rw [Addr.add_lit];exact hvs j u hj) h1v
  go_enter Tryz.func51,Tryz.ntmps51
  go_wp2_with (at_builtin;refine wpList_append_room_src _ rfl _ _ 26 26 rfl 74 i0 Tryz.underlying26 hi0 b off n c rfl _ rfl 1 vs hsrc hroom (by rw [hvl,hzs];exact hsp) (by rw [hvl,hzs];exact hfz) ?_)
  go_ret
  first | exact ⟨rfl,rfl⟩ | exact ⟨rfl,by rw [hzs]⟩
theorem Zlj (base : Option Addr) (n c vb voff vc : Nat) (cs vs : List Value) (w : World) (hnc : n ≤ c) (hroom : c < n + 1) (hL : n < LIM) (hcl : cs.length = n * 5) (hvl : vs.length = 5) (hnil : base = none → n = 0)
    (hcs:∀ a,base=some a→∀ (j:Nat) v,cs[j]? = some v→w.cell? (a.add j)=some v) (hvs:∀ (j:Nat) v,vs[j]? = some v→w.cell? ⟨vb,voff+j,none⟩=some v) (h1v:∀ v∈vs,v.oneCell'=true) :
    Calls Tryz.prog 51 #[.slice base n c,.int .i64 n,.slice (some ⟨vb,voff,none⟩) 1 vc] w fun e' w' =>
      ∃ (cap:Nat) (rest:List Value),e' = .returned (.slice (some ⟨w.heap.size,0,none⟩) (n+1) cap)∧n+1≤cap∧cap * 5=((cs++vs)++rest).length∧w'=w.drew.alloc (.cells (cs++vs++rest).toArray 74):=by
  have hL':n<1073741824:=hL
  have mixed:=ZcB
  obtain ⟨i0,z,hi0,hz0,hzs,hzc,hzb⟩:=ZeM
  have hsrc:Src Tryz.prog i0.size 26 (.slice (some ⟨vb,voff,none⟩) 1 vc) 1 vs w:=Src.ofSlice w Tryz.underlying26 ⟨vb,voff,none⟩ 1 vc vs (by omega) (fun j u hj=>by rw [Addr.add_lit];exact hvs j u hj) h1v
  have hold:(Builtin.firstCells i0.size n (.slice base n c)).run Tryz.prog w.drew = .ok cs.toArray w.drew:=by
    rw [hzs]
    cases base with
    | none =>
      have h0:=hnil rfl
      subst h0
      have hcn:cs=[]:=List.length_eq_zero_iff.1 (by omega)
      rw [hcn]
      exact run_firstCells_none w.drew 5 0 0 c
    | some a=>exact run_firstCells_some w.drew 5 n a n c cs (by omega) (fun j v hj=>hcs a rfl j v hj)
  have hb:(n+1) * i0.bytes≤140737488355328:=Nat.le_trans (Nat.mul_le_mul_left _ hzb) (by omega)
  have hrun:∀ ty,(Builtin.append_ #[26,26] ty #[.slice base n c,.slice (some ⟨vb,voff,none⟩) 1 vc]).run Tryz.prog w=_:=fun ty =>
    run_append_grow_src w 26 26 ty 74 i0 _ Tryz.underlying26 hi0 hz0 base n c cs hold _ 1 vs hsrc hroom (by omega) (growslice_fits hroom hb)
  obtain ⟨ZC,hZC⟩:∃ ZC,ZC=z.cells:=⟨_,rfl⟩
  simp only [← hZC] at hrun
  rw [← hZC] at hzc
  clear hZC hz0 hold hb
  have key:Calls Tryz.prog 51 #[.slice base n c,.int .i64 n,.slice (some ⟨vb,voff,none⟩) 1 vc] w fun e' w' =>
      e' = .returned (.slice (some ⟨w.heap.size,0,none⟩) (n+1) (grownCap w (n+1) c 74))∧w'=w.drew.alloc (.cells ((cs++vs).toArray++Builtin.zeroCells ZC (grownCap w (n+1) c 74 - (n+1))) 74):=by
    go_enter Tryz.func51,Tryz.ntmps51
    cases base with
    | none =>
      have h0:=hnil rfl
      subst h0
      go_wp2_with (at_builtin;refine Lib.wpList_append_run _ rfl _ _ _ _ rfl _ _ rfl rfl _ _ (hrun _) ?_)
      all_goals (go_ret;exact ⟨rfl,rfl⟩)
    | some a =>
      obtain ⟨ab,ao,asp⟩:=a
      go_wp2_with (at_builtin;refine Lib.wpList_append_run _ rfl _ _ _ _ rfl _ _ rfl rfl _ _ (hrun _) ?_)
      all_goals (go_ret;exact ⟨rfl,rfl⟩)
  refine key.mono ?_
  rintro e' w' ⟨rfl,rfl⟩
  have hG:=grownCap_ge w (n+1) c 74
  generalize grownCap w (n+1) c 74=K at hG ⊢
  refine ⟨K,(Builtin.zeroCells ZC (K - (n+1))).toList,rfl,hG,?_,?_⟩
  · have hzl:(Builtin.zeroCells ZC (K - (n+1))).size=(K - (n+1)) * 5:=by simp [Builtin.zeroCells,hzc]
    rw [List.length_append,List.length_append,hcl,hvl,Array.length_toList,hzl,Nat.sub_mul]
    omega
  · congr 2
    apply Array.toList_inj.1
    simp
theorem Zld (b off n c i vb voff vc : Nat) (cs vs : List Value) (w : World) (hi : i < n) (hnc : n ≤ c) (hroom : c < n + 1) (hL : n < LIM) (hcl : cs.length = n * 5) (hvl : vs.length = 5)
    (hcs:∀ (j:Nat) v,cs[j]? = some v→w.cell? ⟨b,off+j,none⟩=some v) (hvs:∀ (j:Nat) v,vs[j]? = some v→w.cell? ⟨vb,voff+j,none⟩=some v) (h1c:∀ v∈cs,v.oneCell'=true) (h1v:∀ v∈vs,v.oneCell'=true) :
    Calls Tryz.prog 51 #[.slice (some ⟨b,off,none⟩) n c,.int .i64 i,.slice (some ⟨vb,voff,none⟩) 1 vc] w fun e' w' =>
      ∃ (cap:Nat) (rest:List Value),e' = .returned (.slice (some ⟨w.heap.size,0,none⟩) (n+1) cap)∧n+1≤cap∧cap * 5=((cs.take (i * 5))++rest).length∧(n+1) * 5≤((cs.take (i * 5))++rest).length ∧
        w'=(((w.alloc (.cells (cs.take (i * 5)++rest).toArray 74)).drew.setCells w.heap.size (i * 5) vs).drew).setCells w.heap.size ((i+1) * 5) (cs.drop (i * 5)):=by
  have hL':n<1073741824:=hL
  have mixed:=ZcB
  obtain ⟨i0,z,hi0,hz0,hzs,hzc,hzb⟩:=ZeM
  have hz2:¬ ((i:Int)=(n:Int)):=by omega
  have hz3:(c:Int)<(n:Int)+1:=by omega
  have hsz:(Tryz.prog.info? 74).map (·.size)=some 5:=by rw [hi0];simp [hzs]
  have hbw:b<w.heap.size:=block_lt_of_cell (hcs 0 _ (List.getElem?_eq_getElem (by omega)))
  have hvw:vb<w.heap.size:=block_lt_of_cell (hvs 0 _ (List.getElem?_eq_getElem (by omega)))
  have hkk:(n:Int)+1 - (i:Int)=((n+1 - i:Nat):Int):=by omega
  have hik:i+(n+1 - i)=n+1:=by omega
  have htl:(cs.take (i * 5)).length=i * 5:=by rw [List.length_take,hcl];omega
  have hb:(n+1) * i0.bytes≤140737488355328:=Nat.le_trans (Nat.mul_le_mul_left _ hzb) (by omega)
  have hb2:(n+1 - i) * i0.bytes≤281474976710656:=Nat.le_trans (Nat.mul_le_mul_left _ hzb) (by omega)
  have hold:(Builtin.firstCells i0.size i (.slice (some ⟨b,off,none⟩) i c)).run Tryz.prog w.drew = .ok (cs.take (i * 5)).toArray w.drew:=by
    rw [hzs]
    exact run_firstCells_some w.drew 5 i ⟨b,off,none⟩ i c (cs.take (i * 5)) htl (fun j v hj=>by
      rw [Addr.add_lit]
      rw [List.getElem?_take] at hj
      split at hj
      · exact hcs j v hj
      · cases hj)
  have hrz : ∀ ty, (Builtin.append_ #[26, 3] ty #[.slice (some ⟨b, off, none⟩) i c, .int .i64 ((n : Int) + 1 - (i : Int))]).run Tryz.prog w =
      .ok (.slice (some ⟨w.heap.size,0,none⟩) (n+1) (grownCap w (n+1) c 74)) (w.drew.alloc (.cells ((cs.take (i * 5)).toArray++Builtin.zeroCells z.cells (n+1 - i)++Builtin.zeroCells z.cells (grownCap w (n+1) c 74 - (n+1))) 74)):=fun ty=>by
    have h:=Lib.run_append_grow_zeros w 26 3 ty 74 i0 _ .i64 .i64 Tryz.underlying26 Tryz.underlying3 hi0 hz0 (some ⟨b,off,none⟩) i c (cs.take (i * 5)) hold (n+1 - i) (by omega) (by omega) (by omega) (by omega) hb2 (by rw [hik];exact growslice_fits hroom hb)
    rw [hik] at h
    rw [hkk]
    exact h
  have hG0:=grownCap_ge w (n+1) c 74
  have hG1:=grownCap_le_maxLen w (n+1) c 74 (by unfold maxLen;omega)
  obtain ⟨G,hG⟩:∃ G,G=grownCap w (n+1) c 74:=⟨_,rfl⟩
  rw [← hG] at hrz hG0 hG1
  unfold maxLen at hG1
  obtain ⟨REST,hREST⟩:∃ REST:List Value,REST=(Builtin.zeroCells z.cells (n+1 - i)++Builtin.zeroCells z.cells (G - (n+1))).toList:=⟨_,rfl⟩
  have hRs:REST.length=(G - i) * 5:=by
    rw [hREST]
    have h1:(Builtin.zeroCells z.cells (n+1 - i)).size=(n+1 - i) * 5:=by simp [Builtin.zeroCells,hzc]
    have h2:(Builtin.zeroCells z.cells (G - (n+1))).size=(G - (n+1)) * 5:=by simp [Builtin.zeroCells,hzc]
    rw [Array.length_toList,Array.size_append,h1,h2]
    omega
  obtain ⟨ROW,hROW⟩:∃ ROW:Array Value,ROW=(cs.take (i * 5)++REST).toArray:=⟨_,rfl⟩
  have hRe:(cs.take (i * 5)).toArray++Builtin.zeroCells z.cells (n+1 - i)++Builtin.zeroCells z.cells (G - (n+1))=ROW:=by
    rw [hROW,hREST]
    apply Array.toList_inj.1
    simp
  rw [hRe] at hrz
  have hRl:ROW.size=G * 5:=by
    rw [hROW]
    simp only [List.size_toArray,List.length_append,htl,hRs]
    omega
  obtain ⟨W1,hW1⟩:∃ W1,W1=w.drew.alloc (.cells ROW 74):=⟨_,rfl⟩
  rw [← hW1] at hrz
  have hN:∀ j,j<(n+1) * 5→(W1.cell? ⟨w.heap.size,j,none⟩).isSome=true:=fun j hj=>by
    rw [hW1,World.cell?_alloc_at (w:=w.drew) ROW _ w.heap.size j rfl,Array.getElem?_eq_getElem (by omega)];rfl
  have hNf:∀ j,W1.frozen? ⟨w.heap.size,j,none⟩=false:=fun j=>by rw [hW1];exact World.frozen?_alloc_at (w:=w.drew) ROW _ w.heap.size j rfl
  have hOb:∀ j v,w.cell? ⟨b,j,none⟩=some v→W1.cell? ⟨b,j,none⟩=some v:=fun j v h=>by rw [hW1,World.cell?_alloc_past (w:=w.drew) _ b j hbw];exact h
  have hOv:∀ j v,w.cell? ⟨vb,j,none⟩=some v→W1.cell? ⟨vb,j,none⟩=some v:=fun j v h=>by rw [hW1,World.cell?_alloc_past (w:=w.drew) _ vb j hvw];exact h
  have hcpA:∀ (W:World),(∀ x,W.cell? x=W1.cell? x)→(∀ x,W.frozen? x=W1.frozen? x)→∀ ty dc,(Builtin.copy_ #[26,26] ty #[.slice (some ⟨w.heap.size,i * 5,none⟩) (n+1 - i) dc,.slice (some ⟨vb,voff,none⟩) 1 vc]).run Tryz.prog W = .ok (goInt ((1:Nat):Int)) (W.setCells w.heap.size (i * 5) vs):=fun W hWc hWf ty dc =>
    ZbH W _ _ ty 74 5 1 w.heap.size (i * 5) (n+1 - i) dc ⟨vb,voff,none⟩ 1 vc vs Tryz.underlying26 hsz (by simp only [Nat.min_def];split<;>omega) (by rw [hvl])
      (fun j v hj=>by rw [Addr.add_lit,hWc];exact hOv _ v (hvs j v hj))
      (fun j hj=>by rw [hWc];exact hN _ (by omega)) (fun j hj=>by rw [hWf];exact hNf _) h1v
  have hGi:¬ (G=i):=by omega
  have hGim:¬ (G=i+1):=by omega
  have hci:¬ (c=i):=by omega
  have hbN:b≠w.heap.size:=by omega
  have hdl:(cs.drop (i * 5)).length=(n - i) * 5:=by rw [List.length_drop,hcl,Nat.sub_mul]
  have hcpB:∀ (W:World),(∀ x,W.cell? x=(W1.setCells w.heap.size (i * 5) vs).cell? x)→(∀ x,W.frozen? x=(W1.setCells w.heap.size (i * 5) vs).frozen? x)→∀ ty dc sc,(Builtin.copy_ #[26,26] ty #[.slice (some ⟨w.heap.size,(i+1) * 5,none⟩) (n - i) dc,.slice (some ⟨b,off+i * 5,none⟩) (n - i) sc]).run Tryz.prog W = .ok (goInt ((n - i:Nat):Int)) (W.setCells w.heap.size ((i+1) * 5) (cs.drop (i * 5))):=fun W hWc hWf ty dc sc =>
    ZbH W _ _ ty 74 5 (n - i) w.heap.size ((i+1) * 5) (n - i) dc ⟨b,off+i * 5,none⟩ (n - i) sc (cs.drop (i * 5)) Tryz.underlying26 hsz (by simp only [Nat.min_def];split<;>omega) hdl
      (fun j v hj=>by
        rw [Addr.add_lit,hWc,World.cell?_setCells_out _ _ _ _ _ (fun h _=>absurd h hbN),Nat.add_assoc]
        exact hOb _ v (hcs (i * 5+j) v (by rwa [List.getElem?_drop] at hj)))
      (fun j hj=>by rw [hWc];exact isSome_setCells _ _ _ _ (fun t ht=>hN _ (by omega)) _ (hN _ (by rw [hdl] at hj;omega)))
      (fun j hj=>by rw [hWf,World.frozen?_setCells];exact hNf _) (fun v hv=>h1c v (List.mem_of_mem_drop hv))
  subst hW1
  have hE1:∀ x,((w.alloc (.cells ROW 74)).drew).cell? x=(w.drew.alloc (.cells ROW 74)).cell? x:=fun x=>rfl
  have hE2:∀ x,((w.alloc (.cells ROW 74)).drew).frozen? x=(w.drew.alloc (.cells ROW 74)).frozen? x:=fun x=>rfl
  have hF1:∀ x,(((w.alloc (.cells ROW 74)).drew.setCells w.heap.size (i * 5) vs).drew).cell? x=((w.drew.alloc (.cells ROW 74)).setCells w.heap.size (i * 5) vs).cell? x:=fun x=>rfl
  have hF2:∀ x,(((w.alloc (.cells ROW 74)).drew.setCells w.heap.size (i * 5) vs).drew).frozen? x=((w.drew.alloc (.cells ROW 74)).setCells w.heap.size (i * 5) vs).frozen? x:=fun x=>rfl
  have hw1:IntKind.i64.wrap ((i:Int)+1)=(i:Int)+1:=by rw [IntKind.wrap_i64];omega
  have hb1:(0:Int)≤(i:Int)+1:=by omega
  have hin:i≤n:=by omega
  have htn:((i:Int)+1).toNat=i+1:=by omega
  have hb3:(i:Int)≤(n:Int):=by omega
  have hgg:G * 5=(cs.take (i * 5)++REST).length:=by rw [List.length_append,htl,hRs];omega
  have hgg2:(n+1) * 5≤(cs.take (i * 5)++REST).length:=by rw [← hgg];omega
  have hROW2:=hROW.symm
  clear hkk hik hold hG hRl hRe hROW hREST hz0 hzc hRs hb hb2
  go_enter Tryz.func51,Tryz.ntmps51
  go_wp2_with (first
    | (at_builtin;refine Lib.wpList_append_run _ rfl _ _ _ _ rfl _ _ rfl rfl _ _ (hrz _) ?_)
    | (at_builtin;refine wpList_copy_runI _ rfl _ _ 26 26 rfl _ _ rfl rfl (hcpA _ hE1 hE2 _ _) ?_)
    | (at_builtin;refine wpList_copy_runI _ rfl _ _ 26 26 rfl _ _ rfl rfl (hcpB _ (fun _=>rfl) (fun _=>rfl) _ _ _) ?_))
  go_region_law_o (refine step_copy_runI rfl _ _ 26 26 rfl (.slice (some ⟨w.heap.size,(i+1) * 5,none⟩) (n - i) (G - (i+1))) (.slice (some ⟨b,off+i * 5,none⟩) (n - i) (c - i)) (by simp [Act.eval,Act.put]) (by simp [Act.eval,Act.put]) (hcpB _ hF1 hF2 3 (G - (i+1)) (c - i)) ?_)
  go_wp2
  go_ret
  refine ⟨G,REST,rfl,hG0,hgg,hgg2,?_⟩
  rw [hROW2]
  try rfl
theorem ZnP:InsOk Tryz.prog 51 74 5:=⟨by kernel_rfl,Zkg,Zlg,Zld,Zlj⟩
theorem Zq4 (b off n c i : Nat) (cs : List Value) (w : World) (hi : i < n) (hnc : n ≤ c) (hL : n ≤ LIM) (hcl : cs.length = n * 5) (hcs : ∀ (j : Nat) v, cs[j]? = some v → w.cell? ⟨b, off + j, none⟩ = some v)
    (hfz:∀ j,j<n * 5→w.frozen? ⟨b,off+j,none⟩=false) (h1c:∀ v∈cs,v.oneCell'=true) :
    Calls Tryz.prog 52 #[.slice (some ⟨b,off,none⟩) n c,.int .i64 i,.int .i64 ((i:Int)+1)] w fun e w' =>
      ∃ zs:List Value,e = .returned (.slice (some ⟨b,off,none⟩) (n - 1) c)∧zs.length=5∧w'=(w.drew.setCells b (off+i * 5) (cs.drop ((i+1) * 5))).setCells b (off+(n - 1) * 5) zs:=by
  have hL':n≤1073741824:=hL
  have mixed:=ZcB
  obtain ⟨i0,z,hi0,hz0,hzs,hzc,hzb⟩:=ZeM
  obtain ⟨news,hnews⟩:∃ news,news=cs.drop ((i+1) * 5):=⟨_,rfl⟩
  have hlen:news.length=(n - (i+1)) * 5:=by rw [hnews,List.length_drop,hcl,Nat.sub_mul]
  obtain ⟨A,hA,hsrc⟩:∃ A:Addr,(if c=i+1 then some (⟨b,off,none⟩:Addr) else some ⟨b,off+(i+1) * 5,none⟩)=some A∧Hid (∀ t u,news[t]? = some u→w.drew.cell? (A.add t)=some u):=by
    by_cases h:c=i+1
    · refine ⟨⟨b,off,none⟩,by simp [h],fun t u hu=>?_⟩
      have h0:news.length=0:=by rw [hlen,show n - (i+1)=0 by omega];first | done | omega
      rw [List.length_eq_zero_iff.1 h0] at hu
      simp at hu
    · refine ⟨⟨b,off+(i+1) * 5,none⟩,by simp [h],fun t u hu=>?_⟩
      rw [Addr.add_lit,Nat.add_assoc]
      rw [hnews,List.getElem?_drop] at hu
      exact hcs _ u hu
  have s1:Hid (news.length=(n - (i+1)) * 5):=hlen
  have s2:Hid (∀ u∈news,u.oneCell'=true):=by
    intro u hu
    rw [hnews] at hu
    exact h1c u (List.mem_of_mem_drop hu)
  have hsome:∀ j,j<n * 5→(w.cell? ⟨b,off+j,none⟩).isSome=true:=fun j hj=>by
    rw [hcs j _ (List.getElem?_eq_getElem (by omega))];rfl
  have s3:Hid (∀ t,t<news.length→(w.drew.cell? ⟨b,off+i * 5+t,none⟩).isSome=true∧w.drew.frozen? ⟨b,off+i * 5+t,none⟩=false):=by
    intro t ht
    rw [hlen] at ht
    rw [Nat.add_assoc]
    exact ⟨hsome _ (by omega),hfz _ (by omega)⟩
  obtain ⟨W1,hW1⟩:∃ W1,W1=w.drew.setCells b (off+i * 5) news:=⟨_,rfl⟩
  obtain ⟨zs,hzs2⟩:∃ zs,(Builtin.zeroCells z.cells 1).toList=zs:=⟨_,rfl⟩
  have hzl:zs.length=5:=by
    rw [← hzs2,Array.length_toList];simp [Builtin.zeroCells,hzc]
  have hz1:∀ v∈zs,v.oneCell'=true:=Zk8 i0 z hi0 hz0 zs hzs2
  have hW1c:∀ j,j<n * 5→(W1.cell? ⟨b,off+j,none⟩).isSome=true:=fun j hj=>by
    rw [hW1]
    exact isSome_setCells b _ _ _ (fun t ht=>by rw [Nat.add_assoc];exact hsome _ (by rw [hlen] at ht;omega)) _ (hsome j hj)
  have hcl1:∀ ty cc,(Builtin.clear_ #[26] ty #[.slice (some ⟨b,off+(n - 1) * 5,none⟩) 1 cc]).run Tryz.prog W1 = .ok (.tuple #[]) (W1.setCells b (off+(n - 1) * 5) zs):=fun ty cc =>
    Zi6 W1 26 74 ty i0 z Tryz.underlying26 hi0 hz0 b (off+(n - 1) * 5) cc zs hzs2 hz1 (fun j hj=>by rw [Nat.add_assoc];exact hW1c _ (by omega)) (fun j hj=>by rw [hW1,World.frozen?_setCells,Nat.add_assoc];exact hfz _ (by omega))
  have hW:Hid (W1=w.drew.setCells b (off+i * 5) news):=hW1
  have hic:i≤c:=by omega
  have hjc:i+1≤c:=by omega
  have hji:¬ ((i:Int)=(i:Int)+1):=by omega
  have hb1:(0:Int)≤(i:Int)+1:=by omega
  have htn:((i:Int)+1).toNat=i+1:=by omega
  have hjn:(i:Int)+1≤(n:Int):=by omega
  have hk1:i+(n - (i+1))=n - 1:=by omega
  have hk2:n - (n - 1)=1:=by omega
  have hkn:n - 1≤n:=by omega
  have hkc:¬ (c=n - 1):=by omega
  have hout:Hid (zs.length=5):=hzl
  have hnw:Hid (news=cs.drop ((i+1) * 5)):=hnews
  clear hnews hlen hsome hW1c hW1 hz0 hzc hzs2 hz1 hzl hcs hfz h1c
  go_enter Tryz.func52,Tryz.ntmps52
  go_wp2_with fail
  go_region_law_o (refine step_append_room rfl (.tmp 22) (.tmp 25) 26 rfl 74 i0 5 Tryz.underlying26 hi0 hzs b off i c (by simp [Act.eval,Act.put]) A (n - (i+1)) (c - (i+1)) news (by simp [Act.eval,Act.put]) s1.out hsrc.out s2.out (by omega) s3.out ?_;rw [← hW.out])
  go_wp2_with (at_builtin;fail)
  go_ret
  exact ⟨zs,rfl,hout.out,by rw [hW.out,hnw.out]⟩
theorem Zn0:DelOk Tryz.prog 52 5:=⟨by kernel_rfl,Zq4⟩
theorem ZfE:∃ i0 z,Tryz.prog.info? 44=some i0∧i0.zero=some z∧i0.size=7∧z.cells.size=7∧i0.bytes≤1024:=by
  refine ⟨_,_,rfl,rfl,rfl,rfl,?_⟩
  decide
theorem Zkf (b off n c i vb voff vc : Nat) (cs vs : List Value) (w : World) (hi : i < n) (hroom : n + 1 ≤ c) (hL : n < LIM) (hvb : vb ≠ b) (hcl : cs.length = n * 7) (hvl : vs.length = 7)
    (hcs:∀ (j:Nat) v,cs[j]? = some v→w.cell? ⟨b,off+j,none⟩=some v) (hsp:∀ j,j<(n+1) * 7→(w.cell? ⟨b,off+j,none⟩).isSome=true) (hfz:∀ j,j<(n+1) * 7→w.frozen? ⟨b,off+j,none⟩=false)
    (hvs:∀ (j:Nat) v,vs[j]? = some v→w.cell? ⟨vb,voff+j,none⟩=some v) (h1c:∀ v∈cs,v.oneCell'=true) (h1v:∀ v∈vs,v.oneCell'=true) (hfv:∀ j,w.frozen? ⟨vb,j,none⟩=false) :
    Calls Tryz.prog 83 #[.slice (some ⟨b,off,none⟩) n c,.int .i64 i,.slice (some ⟨vb,voff,none⟩) 1 vc] w fun e w' =>
      e = .returned (.slice (some ⟨b,off,none⟩) (n+1) c)∧w'=(w.drew.setCells b (off+(i+1) * 7) (cs.drop (i * 7))).setCells b (off+i * 7) vs:=by
  have hL':n<1073741824:=hL
  have mixed:=ZcB
  obtain ⟨i0,z,hi0,hz0,hzs,hzc,hzb⟩:=ZfE
  have hsz:(Tryz.prog.info? 44).map (·.size)=some 7:=by rw [hi0];simp [hzs]
  have hz9:∀ w,(Go.sizeOf 44).run Tryz.prog w = .ok 7 w:=fun w=>by simp [Go.sizeOf,typeInfo,hi0,hzs]
  obtain ⟨v0,hv0⟩:∃ v0,vs[0]? = some v0:=⟨_,List.getElem?_eq_getElem (by omega)⟩
  obtain ⟨c0,hc0⟩:∃ c0,cs[0]? = some c0:=⟨_,List.getElem?_eq_getElem (by omega)⟩
  obtain ⟨tA,kA,hsa,_⟩:=Zga (hvs 0 v0 hv0)
  obtain ⟨tB,kB,hsb,hkB⟩:=Zga (hcs 0 c0 hc0)
  have hz2:¬ ((i:Int)=(n:Int)):=by omega
  have hov:∀ lb cb,(callFunc 101 #[.slice (some ⟨vb,voff,none⟩) 1 vc,.slice (some ⟨b,off+(i+1) * 7,none⟩) lb cb]).run Tryz.prog w = .ok (.value (.bool false)) w:=fun lb cb=>by
    rw [run_callFunc_extern Tryz.func101 (by kernel_rfl) (by kernel_rfl) (by kernel_rfl) (e:=Extern.SlicesOverlaps.overlaps #[65,65] #[4]) (by kernel_rfl),
      Lib.run_overlaps_apart w 65 4 44 Tryz.underlying65 7 hz9 ⟨vb,voff,none⟩ ⟨b,off+(i+1) * 7,none⟩ 1 vc lb cb hvb tA tB kA kB hsa hsb hkB (hfv _) (hfv _)]
    rfl
  have hdl:(cs.drop (i * 7)).length=(n - i) * 7:=by rw [List.length_drop,hcl,Nat.sub_mul]
  have hw1:IntKind.i64.wrap ((i:Int)+1)=(i:Int)+1:=by rw [IntKind.wrap_i64];omega
  have hwn:IntKind.i64.wrap ((n:Int)+1)=(n:Int)+1:=by rw [IntKind.wrap_i64];omega
  have hb1:(0:Int)≤(i:Int)+1:=by omega
  have hin:i≤n:=by omega
  have htn:((i:Int)+1).toNat=i+1:=by omega
  have htn2:((n:Int)+1).toNat=n+1:=by omega
  have hb2:¬ (c=i+1):=by omega
  have hb3:(i:Int)≤(n:Int)+1:=by omega
  have hb4:¬ (c=i):=by omega
  have hb5:¬ ((c:Int)<(n:Int)+1):=by omega
  have hcp1:∀ ty dc sc,(Builtin.copy_ #[65,65] ty #[.slice (some ⟨b,off+(i+1) * 7,none⟩) (n - i) dc,.slice (some ⟨b,off+i * 7,none⟩) (n+1 - i) sc]).run Tryz.prog w.drew = .ok (goInt ((n - i:Nat):Int)) (w.drew.setCells b (off+(i+1) * 7) (cs.drop (i * 7))):=fun ty dc sc =>
    ZbH w.drew _ _ ty 44 7 (n - i) b (off+(i+1) * 7) (n - i) dc ⟨b,off+i * 7,none⟩ (n+1 - i) sc (cs.drop (i * 7)) Tryz.underlying65 hsz (by simp only [Nat.min_def];split<;>omega) hdl
      (fun j v hj=>by rw [Addr.add_lit,Nat.add_assoc];exact hcs (i * 7+j) v (by rwa [List.getElem?_drop] at hj))
      (fun j hj=>by rw [Nat.add_assoc];exact hsp _ (by rw [hdl] at hj;omega)) (fun j hj=>by rw [Nat.add_assoc];exact hfz _ (by rw [hdl] at hj;omega)) (fun v hv=>h1c v (List.mem_of_mem_drop hv))
  obtain ⟨W1,hW1⟩:∃ W1,W1=w.drew.setCells b (off+(i+1) * 7) (cs.drop (i * 7)):=⟨_,rfl⟩
  have hsp1:∀ k,k<(n+1) * 7→(W1.cell? ⟨b,off+k,none⟩).isSome=true:=fun k hk=>by
    rw [hW1]
    exact isSome_setCells b _ _ _ (fun j hj=>by rw [Nat.add_assoc];exact hsp _ (by rw [hdl] at hj;omega)) _ (hsp k hk)
  have hcp2:∀ (W:World),(∀ x,W.cell? x=W1.cell? x)→(∀ x,W.frozen? x=W1.frozen? x)→∀ ty dc,(Builtin.copy_ #[65,65] ty #[.slice (some ⟨b,off+i * 7,none⟩) (n+1 - i) dc,.slice (some ⟨vb,voff,none⟩) 1 vc]).run Tryz.prog W = .ok (goInt ((1:Nat):Int)) (W.setCells b (off+i * 7) vs):=fun W hWc hWf ty dc =>
    ZbH W _ _ ty 44 7 1 b (off+i * 7) (n+1 - i) dc ⟨vb,voff,none⟩ 1 vc vs Tryz.underlying65 hsz (by simp only [Nat.min_def];split<;>omega) (by rw [hvl])
      (fun j v hj=>by
        rw [Addr.add_lit,hWc,hW1,World.cell?_setCells_out b _ _ _ _ (fun h _=>absurd h hvb)]
        exact hvs j v hj)
      (fun j hj=>by rw [hWc,Nat.add_assoc];exact hsp1 _ (by omega)) (fun j hj=>by rw [hWf,hW1,World.frozen?_setCells,Nat.add_assoc];exact hfz _ (by omega)) h1v
  rw [← hW1] at hcp1
  go_enter Tryz.func83,Tryz.ntmps83
  go_wp2_with (simp only [hov])
  go_region_law_o (refine step_copy_runI rfl _ _ 65 65 rfl _ _ (by simp [Act.eval,Act.put]) (by simp [Act.eval,Act.put]) (hcp1 _ _ _) ?_)
  go_wp2_with (at_builtin;refine wpList_copy_runI _ rfl _ _ 65 65 rfl _ _ rfl rfl (hcp2 _ (fun _=>rfl) (fun _=>rfl) _ _) ?_)
  go_ret
  first | exact ⟨rfl,rfl⟩ | exact ⟨rfl,by rw [hW1]⟩
theorem Zlf (b off n c vb voff vc : Nat) (vs : List Value) (w : World) (hroom : n + 1 ≤ c) (hvl : vs.length = 7)
    (hsp:∀ j,j<7→(w.cell? ⟨b,off+n * 7+j,none⟩).isSome=true) (hfz:∀ j,j<7→w.frozen? ⟨b,off+n * 7+j,none⟩=false)
    (hvs:∀ (j:Nat) v,vs[j]? = some v→w.cell? ⟨vb,voff+j,none⟩=some v) (h1v:∀ v∈vs,v.oneCell'=true) :
    Calls Tryz.prog 83 #[.slice (some ⟨b,off,none⟩) n c,.int .i64 n,.slice (some ⟨vb,voff,none⟩) 1 vc] w fun e w' =>
      e = .returned (.slice (some ⟨b,off,none⟩) (n+1) c)∧w'=w.setCells b (off+n * 7) vs:=by
  have mixed:=ZcB
  obtain ⟨i0,z,hi0,hz0,hzs,hzc,hzb⟩:=ZfE
  have hsrc:Src Tryz.prog i0.size 65 (.slice (some ⟨vb,voff,none⟩) 1 vc) 1 vs w:=Src.ofSlice w Tryz.underlying65 ⟨vb,voff,none⟩ 1 vc vs (by omega) (fun j u hj=>by rw [Addr.add_lit];exact hvs j u hj) h1v
  go_enter Tryz.func83,Tryz.ntmps83
  go_wp2_with (at_builtin;refine wpList_append_room_src _ rfl _ _ 65 65 rfl 44 i0 Tryz.underlying65 hi0 b off n c rfl _ rfl 1 vs hsrc hroom (by rw [hvl,hzs];exact hsp) (by rw [hvl,hzs];exact hfz) ?_)
  go_ret
  first | exact ⟨rfl,rfl⟩ | exact ⟨rfl,by rw [hzs]⟩
theorem Zli (base : Option Addr) (n c vb voff vc : Nat) (cs vs : List Value) (w : World) (hnc : n ≤ c) (hroom : c < n + 1) (hL : n < LIM) (hcl : cs.length = n * 7) (hvl : vs.length = 7) (hnil : base = none → n = 0)
    (hcs:∀ a,base=some a→∀ (j:Nat) v,cs[j]? = some v→w.cell? (a.add j)=some v) (hvs:∀ (j:Nat) v,vs[j]? = some v→w.cell? ⟨vb,voff+j,none⟩=some v) (h1v:∀ v∈vs,v.oneCell'=true) :
    Calls Tryz.prog 83 #[.slice base n c,.int .i64 n,.slice (some ⟨vb,voff,none⟩) 1 vc] w fun e' w' =>
      ∃ (cap:Nat) (rest:List Value),e' = .returned (.slice (some ⟨w.heap.size,0,none⟩) (n+1) cap)∧n+1≤cap∧cap * 7=((cs++vs)++rest).length∧w'=w.drew.alloc (.cells (cs++vs++rest).toArray 44):=by
  have hL':n<1073741824:=hL
  have mixed:=ZcB
  obtain ⟨i0,z,hi0,hz0,hzs,hzc,hzb⟩:=ZfE
  have hsrc:Src Tryz.prog i0.size 65 (.slice (some ⟨vb,voff,none⟩) 1 vc) 1 vs w:=Src.ofSlice w Tryz.underlying65 ⟨vb,voff,none⟩ 1 vc vs (by omega) (fun j u hj=>by rw [Addr.add_lit];exact hvs j u hj) h1v
  have hold:(Builtin.firstCells i0.size n (.slice base n c)).run Tryz.prog w.drew = .ok cs.toArray w.drew:=by
    rw [hzs]
    cases base with
    | none =>
      have h0:=hnil rfl
      subst h0
      have hcn:cs=[]:=List.length_eq_zero_iff.1 (by omega)
      rw [hcn]
      exact run_firstCells_none w.drew 7 0 0 c
    | some a=>exact run_firstCells_some w.drew 7 n a n c cs (by omega) (fun j v hj=>hcs a rfl j v hj)
  have hb:(n+1) * i0.bytes≤140737488355328:=Nat.le_trans (Nat.mul_le_mul_left _ hzb) (by omega)
  have hrun:∀ ty,(Builtin.append_ #[65,65] ty #[.slice base n c,.slice (some ⟨vb,voff,none⟩) 1 vc]).run Tryz.prog w=_:=fun ty =>
    run_append_grow_src w 65 65 ty 44 i0 _ Tryz.underlying65 hi0 hz0 base n c cs hold _ 1 vs hsrc hroom (by omega) (growslice_fits hroom hb)
  obtain ⟨ZC,hZC⟩:∃ ZC,ZC=z.cells:=⟨_,rfl⟩
  simp only [← hZC] at hrun
  rw [← hZC] at hzc
  clear hZC hz0 hold hb
  have key:Calls Tryz.prog 83 #[.slice base n c,.int .i64 n,.slice (some ⟨vb,voff,none⟩) 1 vc] w fun e' w' =>
      e' = .returned (.slice (some ⟨w.heap.size,0,none⟩) (n+1) (grownCap w (n+1) c 44))∧w'=w.drew.alloc (.cells ((cs++vs).toArray++Builtin.zeroCells ZC (grownCap w (n+1) c 44 - (n+1))) 44):=by
    go_enter Tryz.func83,Tryz.ntmps83
    cases base with
    | none =>
      have h0:=hnil rfl
      subst h0
      go_wp2_with (at_builtin;refine Lib.wpList_append_run _ rfl _ _ _ _ rfl _ _ rfl rfl _ _ (hrun _) ?_)
      all_goals (go_ret;exact ⟨rfl,rfl⟩)
    | some a =>
      obtain ⟨ab,ao,asp⟩:=a
      go_wp2_with (at_builtin;refine Lib.wpList_append_run _ rfl _ _ _ _ rfl _ _ rfl rfl _ _ (hrun _) ?_)
      all_goals (go_ret;exact ⟨rfl,rfl⟩)
  refine key.mono ?_
  rintro e' w' ⟨rfl,rfl⟩
  have hG:=grownCap_ge w (n+1) c 44
  generalize grownCap w (n+1) c 44=K at hG ⊢
  refine ⟨K,(Builtin.zeroCells ZC (K - (n+1))).toList,rfl,hG,?_,?_⟩
  · have hzl:(Builtin.zeroCells ZC (K - (n+1))).size=(K - (n+1)) * 7:=by simp [Builtin.zeroCells,hzc]
    rw [List.length_append,List.length_append,hcl,hvl,Array.length_toList,hzl,Nat.sub_mul]
    omega
  · congr 2
    apply Array.toList_inj.1
    simp
theorem Zlc (b off n c i vb voff vc : Nat) (cs vs : List Value) (w : World) (hi : i < n) (hnc : n ≤ c) (hroom : c < n + 1) (hL : n < LIM) (hcl : cs.length = n * 7) (hvl : vs.length = 7)
    (hcs:∀ (j:Nat) v,cs[j]? = some v→w.cell? ⟨b,off+j,none⟩=some v) (hvs:∀ (j:Nat) v,vs[j]? = some v→w.cell? ⟨vb,voff+j,none⟩=some v) (h1c:∀ v∈cs,v.oneCell'=true) (h1v:∀ v∈vs,v.oneCell'=true) :
    Calls Tryz.prog 83 #[.slice (some ⟨b,off,none⟩) n c,.int .i64 i,.slice (some ⟨vb,voff,none⟩) 1 vc] w fun e' w' =>
      ∃ (cap:Nat) (rest:List Value),e' = .returned (.slice (some ⟨w.heap.size,0,none⟩) (n+1) cap)∧n+1≤cap∧cap * 7=((cs.take (i * 7))++rest).length∧(n+1) * 7≤((cs.take (i * 7))++rest).length ∧
        w'=(((w.alloc (.cells (cs.take (i * 7)++rest).toArray 44)).drew.setCells w.heap.size (i * 7) vs).drew).setCells w.heap.size ((i+1) * 7) (cs.drop (i * 7)):=by
  have hL':n<1073741824:=hL
  have mixed:=ZcB
  obtain ⟨i0,z,hi0,hz0,hzs,hzc,hzb⟩:=ZfE
  have hz2:¬ ((i:Int)=(n:Int)):=by omega
  have hz3:(c:Int)<(n:Int)+1:=by omega
  have hsz:(Tryz.prog.info? 44).map (·.size)=some 7:=by rw [hi0];simp [hzs]
  have hbw:b<w.heap.size:=block_lt_of_cell (hcs 0 _ (List.getElem?_eq_getElem (by omega)))
  have hvw:vb<w.heap.size:=block_lt_of_cell (hvs 0 _ (List.getElem?_eq_getElem (by omega)))
  have hkk:(n:Int)+1 - (i:Int)=((n+1 - i:Nat):Int):=by omega
  have hik:i+(n+1 - i)=n+1:=by omega
  have htl:(cs.take (i * 7)).length=i * 7:=by rw [List.length_take,hcl];omega
  have hb:(n+1) * i0.bytes≤140737488355328:=Nat.le_trans (Nat.mul_le_mul_left _ hzb) (by omega)
  have hb2:(n+1 - i) * i0.bytes≤281474976710656:=Nat.le_trans (Nat.mul_le_mul_left _ hzb) (by omega)
  have hold:(Builtin.firstCells i0.size i (.slice (some ⟨b,off,none⟩) i c)).run Tryz.prog w.drew = .ok (cs.take (i * 7)).toArray w.drew:=by
    rw [hzs]
    exact run_firstCells_some w.drew 7 i ⟨b,off,none⟩ i c (cs.take (i * 7)) htl (fun j v hj=>by
      rw [Addr.add_lit]
      rw [List.getElem?_take] at hj
      split at hj
      · exact hcs j v hj
      · cases hj)
  have hrz : ∀ ty, (Builtin.append_ #[65, 3] ty #[.slice (some ⟨b, off, none⟩) i c, .int .i64 ((n : Int) + 1 - (i : Int))]).run Tryz.prog w =
      .ok (.slice (some ⟨w.heap.size,0,none⟩) (n+1) (grownCap w (n+1) c 44)) (w.drew.alloc (.cells ((cs.take (i * 7)).toArray++Builtin.zeroCells z.cells (n+1 - i)++Builtin.zeroCells z.cells (grownCap w (n+1) c 44 - (n+1))) 44)):=fun ty=>by
    have h:=Lib.run_append_grow_zeros w 65 3 ty 44 i0 _ .i64 .i64 Tryz.underlying65 Tryz.underlying3 hi0 hz0 (some ⟨b,off,none⟩) i c (cs.take (i * 7)) hold (n+1 - i) (by omega) (by omega) (by omega) (by omega) hb2 (by rw [hik];exact growslice_fits hroom hb)
    rw [hik] at h
    rw [hkk]
    exact h
  have hG0:=grownCap_ge w (n+1) c 44
  have hG1:=grownCap_le_maxLen w (n+1) c 44 (by unfold maxLen;omega)
  obtain ⟨G,hG⟩:∃ G,G=grownCap w (n+1) c 44:=⟨_,rfl⟩
  rw [← hG] at hrz hG0 hG1
  unfold maxLen at hG1
  obtain ⟨REST,hREST⟩:∃ REST:List Value,REST=(Builtin.zeroCells z.cells (n+1 - i)++Builtin.zeroCells z.cells (G - (n+1))).toList:=⟨_,rfl⟩
  have hRs:REST.length=(G - i) * 7:=by
    rw [hREST]
    have h1:(Builtin.zeroCells z.cells (n+1 - i)).size=(n+1 - i) * 7:=by simp [Builtin.zeroCells,hzc]
    have h2:(Builtin.zeroCells z.cells (G - (n+1))).size=(G - (n+1)) * 7:=by simp [Builtin.zeroCells,hzc]
    rw [Array.length_toList,Array.size_append,h1,h2]
    omega
  obtain ⟨ROW,hROW⟩:∃ ROW:Array Value,ROW=(cs.take (i * 7)++REST).toArray:=⟨_,rfl⟩
  have hRe:(cs.take (i * 7)).toArray++Builtin.zeroCells z.cells (n+1 - i)++Builtin.zeroCells z.cells (G - (n+1))=ROW:=by
    rw [hROW,hREST]
    apply Array.toList_inj.1
    simp
  rw [hRe] at hrz
  have hRl:ROW.size=G * 7:=by
    rw [hROW]
    simp only [List.size_toArray,List.length_append,htl,hRs]
    omega
  obtain ⟨W1,hW1⟩:∃ W1,W1=w.drew.alloc (.cells ROW 44):=⟨_,rfl⟩
  rw [← hW1] at hrz
  have hN:∀ j,j<(n+1) * 7→(W1.cell? ⟨w.heap.size,j,none⟩).isSome=true:=fun j hj=>by
    rw [hW1,World.cell?_alloc_at (w:=w.drew) ROW _ w.heap.size j rfl,Array.getElem?_eq_getElem (by omega)];rfl
  have hNf:∀ j,W1.frozen? ⟨w.heap.size,j,none⟩=false:=fun j=>by rw [hW1];exact World.frozen?_alloc_at (w:=w.drew) ROW _ w.heap.size j rfl
  have hOb:∀ j v,w.cell? ⟨b,j,none⟩=some v→W1.cell? ⟨b,j,none⟩=some v:=fun j v h=>by rw [hW1,World.cell?_alloc_past (w:=w.drew) _ b j hbw];exact h
  have hOv:∀ j v,w.cell? ⟨vb,j,none⟩=some v→W1.cell? ⟨vb,j,none⟩=some v:=fun j v h=>by rw [hW1,World.cell?_alloc_past (w:=w.drew) _ vb j hvw];exact h
  have hcpA:∀ (W:World),(∀ x,W.cell? x=W1.cell? x)→(∀ x,W.frozen? x=W1.frozen? x)→∀ ty dc,(Builtin.copy_ #[65,65] ty #[.slice (some ⟨w.heap.size,i * 7,none⟩) (n+1 - i) dc,.slice (some ⟨vb,voff,none⟩) 1 vc]).run Tryz.prog W = .ok (goInt ((1:Nat):Int)) (W.setCells w.heap.size (i * 7) vs):=fun W hWc hWf ty dc =>
    ZbH W _ _ ty 44 7 1 w.heap.size (i * 7) (n+1 - i) dc ⟨vb,voff,none⟩ 1 vc vs Tryz.underlying65 hsz (by simp only [Nat.min_def];split<;>omega) (by rw [hvl])
      (fun j v hj=>by rw [Addr.add_lit,hWc];exact hOv _ v (hvs j v hj))
      (fun j hj=>by rw [hWc];exact hN _ (by omega)) (fun j hj=>by rw [hWf];exact hNf _) h1v
  have hGi:¬ (G=i):=by omega
  have hGim:¬ (G=i+1):=by omega
  have hci:¬ (c=i):=by omega
  have hbN:b≠w.heap.size:=by omega
  have hdl:(cs.drop (i * 7)).length=(n - i) * 7:=by rw [List.length_drop,hcl,Nat.sub_mul]
  have hcpB:∀ (W:World),(∀ x,W.cell? x=(W1.setCells w.heap.size (i * 7) vs).cell? x)→(∀ x,W.frozen? x=(W1.setCells w.heap.size (i * 7) vs).frozen? x)→∀ ty dc sc,(Builtin.copy_ #[65,65] ty #[.slice (some ⟨w.heap.size,(i+1) * 7,none⟩) (n - i) dc,.slice (some ⟨b,off+i * 7,none⟩) (n - i) sc]).run Tryz.prog W = .ok (goInt ((n - i:Nat):Int)) (W.setCells w.heap.size ((i+1) * 7) (cs.drop (i * 7))):=fun W hWc hWf ty dc sc =>
    ZbH W _ _ ty 44 7 (n - i) w.heap.size ((i+1) * 7) (n - i) dc ⟨b,off+i * 7,none⟩ (n - i) sc (cs.drop (i * 7)) Tryz.underlying65 hsz (by simp only [Nat.min_def];split<;>omega) hdl
      (fun j v hj=>by
        rw [Addr.add_lit,hWc,World.cell?_setCells_out _ _ _ _ _ (fun h _=>absurd h hbN),Nat.add_assoc]
        exact hOb _ v (hcs (i * 7+j) v (by rwa [List.getElem?_drop] at hj)))
      (fun j hj=>by rw [hWc];exact isSome_setCells _ _ _ _ (fun t ht=>hN _ (by omega)) _ (hN _ (by rw [hdl] at hj;omega)))
      (fun j hj=>by rw [hWf,World.frozen?_setCells];exact hNf _) (fun v hv=>h1c v (List.mem_of_mem_drop hv))
  subst hW1
  have hE1:∀ x,((w.alloc (.cells ROW 44)).drew).cell? x=(w.drew.alloc (.cells ROW 44)).cell? x:=fun x=>rfl
  have hE2:∀ x,((w.alloc (.cells ROW 44)).drew).frozen? x=(w.drew.alloc (.cells ROW 44)).frozen? x:=fun x=>rfl
  have hF1:∀ x,(((w.alloc (.cells ROW 44)).drew.setCells w.heap.size (i * 7) vs).drew).cell? x=((w.drew.alloc (.cells ROW 44)).setCells w.heap.size (i * 7) vs).cell? x:=fun x=>rfl
  have hF2:∀ x,(((w.alloc (.cells ROW 44)).drew.setCells w.heap.size (i * 7) vs).drew).frozen? x=((w.drew.alloc (.cells ROW 44)).setCells w.heap.size (i * 7) vs).frozen? x:=fun x=>rfl
  have hw1:IntKind.i64.wrap ((i:Int)+1)=(i:Int)+1:=by rw [IntKind.wrap_i64];omega
  have hb1:(0:Int)≤(i:Int)+1:=by omega
  have hin:i≤n:=by omega
  have htn:((i:Int)+1).toNat=i+1:=by omega
  have hb3:(i:Int)≤(n:Int):=by omega
  have hgg:G * 7=(cs.take (i * 7)++REST).length:=by rw [List.length_append,htl,hRs];omega
  have hgg2:(n+1) * 7≤(cs.take (i * 7)++REST).length:=by rw [← hgg];omega
  have hROW2:=hROW.symm
  clear hkk hik hold hG hRl hRe hROW hREST hz0 hzc hRs hb hb2
  go_enter Tryz.func83,Tryz.ntmps83
  go_wp2_with (first
    | (at_builtin;refine Lib.wpList_append_run _ rfl _ _ _ _ rfl _ _ rfl rfl _ _ (hrz _) ?_)
    | (at_builtin;refine wpList_copy_runI _ rfl _ _ 65 65 rfl _ _ rfl rfl (hcpA _ hE1 hE2 _ _) ?_)
    | (at_builtin;refine wpList_copy_runI _ rfl _ _ 65 65 rfl _ _ rfl rfl (hcpB _ (fun _=>rfl) (fun _=>rfl) _ _ _) ?_))
  go_region_law_o (refine step_copy_runI rfl _ _ 65 65 rfl (.slice (some ⟨w.heap.size,(i+1) * 7,none⟩) (n - i) (G - (i+1))) (.slice (some ⟨b,off+i * 7,none⟩) (n - i) (c - i)) (by simp [Act.eval,Act.put]) (by simp [Act.eval,Act.put]) (hcpB _ hF1 hF2 3 (G - (i+1)) (c - i)) ?_)
  go_wp2
  go_ret
  refine ⟨G,REST,rfl,hG0,hgg,hgg2,?_⟩
  rw [hROW2]
  try rfl
theorem ZnO:InsOk Tryz.prog 83 44 7:=⟨by kernel_rfl,Zkf,Zlf,Zlc,Zli⟩
theorem ZfD:∃ i0 z,Tryz.prog.info? 81=some i0∧i0.zero=some z∧i0.size=5∧z.cells.size=5∧i0.bytes≤1024:=by
  refine ⟨_,_,rfl,rfl,rfl,rfl,?_⟩
  decide
theorem Zke (b off n c i vb voff vc : Nat) (cs vs : List Value) (w : World) (hi : i < n) (hroom : n + 1 ≤ c) (hL : n < LIM) (hvb : vb ≠ b) (hcl : cs.length = n * 5) (hvl : vs.length = 5)
    (hcs:∀ (j:Nat) v,cs[j]? = some v→w.cell? ⟨b,off+j,none⟩=some v) (hsp:∀ j,j<(n+1) * 5→(w.cell? ⟨b,off+j,none⟩).isSome=true) (hfz:∀ j,j<(n+1) * 5→w.frozen? ⟨b,off+j,none⟩=false)
    (hvs:∀ (j:Nat) v,vs[j]? = some v→w.cell? ⟨vb,voff+j,none⟩=some v) (h1c:∀ v∈cs,v.oneCell'=true) (h1v:∀ v∈vs,v.oneCell'=true) (hfv:∀ j,w.frozen? ⟨vb,j,none⟩=false) :
    Calls Tryz.prog 97 #[.slice (some ⟨b,off,none⟩) n c,.int .i64 i,.slice (some ⟨vb,voff,none⟩) 1 vc] w fun e w' =>
      e = .returned (.slice (some ⟨b,off,none⟩) (n+1) c)∧w'=(w.drew.setCells b (off+(i+1) * 5) (cs.drop (i * 5))).setCells b (off+i * 5) vs:=by
  have hL':n<1073741824:=hL
  have mixed:=ZcB
  obtain ⟨i0,z,hi0,hz0,hzs,hzc,hzb⟩:=ZfD
  have hsz:(Tryz.prog.info? 81).map (·.size)=some 5:=by rw [hi0];simp [hzs]
  have hz9:∀ w,(Go.sizeOf 81).run Tryz.prog w = .ok 5 w:=fun w=>by simp [Go.sizeOf,typeInfo,hi0,hzs]
  obtain ⟨v0,hv0⟩:∃ v0,vs[0]? = some v0:=⟨_,List.getElem?_eq_getElem (by omega)⟩
  obtain ⟨c0,hc0⟩:∃ c0,cs[0]? = some c0:=⟨_,List.getElem?_eq_getElem (by omega)⟩
  obtain ⟨tA,kA,hsa,_⟩:=Zga (hvs 0 v0 hv0)
  obtain ⟨tB,kB,hsb,hkB⟩:=Zga (hcs 0 c0 hc0)
  have hz2:¬ ((i:Int)=(n:Int)):=by omega
  have hov:∀ lb cb,(callFunc 123 #[.slice (some ⟨vb,voff,none⟩) 1 vc,.slice (some ⟨b,off+(i+1) * 5,none⟩) lb cb]).run Tryz.prog w = .ok (.value (.bool false)) w:=fun lb cb=>by
    rw [run_callFunc_extern Tryz.func123 (by kernel_rfl) (by kernel_rfl) (by kernel_rfl) (e:=Extern.SlicesOverlaps.overlaps #[23,23] #[4]) (by kernel_rfl),
      Lib.run_overlaps_apart w 23 4 81 Tryz.underlying23 5 hz9 ⟨vb,voff,none⟩ ⟨b,off+(i+1) * 5,none⟩ 1 vc lb cb hvb tA tB kA kB hsa hsb hkB (hfv _) (hfv _)]
    rfl
  have hdl:(cs.drop (i * 5)).length=(n - i) * 5:=by rw [List.length_drop,hcl,Nat.sub_mul]
  have hw1:IntKind.i64.wrap ((i:Int)+1)=(i:Int)+1:=by rw [IntKind.wrap_i64];omega
  have hwn:IntKind.i64.wrap ((n:Int)+1)=(n:Int)+1:=by rw [IntKind.wrap_i64];omega
  have hb1:(0:Int)≤(i:Int)+1:=by omega
  have hin:i≤n:=by omega
  have htn:((i:Int)+1).toNat=i+1:=by omega
  have htn2:((n:Int)+1).toNat=n+1:=by omega
  have hb2:¬ (c=i+1):=by omega
  have hb3:(i:Int)≤(n:Int)+1:=by omega
  have hb4:¬ (c=i):=by omega
  have hb5:¬ ((c:Int)<(n:Int)+1):=by omega
  have hcp1:∀ ty dc sc,(Builtin.copy_ #[23,23] ty #[.slice (some ⟨b,off+(i+1) * 5,none⟩) (n - i) dc,.slice (some ⟨b,off+i * 5,none⟩) (n+1 - i) sc]).run Tryz.prog w.drew = .ok (goInt ((n - i:Nat):Int)) (w.drew.setCells b (off+(i+1) * 5) (cs.drop (i * 5))):=fun ty dc sc =>
    ZbH w.drew _ _ ty 81 5 (n - i) b (off+(i+1) * 5) (n - i) dc ⟨b,off+i * 5,none⟩ (n+1 - i) sc (cs.drop (i * 5)) Tryz.underlying23 hsz (by simp only [Nat.min_def];split<;>omega) hdl
      (fun j v hj=>by rw [Addr.add_lit,Nat.add_assoc];exact hcs (i * 5+j) v (by rwa [List.getElem?_drop] at hj))
      (fun j hj=>by rw [Nat.add_assoc];exact hsp _ (by rw [hdl] at hj;omega)) (fun j hj=>by rw [Nat.add_assoc];exact hfz _ (by rw [hdl] at hj;omega)) (fun v hv=>h1c v (List.mem_of_mem_drop hv))
  obtain ⟨W1,hW1⟩:∃ W1,W1=w.drew.setCells b (off+(i+1) * 5) (cs.drop (i * 5)):=⟨_,rfl⟩
  have hsp1:∀ k,k<(n+1) * 5→(W1.cell? ⟨b,off+k,none⟩).isSome=true:=fun k hk=>by
    rw [hW1]
    exact isSome_setCells b _ _ _ (fun j hj=>by rw [Nat.add_assoc];exact hsp _ (by rw [hdl] at hj;omega)) _ (hsp k hk)
  have hcp2:∀ (W:World),(∀ x,W.cell? x=W1.cell? x)→(∀ x,W.frozen? x=W1.frozen? x)→∀ ty dc,(Builtin.copy_ #[23,23] ty #[.slice (some ⟨b,off+i * 5,none⟩) (n+1 - i) dc,.slice (some ⟨vb,voff,none⟩) 1 vc]).run Tryz.prog W = .ok (goInt ((1:Nat):Int)) (W.setCells b (off+i * 5) vs):=fun W hWc hWf ty dc =>
    ZbH W _ _ ty 81 5 1 b (off+i * 5) (n+1 - i) dc ⟨vb,voff,none⟩ 1 vc vs Tryz.underlying23 hsz (by simp only [Nat.min_def];split<;>omega) (by rw [hvl])
      (fun j v hj=>by
        rw [Addr.add_lit,hWc,hW1,World.cell?_setCells_out b _ _ _ _ (fun h _=>absurd h hvb)]
        exact hvs j v hj)
      (fun j hj=>by rw [hWc,Nat.add_assoc];exact hsp1 _ (by omega)) (fun j hj=>by rw [hWf,hW1,World.frozen?_setCells,Nat.add_assoc];exact hfz _ (by omega)) h1v
  rw [← hW1] at hcp1
  go_enter Tryz.func97,Tryz.ntmps97
  go_wp2_with (simp only [hov])
  go_region_law_o (refine step_copy_runI rfl _ _ 23 23 rfl _ _ (by simp [Act.eval,Act.put]) (by simp [Act.eval,Act.put]) (hcp1 _ _ _) ?_)
  go_wp2_with (at_builtin;refine wpList_copy_runI _ rfl _ _ 23 23 rfl _ _ rfl rfl (hcp2 _ (fun _=>rfl) (fun _=>rfl) _ _) ?_)
  go_ret
  first | exact ⟨rfl,rfl⟩ | exact ⟨rfl,by rw [hW1]⟩
theorem Zle (b off n c vb voff vc : Nat) (vs : List Value) (w : World) (hroom : n + 1 ≤ c) (hvl : vs.length = 5)
    (hsp:∀ j,j<5→(w.cell? ⟨b,off+n * 5+j,none⟩).isSome=true) (hfz:∀ j,j<5→w.frozen? ⟨b,off+n * 5+j,none⟩=false)
    (hvs:∀ (j:Nat) v,vs[j]? = some v→w.cell? ⟨vb,voff+j,none⟩=some v) (h1v:∀ v∈vs,v.oneCell'=true) :
    Calls Tryz.prog 97 #[.slice (some ⟨b,off,none⟩) n c,.int .i64 n,.slice (some ⟨vb,voff,none⟩) 1 vc] w fun e w' =>
      e = .returned (.slice (some ⟨b,off,none⟩) (n+1) c)∧w'=w.setCells b (off+n * 5) vs:=by
  have mixed:=ZcB
  obtain ⟨i0,z,hi0,hz0,hzs,hzc,hzb⟩:=ZfD
  have hsrc:Src Tryz.prog i0.size 23 (.slice (some ⟨vb,voff,none⟩) 1 vc) 1 vs w:=Src.ofSlice w Tryz.underlying23 ⟨vb,voff,none⟩ 1 vc vs (by omega) (fun j u hj=>by rw [Addr.add_lit];exact hvs j u hj) h1v
  go_enter Tryz.func97,Tryz.ntmps97
  go_wp2_with (at_builtin;refine wpList_append_room_src _ rfl _ _ 23 23 rfl 81 i0 Tryz.underlying23 hi0 b off n c rfl _ rfl 1 vs hsrc hroom (by rw [hvl,hzs];exact hsp) (by rw [hvl,hzs];exact hfz) ?_)
  go_ret
  first | exact ⟨rfl,rfl⟩ | exact ⟨rfl,by rw [hzs]⟩
theorem Zlh (base : Option Addr) (n c vb voff vc : Nat) (cs vs : List Value) (w : World) (hnc : n ≤ c) (hroom : c < n + 1) (hL : n < LIM) (hcl : cs.length = n * 5) (hvl : vs.length = 5) (hnil : base = none → n = 0)
    (hcs:∀ a,base=some a→∀ (j:Nat) v,cs[j]? = some v→w.cell? (a.add j)=some v) (hvs:∀ (j:Nat) v,vs[j]? = some v→w.cell? ⟨vb,voff+j,none⟩=some v) (h1v:∀ v∈vs,v.oneCell'=true) :
    Calls Tryz.prog 97 #[.slice base n c,.int .i64 n,.slice (some ⟨vb,voff,none⟩) 1 vc] w fun e' w' =>
      ∃ (cap:Nat) (rest:List Value),e' = .returned (.slice (some ⟨w.heap.size,0,none⟩) (n+1) cap)∧n+1≤cap∧cap * 5=((cs++vs)++rest).length∧w'=w.drew.alloc (.cells (cs++vs++rest).toArray 81):=by
  have hL':n<1073741824:=hL
  have mixed:=ZcB
  obtain ⟨i0,z,hi0,hz0,hzs,hzc,hzb⟩:=ZfD
  have hsrc:Src Tryz.prog i0.size 23 (.slice (some ⟨vb,voff,none⟩) 1 vc) 1 vs w:=Src.ofSlice w Tryz.underlying23 ⟨vb,voff,none⟩ 1 vc vs (by omega) (fun j u hj=>by rw [Addr.add_lit];exact hvs j u hj) h1v
  have hold:(Builtin.firstCells i0.size n (.slice base n c)).run Tryz.prog w.drew = .ok cs.toArray w.drew:=by
    rw [hzs]
    cases base with
    | none =>
      have h0:=hnil rfl
      subst h0
      have hcn:cs=[]:=List.length_eq_zero_iff.1 (by omega)
      rw [hcn]
      exact run_firstCells_none w.drew 5 0 0 c
    | some a=>exact run_firstCells_some w.drew 5 n a n c cs (by omega) (fun j v hj=>hcs a rfl j v hj)
  have hb:(n+1) * i0.bytes≤140737488355328:=Nat.le_trans (Nat.mul_le_mul_left _ hzb) (by omega)
  have hrun:∀ ty,(Builtin.append_ #[23,23] ty #[.slice base n c,.slice (some ⟨vb,voff,none⟩) 1 vc]).run Tryz.prog w=_:=fun ty =>
    run_append_grow_src w 23 23 ty 81 i0 _ Tryz.underlying23 hi0 hz0 base n c cs hold _ 1 vs hsrc hroom (by omega) (growslice_fits hroom hb)
  obtain ⟨ZC,hZC⟩:∃ ZC,ZC=z.cells:=⟨_,rfl⟩
  simp only [← hZC] at hrun
  rw [← hZC] at hzc
  clear hZC hz0 hold hb
  have key:Calls Tryz.prog 97 #[.slice base n c,.int .i64 n,.slice (some ⟨vb,voff,none⟩) 1 vc] w fun e' w' =>
      e' = .returned (.slice (some ⟨w.heap.size,0,none⟩) (n+1) (grownCap w (n+1) c 81))∧w'=w.drew.alloc (.cells ((cs++vs).toArray++Builtin.zeroCells ZC (grownCap w (n+1) c 81 - (n+1))) 81):=by
    go_enter Tryz.func97,Tryz.ntmps97
    cases base with
    | none =>
      have h0:=hnil rfl
      subst h0
      go_wp2_with (at_builtin;refine Lib.wpList_append_run _ rfl _ _ _ _ rfl _ _ rfl rfl _ _ (hrun _) ?_)
      all_goals (go_ret;exact ⟨rfl,rfl⟩)
    | some a =>
      obtain ⟨ab,ao,asp⟩:=a
      go_wp2_with (at_builtin;refine Lib.wpList_append_run _ rfl _ _ _ _ rfl _ _ rfl rfl _ _ (hrun _) ?_)
      all_goals (go_ret;exact ⟨rfl,rfl⟩)
  refine key.mono ?_
  rintro e' w' ⟨rfl,rfl⟩
  have hG:=grownCap_ge w (n+1) c 81
  generalize grownCap w (n+1) c 81=K at hG ⊢
  refine ⟨K,(Builtin.zeroCells ZC (K - (n+1))).toList,rfl,hG,?_,?_⟩
  · have hzl:(Builtin.zeroCells ZC (K - (n+1))).size=(K - (n+1)) * 5:=by simp [Builtin.zeroCells,hzc]
    rw [List.length_append,List.length_append,hcl,hvl,Array.length_toList,hzl,Nat.sub_mul]
    omega
  · congr 2
    apply Array.toList_inj.1
    simp
theorem Zlb (b off n c i vb voff vc : Nat) (cs vs : List Value) (w : World) (hi : i < n) (hnc : n ≤ c) (hroom : c < n + 1) (hL : n < LIM) (hcl : cs.length = n * 5) (hvl : vs.length = 5)
    (hcs:∀ (j:Nat) v,cs[j]? = some v→w.cell? ⟨b,off+j,none⟩=some v) (hvs:∀ (j:Nat) v,vs[j]? = some v→w.cell? ⟨vb,voff+j,none⟩=some v) (h1c:∀ v∈cs,v.oneCell'=true) (h1v:∀ v∈vs,v.oneCell'=true) :
    Calls Tryz.prog 97 #[.slice (some ⟨b,off,none⟩) n c,.int .i64 i,.slice (some ⟨vb,voff,none⟩) 1 vc] w fun e' w' =>
      ∃ (cap:Nat) (rest:List Value),e' = .returned (.slice (some ⟨w.heap.size,0,none⟩) (n+1) cap)∧n+1≤cap∧cap * 5=((cs.take (i * 5))++rest).length∧(n+1) * 5≤((cs.take (i * 5))++rest).length ∧
        w'=(((w.alloc (.cells (cs.take (i * 5)++rest).toArray 81)).drew.setCells w.heap.size (i * 5) vs).drew).setCells w.heap.size ((i+1) * 5) (cs.drop (i * 5)):=by
  have hL':n<1073741824:=hL
  have mixed:=ZcB
  obtain ⟨i0,z,hi0,hz0,hzs,hzc,hzb⟩:=ZfD
  have hz2:¬ ((i:Int)=(n:Int)):=by omega
  have hz3:(c:Int)<(n:Int)+1:=by omega
  have hsz:(Tryz.prog.info? 81).map (·.size)=some 5:=by rw [hi0];simp [hzs]
  have hbw:b<w.heap.size:=block_lt_of_cell (hcs 0 _ (List.getElem?_eq_getElem (by omega)))
  have hvw:vb<w.heap.size:=block_lt_of_cell (hvs 0 _ (List.getElem?_eq_getElem (by omega)))
  have hkk:(n:Int)+1 - (i:Int)=((n+1 - i:Nat):Int):=by omega
  have hik:i+(n+1 - i)=n+1:=by omega
  have htl:(cs.take (i * 5)).length=i * 5:=by rw [List.length_take,hcl];omega
  have hb:(n+1) * i0.bytes≤140737488355328:=Nat.le_trans (Nat.mul_le_mul_left _ hzb) (by omega)
  have hb2:(n+1 - i) * i0.bytes≤281474976710656:=Nat.le_trans (Nat.mul_le_mul_left _ hzb) (by omega)
  have hold:(Builtin.firstCells i0.size i (.slice (some ⟨b,off,none⟩) i c)).run Tryz.prog w.drew = .ok (cs.take (i * 5)).toArray w.drew:=by
    rw [hzs]
    exact run_firstCells_some w.drew 5 i ⟨b,off,none⟩ i c (cs.take (i * 5)) htl (fun j v hj=>by
      rw [Addr.add_lit]
      rw [List.getElem?_take] at hj
      split at hj
      · exact hcs j v hj
      · cases hj)
  have hrz : ∀ ty, (Builtin.append_ #[23, 3] ty #[.slice (some ⟨b, off, none⟩) i c, .int .i64 ((n : Int) + 1 - (i : Int))]).run Tryz.prog w =
      .ok (.slice (some ⟨w.heap.size,0,none⟩) (n+1) (grownCap w (n+1) c 81)) (w.drew.alloc (.cells ((cs.take (i * 5)).toArray++Builtin.zeroCells z.cells (n+1 - i)++Builtin.zeroCells z.cells (grownCap w (n+1) c 81 - (n+1))) 81)):=fun ty=>by
    have h:=Lib.run_append_grow_zeros w 23 3 ty 81 i0 _ .i64 .i64 Tryz.underlying23 Tryz.underlying3 hi0 hz0 (some ⟨b,off,none⟩) i c (cs.take (i * 5)) hold (n+1 - i) (by omega) (by omega) (by omega) (by omega) hb2 (by rw [hik];exact growslice_fits hroom hb)
    rw [hik] at h
    rw [hkk]
    exact h
  have hG0:=grownCap_ge w (n+1) c 81
  have hG1:=grownCap_le_maxLen w (n+1) c 81 (by unfold maxLen;omega)
  obtain ⟨G,hG⟩:∃ G,G=grownCap w (n+1) c 81:=⟨_,rfl⟩
  rw [← hG] at hrz hG0 hG1
  unfold maxLen at hG1
  obtain ⟨REST,hREST⟩:∃ REST:List Value,REST=(Builtin.zeroCells z.cells (n+1 - i)++Builtin.zeroCells z.cells (G - (n+1))).toList:=⟨_,rfl⟩
  have hRs:REST.length=(G - i) * 5:=by
    rw [hREST]
    have h1:(Builtin.zeroCells z.cells (n+1 - i)).size=(n+1 - i) * 5:=by simp [Builtin.zeroCells,hzc]
    have h2:(Builtin.zeroCells z.cells (G - (n+1))).size=(G - (n+1)) * 5:=by simp [Builtin.zeroCells,hzc]
    rw [Array.length_toList,Array.size_append,h1,h2]
    omega
  obtain ⟨ROW,hROW⟩:∃ ROW:Array Value,ROW=(cs.take (i * 5)++REST).toArray:=⟨_,rfl⟩
  have hRe:(cs.take (i * 5)).toArray++Builtin.zeroCells z.cells (n+1 - i)++Builtin.zeroCells z.cells (G - (n+1))=ROW:=by
    rw [hROW,hREST]
    apply Array.toList_inj.1
    simp
  rw [hRe] at hrz
  have hRl:ROW.size=G * 5:=by
    rw [hROW]
    simp only [List.size_toArray,List.length_append,htl,hRs]
    omega
  obtain ⟨W1,hW1⟩:∃ W1,W1=w.drew.alloc (.cells ROW 81):=⟨_,rfl⟩
  rw [← hW1] at hrz
  have hN:∀ j,j<(n+1) * 5→(W1.cell? ⟨w.heap.size,j,none⟩).isSome=true:=fun j hj=>by
    rw [hW1,World.cell?_alloc_at (w:=w.drew) ROW _ w.heap.size j rfl,Array.getElem?_eq_getElem (by omega)];rfl
  have hNf:∀ j,W1.frozen? ⟨w.heap.size,j,none⟩=false:=fun j=>by rw [hW1];exact World.frozen?_alloc_at (w:=w.drew) ROW _ w.heap.size j rfl
  have hOb:∀ j v,w.cell? ⟨b,j,none⟩=some v→W1.cell? ⟨b,j,none⟩=some v:=fun j v h=>by rw [hW1,World.cell?_alloc_past (w:=w.drew) _ b j hbw];exact h
  have hOv:∀ j v,w.cell? ⟨vb,j,none⟩=some v→W1.cell? ⟨vb,j,none⟩=some v:=fun j v h=>by rw [hW1,World.cell?_alloc_past (w:=w.drew) _ vb j hvw];exact h
  have hcpA:∀ (W:World),(∀ x,W.cell? x=W1.cell? x)→(∀ x,W.frozen? x=W1.frozen? x)→∀ ty dc,(Builtin.copy_ #[23,23] ty #[.slice (some ⟨w.heap.size,i * 5,none⟩) (n+1 - i) dc,.slice (some ⟨vb,voff,none⟩) 1 vc]).run Tryz.prog W = .ok (goInt ((1:Nat):Int)) (W.setCells w.heap.size (i * 5) vs):=fun W hWc hWf ty dc =>
    ZbH W _ _ ty 81 5 1 w.heap.size (i * 5) (n+1 - i) dc ⟨vb,voff,none⟩ 1 vc vs Tryz.underlying23 hsz (by simp only [Nat.min_def];split<;>omega) (by rw [hvl])
      (fun j v hj=>by rw [Addr.add_lit,hWc];exact hOv _ v (hvs j v hj))
      (fun j hj=>by rw [hWc];exact hN _ (by omega)) (fun j hj=>by rw [hWf];exact hNf _) h1v
  have hGi:¬ (G=i):=by omega
  have hGim:¬ (G=i+1):=by omega
  have hci:¬ (c=i):=by omega
  have hbN:b≠w.heap.size:=by omega
  have hdl:(cs.drop (i * 5)).length=(n - i) * 5:=by rw [List.length_drop,hcl,Nat.sub_mul]
  have hcpB:∀ (W:World),(∀ x,W.cell? x=(W1.setCells w.heap.size (i * 5) vs).cell? x)→(∀ x,W.frozen? x=(W1.setCells w.heap.size (i * 5) vs).frozen? x)→∀ ty dc sc,(Builtin.copy_ #[23,23] ty #[.slice (some ⟨w.heap.size,(i+1) * 5,none⟩) (n - i) dc,.slice (some ⟨b,off+i * 5,none⟩) (n - i) sc]).run Tryz.prog W = .ok (goInt ((n - i:Nat):Int)) (W.setCells w.heap.size ((i+1) * 5) (cs.drop (i * 5))):=fun W hWc hWf ty dc sc =>
    ZbH W _ _ ty 81 5 (n - i) w.heap.size ((i+1) * 5) (n - i) dc ⟨b,off+i * 5,none⟩ (n - i) sc (cs.drop (i * 5)) Tryz.underlying23 hsz (by simp only [Nat.min_def];split<;>omega) hdl
      (fun j v hj=>by
        rw [Addr.add_lit,hWc,World.cell?_setCells_out _ _ _ _ _ (fun h _=>absurd h hbN),Nat.add_assoc]
        exact hOb _ v (hcs (i * 5+j) v (by rwa [List.getElem?_drop] at hj)))
      (fun j hj=>by rw [hWc];exact isSome_setCells _ _ _ _ (fun t ht=>hN _ (by omega)) _ (hN _ (by rw [hdl] at hj;omega)))
      (fun j hj=>by rw [hWf,World.frozen?_setCells];exact hNf _) (fun v hv=>h1c v (List.mem_of_mem_drop hv))
  subst hW1
  have hE1:∀ x,((w.alloc (.cells ROW 81)).drew).cell? x=(w.drew.alloc (.cells ROW 81)).cell? x:=fun x=>rfl
  have hE2:∀ x,((w.alloc (.cells ROW 81)).drew).frozen? x=(w.drew.alloc (.cells ROW 81)).frozen? x:=fun x=>rfl
  have hF1:∀ x,(((w.alloc (.cells ROW 81)).drew.setCells w.heap.size (i * 5) vs).drew).cell? x=((w.drew.alloc (.cells ROW 81)).setCells w.heap.size (i * 5) vs).cell? x:=fun x=>rfl
  have hF2:∀ x,(((w.alloc (.cells ROW 81)).drew.setCells w.heap.size (i * 5) vs).drew).frozen? x=((w.drew.alloc (.cells ROW 81)).setCells w.heap.size (i * 5) vs).frozen? x:=fun x=>rfl
  have hw1:IntKind.i64.wrap ((i:Int)+1)=(i:Int)+1:=by rw [IntKind.wrap_i64];omega
  have hb1:(0:Int)≤(i:Int)+1:=by omega
  have hin:i≤n:=by omega
  have htn:((i:Int)+1).toNat=i+1:=by omega
  have hb3:(i:Int)≤(n:Int):=by omega
  have hgg:G * 5=(cs.take (i * 5)++REST).length:=by rw [List.length_append,htl,hRs];omega
  have hgg2:(n+1) * 5≤(cs.take (i * 5)++REST).length:=by rw [← hgg];omega
  have hROW2:=hROW.symm
  clear hkk hik hold hG hRl hRe hROW hREST hz0 hzc hRs hb hb2
  go_enter Tryz.func97,Tryz.ntmps97
  go_wp2_with (first
    | (at_builtin;refine Lib.wpList_append_run _ rfl _ _ _ _ rfl _ _ rfl rfl _ _ (hrz _) ?_)
    | (at_builtin;refine wpList_copy_runI _ rfl _ _ 23 23 rfl _ _ rfl rfl (hcpA _ hE1 hE2 _ _) ?_)
    | (at_builtin;refine wpList_copy_runI _ rfl _ _ 23 23 rfl _ _ rfl rfl (hcpB _ (fun _=>rfl) (fun _=>rfl) _ _ _) ?_))
  go_region_law_o (refine step_copy_runI rfl _ _ 23 23 rfl (.slice (some ⟨w.heap.size,(i+1) * 5,none⟩) (n - i) (G - (i+1))) (.slice (some ⟨b,off+i * 5,none⟩) (n - i) (c - i)) (by simp [Act.eval,Act.put]) (by simp [Act.eval,Act.put]) (hcpB _ hF1 hF2 3 (G - (i+1)) (c - i)) ?_)
  go_wp2
  go_ret
  refine ⟨G,REST,rfl,hG0,hgg,hgg2,?_⟩
  rw [hROW2]
  try rfl
theorem ZnN:InsOk Tryz.prog 97 81 5:=⟨by kernel_rfl,Zke,Zle,Zlb,Zlh⟩
theorem Zla:∃ i0 z,Tryz.prog.info? 79=some i0∧i0.zero=some z∧i0.size=8∧z.cells.size=8∧i0.bytes≤1024:=by
  refine ⟨_,_,rfl,rfl,rfl,rfl,?_⟩
  decide
theorem Zki (base : Option Addr) (n : Nat) (hn : n ≤ LIM) (w : World) :
    Calls Tryz.prog 103 #[.slice base 0 0,.int .i64 n] w fun e w'=>(n=0∧e = .returned (.slice base 0 0)∧w'=w)∨(0<n∧∃ (cap:Nat) (zs:List Value),e = .returned (.slice (some ⟨w.heap.size,0,none⟩) 0 cap)∧zs.length=cap * 8∧n≤cap∧w'=w.drew.alloc (.cells zs.toArray 79)):=by
  have hL':n≤1073741824:=hn
  have mixed:=ZcB
  obtain ⟨i0,z,hi0,hz0,hzs,hzc,hzb⟩:=Zla
  by_cases h0:n=0
  · subst h0
    have key:Calls Tryz.prog 103 #[.slice base 0 0,.int .i64 (0:Nat)] w fun e w'=>e = .returned (.slice base 0 0)∧w'=w:=by
      go_enter Tryz.func103,Tryz.ntmps103
      cases base with
      | none =>
        go_wp2
        all_goals (go_ret;exact ⟨rfl,rfl⟩)
      | some a =>
        obtain ⟨ab,ao,asp⟩:=a
        go_wp2
        all_goals (go_ret;exact ⟨rfl,rfl⟩)
    exact key.mono fun e w' h=>.inl ⟨rfl,h.1,h.2⟩
  · have hp:0<n:=by omega
    have hnn:¬ ((n:Int)<0):=by omega
    have hpi:(0:Int)<(n:Int):=by omega
    have hw:IntKind.i64.wrap (n:Int)=n:=by rw [IntKind.wrap_i64];omega
    have hb:n * i0.bytes≤281474976710656:=Nat.le_trans (Nat.mul_le_mul_left _ hzb) (by omega)
    have hold:(Builtin.firstCells i0.size 0 (.slice base 0 0)).run Tryz.prog w.drew = .ok ([]:List Value).toArray w.drew:=by
      cases base with
      | none=>exact run_firstCells_none w.drew i0.size 0 0 0
      | some a=>exact run_firstCells_some w.drew i0.size 0 a 0 0 [] (by simp) (fun j v hj=>by simp at hj)
    have hrun:∀ ty,(Builtin.append_ #[22,3] ty #[.slice base 0 0,.int .i64 n]).run Tryz.prog w = .ok (.slice (some ⟨w.heap.size,0,none⟩) n (grownCap w n 0 79)) (w.drew.alloc (.cells (Builtin.zeroCells z.cells n++Builtin.zeroCells z.cells (grownCap w n 0 79 - n)) 79)):=fun ty=>by
      have h:=Lib.run_append_grow_zeros w 22 3 ty 79 i0 _ .i64 .i64 Tryz.underlying22 Tryz.underlying3 hi0 hz0 base 0 0 [] hold n hp (by omega) (by omega) (by omega) hb (by rw [Nat.zero_add,nextslicecap_zero hp];exact hb)
      rw [Nat.zero_add] at h
      rw [h]
      simp
    have hG0:=grownCap_ge w n 0 79
    obtain ⟨ZC,hZC⟩:∃ ZC,ZC=z.cells:=⟨_,rfl⟩
    simp only [← hZC] at hrun
    rw [← hZC] at hzc
    clear hZC hz0 hold
    have key:Calls Tryz.prog 103 #[.slice base 0 0,.int .i64 n] w fun e w'=>e = .returned (.slice (some ⟨w.heap.size,0,none⟩) 0 (grownCap w n 0 79))∧w'=w.drew.alloc (.cells (Builtin.zeroCells ZC n++Builtin.zeroCells ZC (grownCap w n 0 79 - n)) 79):=by
      go_enter Tryz.func103,Tryz.ntmps103
      cases base with
      | none =>
        go_wp2_with (at_builtin;refine Lib.wpList_append_run _ rfl _ _ _ _ rfl _ _ rfl rfl _ _ (hrun _) ?_)
        all_goals (go_ret;exact ⟨rfl,rfl⟩)
      | some a =>
        obtain ⟨ab,ao,asp⟩:=a
        go_wp2_with (at_builtin;refine Lib.wpList_append_run _ rfl _ _ _ _ rfl _ _ rfl rfl _ _ (hrun _) ?_)
        all_goals (go_ret;exact ⟨rfl,rfl⟩)
    refine key.mono ?_
    rintro e w' ⟨rfl,rfl⟩
    refine .inr ⟨hp,grownCap w n 0 79,(Builtin.zeroCells ZC n++Builtin.zeroCells ZC (grownCap w n 0 79 - n)).toList,rfl,?_,hG0,?_⟩
    · generalize grownCap w n 0 79=K at hG0 ⊢
      have h1:(Builtin.zeroCells ZC n).size=n * 8:=by simp [Builtin.zeroCells,hzc]
      have h2:(Builtin.zeroCells ZC (K - n)).size=(K - n) * 8:=by simp [Builtin.zeroCells,hzc]
      rw [Array.length_toList,Array.size_append,h1,h2]
      omega
    · rw [Array.toArray_toList]
theorem Zlk:ZpI Tryz.prog 103 79 8:=⟨by kernel_rfl,fun base n hn w=>Zki base n hn w⟩
end Go.T
