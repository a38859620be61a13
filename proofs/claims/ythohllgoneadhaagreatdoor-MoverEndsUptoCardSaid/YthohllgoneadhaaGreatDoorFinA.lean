/-
  The law MoverEnds (layer 20) answers true for every number of groups, every list of jobs, every book of sessions and every script that it is called with, and leaves them as they read; condition: what it reads is together of bulk at most 1048576 (the form '..UptoSaid'); its row lists package variables, and the card ties them to the program's text.
-/
import Derived.Test.YthohllgoneadhaaGreatDoorLawD
import Derived.Test.YthohllgoneadhaaGreatDoorCertE
import Derived.Test.YthohllgoneadhaaGreatDoorRead
import Derived.Test.YthohllgoneadhaaGreatDoorAbK
import Derived.Test.YthohllgoneadhaaGreatDoorCards
import Derived.Test.YthohllgoneadhaaGreatDoorTie
import Derived.WalkKit
import Derived.ProofKit
import Derived.OpenShut
import Derived.JoinedCond
import Derived.LaidMore
import Derived.Lay
import Derived.SevenTiedAt
import Derived.Deep.DeepHandedRow
namespace Go.Proofs.YthohllgoneadhaaGreatDoor.moverEnds
open Go.ChangeShapes Go.WideShapes Go.ChangeAt Go.RowKit Go.Ab Go.T
set_option linter.unusedVariables false
set_option maxRecDepth 100000
def spanZ:List (Int×Int):=[(0,59),(0,23),(1,31),(1,12),(0,7)]
theorem cells_tab {W : World} (h : laidMetH Tryz.prog Rows.moverEndsUptoRow.laid W) : Lib.TabIs Tryz.prog W "math/bits.deBruijn64tab" .u8 (Lib.deBruijn64tab.map Int.ofNat) :=
  Lib.tabIs_of_head (rest:=[]) (g:=1) (t:=250) (e:=5) (n:=64) (by kernel_rfl) (by kernel_rfl) (by kernel_rfl) (by kernel_rfl) (by kernel_rfl) (by kernel_rfl)
    (ZfX h (d:=Lib.tabData .u8 (Lib.deBruijn64tab.map Int.ofNat)) (by kernel_rfl) rfl)
theorem cells_pow {W : World} (h : laidMetH Tryz.prog Rows.moverEndsUptoRow.laid W) : Lib.TabIs Tryz.prog W "internal/strconv.uint64pow10" .u64 Lib.pow10Tab :=
  Lib.tabIs_of_head (rest:=[]) (g:=3) (t:=293) (e:=152) (n:=20) (by kernel_rfl) (by kernel_rfl) (by kernel_rfl) (by kernel_rfl) (by kernel_rfl) (by kernel_rfl)
    (ZfX h (d:=Lib.tabData .u64 Lib.pow10Tab) (by kernel_rfl) rfl)
theorem gok {W:World} (h:laidMetH Tryz.prog Rows.moverEndsUptoRow.laid W) (hsh:W.ShapedOpen Tryz.prog):∃ ml,GOk (GM ml) (fun b=>b<W.heap.size) W:=by
  obtain ⟨m,hm⟩:=Tryz.laysM145.s1_3 W hsh
  obtain ⟨e0, hv0, hi0, ho0⟩ := Zl3 (g := 6) (tp := 338) (te := 340) (ts := 9) (ZfX h (name := "strconv.ErrSyntax") (d := .iface "*errors.errorString" (.ptr (.agg [.lit (.string [105, 110, 118, 97, 108, 105, 100, 32, 115, 121, 110, 116, 97, 120])]))) (by kernel_rfl) rfl) (by kernel_rfl) (by kernel_rfl) Tryz.underlying229 (by kernel_rfl) (by kernel_rfl) Tryz.underlying338 Tryz.underlying340 rfl rfl Tryz.underlying9 (by kernel_rfl) (by kernel_rfl)
  obtain ⟨e1, hv1, hi1, ho1⟩ := Zl3 (g := 7) (tp := 338) (te := 340) (ts := 9) (ZfX h (name := "strconv.ErrRange") (d := .iface "*errors.errorString" (.ptr (.agg [.lit (.string [118, 97, 108, 117, 101, 32, 111, 117, 116, 32, 111, 102, 32, 114, 97, 110, 103, 101])]))) (by kernel_rfl) rfl) (by kernel_rfl) (by kernel_rfl) Tryz.underlying229 (by kernel_rfl) (by kernel_rfl) Tryz.underlying338 Tryz.underlying340 rfl rfl Tryz.underlying9 (by kernel_rfl) (by kernel_rfl)
  refine ⟨⟨m,e0,e1,hi0,hi1⟩,fun g row hg=>?_⟩
  unfold GM at hg
  split at hg
  · injection hg with hg
    subst hg
    have key := Zk0 (name := "matins/cron.spans") (k := .i64) (zs := spanZ) (g := 0) (by kernel_rfl) (by kernel_rfl) Tryz.underlying222 Tryz.underlying221 rfl rfl rfl rfl Tryz.underlying3 (by kernel_rfl) (by kernel_rfl)
      (ZfX h (d:=.agg (spanZ.map fun z=>.agg [.lit (.int .i64 z.1),.lit (.int .i64 z.2)])) (by kernel_rfl) rfl)
    refine Zii [(.i64,0),(.i64,59),(.i64,0),(.i64,23),(.i64,1),(.i64,31),(.i64,1),(.i64,12),(.i64,0),(.i64,7)] (by simp) (fun j z hz=>?_) (Zf9 (g:=0) (t:=222) (zero:=Array.replicate 10 (.int .i64 0)) hsh (of_decide_eq_true (by kernel_rfl)) (by kernel_rfl) (by kernel_rfl))
    have k0:=key 0 (0,59) rfl
    have k1:=key 1 (0,23) rfl
    have k2:=key 2 (1,31) rfl
    have k3:=key 3 (1,12) rfl
    have k4:=key 4 (0,7) rfl
    match j,hz with
    | 0,hz=>obtain rfl:=Option.some.inj hz;exact k0.1
    | 1,hz=>obtain rfl:=Option.some.inj hz;exact k0.2
    | 2,hz=>obtain rfl:=Option.some.inj hz;exact k1.1
    | 3,hz=>obtain rfl:=Option.some.inj hz;exact k1.2
    | 4,hz=>obtain rfl:=Option.some.inj hz;exact k2.1
    | 5,hz=>obtain rfl:=Option.some.inj hz;exact k2.2
    | 6,hz=>obtain rfl:=Option.some.inj hz;exact k3.1
    | 7,hz=>obtain rfl:=Option.some.inj hz;exact k3.2
    | 8,hz=>obtain rfl:=Option.some.inj hz;exact k4.1
    | 9,hz=>obtain rfl:=Option.some.inj hz;exact k4.2
    | j+10,hz=>simp at hz
  · injection hg with hg
    subst hg
    have e:(Lib.deBruijn64tab.map fun (n:Nat)=>AV.int .u8 (n:Int))=(Lib.deBruijn64tab.map Int.ofNat).map fun z=>AV.int .u8 z:=by rw [List.map_map];rfl
    rw [e]
    exact ZlX (cells_tab h) (by kernel_rfl) (by decide) (Zf9 (g:=1) (t:=250) (zero:=Array.replicate 64 (.int .u8 0)) hsh (of_decide_eq_true (by kernel_rfl)) (by kernel_rfl) (by kernel_rfl))
  · injection hg with hg
    subst hg
    exact Zii [(.i64,m)] (by simp) (fun j z hz=>by
      cases j with
      | zero=>simp at hz;subst hz;exact hm
      | succ j=>simp at hz) (Zf9 (g:=2) (t:=3) (zero:=Array.replicate 1 (.int .i64 0)) hsh (of_decide_eq_true (by kernel_rfl)) (by kernel_rfl) (by kernel_rfl))
  · injection hg with hg
    subst hg
    exact ZlX (cells_pow h) (by kernel_rfl) (by decide) (Zf9 (g:=3) (t:=293) (zero:=Array.replicate 20 (.int .u64 0)) hsh (of_decide_eq_true (by kernel_rfl)) (by kernel_rfl) (by kernel_rfl))
  · injection hg with hg
    subst hg
    exact ZlY hv0 (by kernel_rfl) ho0
  · injection hg with hg
    subst hg
    exact ZlY hv1 (by kernel_rfl) ho1
  · cases hg
theorem own:ownKnob Tryz.prog.godebug=none:=by kernel_rfl
theorem laidOut:laidOutB Tryz.prog=true:=by kernel_rfl
theorem readable:(Tryz.f3.params.toList.all fun t=>Tryz.prog.readableRec t && decide (t<Tryz.prog.types.size))=true:=by kernel_rfl
theorem okTypes:(Tryz.f3.params.toList.all fun t=>okT Tryz.prog 12 t)=true:=by kernel_rfl
mutual
theorem bulk1 {H:Type}:∀ d:DataW H,Rows.uptoBulk d=bulk d
  | .lit l=>by cases l<;>simp [Rows.uptoBulk,bulk]
  | .nil=>by simp [Rows.uptoBulk,bulk]
  | .ptr d=>by simp [Rows.uptoBulk,bulk,bulk1 d]
  | .slice es ss=>by simp [Rows.uptoBulk,bulk,bulk2 es,bulk2 ss]
  | .agg ps=>by simp [Rows.uptoBulk,bulk,bulk2 ps]
  | .iface _ d=>by simp [Rows.uptoBulk,bulk,bulk1 d]
  | .map es=>by simp [Rows.uptoBulk,bulk,bulk3 es]
  | .held _=>by simp [Rows.uptoBulk,bulk]
theorem bulk2 {H:Type}:∀ l:List (DataW H),Rows.uptoBulkAll l=Zdq l
  | []=>by simp [Rows.uptoBulkAll,Zdq]
  | d::r=>by simp [Rows.uptoBulkAll,Zdq,bulk1 d,bulk2 r]
theorem bulk3 {H:Type}:∀ l:List (Lit×DataW H),Rows.uptoBulkEntries l=ZeT l
  | []=>by simp [Rows.uptoBulkEntries,ZeT]
  | (x,d)::r=>by cases x<;>simp [Rows.uptoBulkEntries,ZeT,Rows.uptoBulkEntry,Zkz,bulk1 d,bulk3 r]
end
theorem contract (H : Type) (enc : TypeId × Value → H) (W : World) (base : Nat) (args : Array Value) (ds gs : List (DataW H)) (before : List MemPlace)
    (hval:∀ (j:Nat) t v,Tryz.f3.params[j]? = some t→args[j]? = some v→Value.okWide Tryz.prog W .any base t v)
    (hW:DataW.Whole enc Tryz.prog Tryz.f3.params.toList Rows.moverEndsSpec.vars false W args.toList ds gs before) (hk:Rows.uptoSmall H (ds++gs)=true) (hL:laidMetH Tryz.prog Rows.moverEndsUptoRow.laid W) (hsh:W.ShapedOpen Tryz.prog) :
    Calls Tryz.prog 3 args W fun e W'=>∃ v,e = .returned v∧Rows.moverEndsSpec.post enc Tryz.prog Tryz.f3 false true false false W args v W':=by
  obtain ⟨ml,hgok⟩:=gok hL hsh
  have hW':=hW
  obtain ⟨p,q,hA,hV,rfl,hfz,hnd⟩:=hW
  obtain ⟨rfl,rfl⟩:=trodVars_none hV
  have hb:Zdq ds≤1048576:=by
    have:=of_decide_eq_true hk
    rw [List.append_nil,bulk2] at this
    exact this
  obtain ⟨xs,hxs,hx⟩:=Znk (n:=12) (B:=1048576) (by unfold LIM;omega) Tryz.f3.params.toList args.toList ds p okTypes (fun j t v a b=>hval j t v (by simpa using a) (by simpa using b)) hA hb
  have hA2:=hA
  rw [Tryz.params3] at hA2
  obtain ⟨v0,vs0,d0,ds0,p0,q0,hargs,rfl,hp0,h0,hA2⟩:=trodAll_cons hA2
  obtain ⟨v1,vs1,d1,ds1,p1,q1,rfl,rfl,rfl,h1,hA2⟩:=trodAll_cons hA2
  obtain ⟨v2,vs2,d2,ds2,p2,q2,rfl,rfl,rfl,h2,hA2⟩:=trodAll_cons hA2
  obtain ⟨v3,vs3,d3,ds3,p3,q3,rfl,rfl,rfl,h3,hA2⟩:=trodAll_cons hA2
  obtain ⟨-,rfl,-⟩:=trodAll_nil hA2
  rw [Tryz.params3] at hxs
  obtain ⟨x0,r0,rfl,w0,x1,r1,rfl,w1,x2,r2,rfl,w2,x3,r3,rfl,w3,rfl⟩:=hxs
  obtain ⟨a0,e0,o0⟩:=Zex Tryz.underlying3 (show WT Tryz.prog 1048576 12 3 [x0] from w0)
  obtain rfl:x0=_:=List.head_eq_of_cons_eq e0
  obtain ⟨a1,e1,o1⟩:=rd_sl Tryz.underlying22 (fun _ _ h=>ZiJ h) (show WT Tryz.prog 1048576 12 22 [x1] from w1)
  obtain rfl:x1=_:=List.head_eq_of_cons_eq e1
  obtain ⟨a2,e2,o2⟩:=rd_sl Tryz.underlying23 (fun _ _ h=>ZkT h) (show WT Tryz.prog 1048576 12 23 [x2] from w2)
  obtain rfl:x2=_:=List.head_eq_of_cons_eq e2
  obtain ⟨a3,e3,o3⟩:=rd_sl Tryz.underlying24 (fun _ _ h=>ZgA h) (show WT Tryz.prog 1048576 12 24 [x3] from w3)
  obtain rfl:x3=_:=List.head_eq_of_cons_eq e3
  exact ZoW (tb:=4) laidOut readable rfl hW' hgok hx (Zfk (ml:=ml) (ZkD a0 a1 a2 a3 o1 o2 o3)) rfl rfl rfl rfl Tryz.underlying4
end Go.Proofs.YthohllgoneadhaaGreatDoor.moverEnds
