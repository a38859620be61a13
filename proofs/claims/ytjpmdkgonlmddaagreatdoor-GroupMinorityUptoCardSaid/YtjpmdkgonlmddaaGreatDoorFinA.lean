import Derived.Test.YtjpmdkgonlmddaaGreatDoorLI
import Derived.Test.YtjpmdkgonlmddaaGreatDoorCertF
import Derived.Test.YtjpmdkgonlmddaaGreatDoorRead
import Derived.Test.YtjpmdkgonlmddaaGreatDoorAbL
import Derived.Test.YtjpmdkgonlmddaaGreatDoorCards
import Derived.Test.YtjpmdkgonlmddaaGreatDoorTie
import Derived.WalkKit
import Derived.ProofKit
import Derived.OpenShut
import Derived.JoinedCond
import Derived.LaidMore
import Derived.Lay
import Derived.SevenTiedAt
import Derived.Deep.DeepHandedRow
set_option linter.unusedVariables false
namespace Go.Proofs.YtjpmdkgonlmddaaGreatDoor.groupMinority
open Go.ChangeShapes Go.WideShapes Go.ChangeAt Go.RowKit Go.Ab Go.T
set_option linter.unusedVariables false
set_option maxRecDepth 100000
theorem cells_pow{W:World}(h:laidMetH Tryz.prog Rows.groupMinorityUptoRow.laid W):Lib.TabIs Tryz.prog W "internal/strconv.uint64pow10" .u64 Lib.pow10Tab:=
 Lib.tabIs_of_head (rest:=[]) (g:=2) (t:=324) (e:=118) (n:=20) (by kernel_rfl) (by kernel_rfl) (by kernel_rfl) (by kernel_rfl) (by kernel_rfl) (by kernel_rfl)
  (ZiM h (d:=Lib.tabData .u64 Lib.pow10Tab) (by kernel_rfl) rfl)
theorem cells_tab{W:World}(h:laidMetH Tryz.prog Rows.groupMinorityUptoRow.laid W):Lib.TabIs Tryz.prog W "math/bits.deBruijn64tab" .u8 (Lib.deBruijn64tab.map Int.ofNat):=
 Lib.tabIs_of_head (rest:=[]) (g:=4) (t:=353) (e:=5) (n:=64) (by kernel_rfl) (by kernel_rfl) (by kernel_rfl) (by kernel_rfl) (by kernel_rfl) (by kernel_rfl)
  (ZiM h (d:=Lib.tabData .u8 (Lib.deBruijn64tab.map Int.ofNat)) (by kernel_rfl) rfl)
theorem gok{W:World}(h:laidMetH Tryz.prog Rows.groupMinorityUptoRow.laid W)(hsh:W.ShapedOpen Tryz.prog):∃ml,GOk (GM ml) (fun b=>b<W.heap.size) W:=by
 obtain⟨e0,hv0,hi0,ho0⟩:=ZnR (g:=0) (tp:=343) (te:=345) (ts:=9) (ZiM h (name:= "strconv.ErrSyntax") (d:=.iface "*errors.errorString" (.ptr (.agg [.lit (.string [105,110,118,97,108,105,100,32,115,121,110,116,97,120])]))) (by kernel_rfl) rfl) (by kernel_rfl) (by kernel_rfl) Tryz.underlying232 (by kernel_rfl) (by kernel_rfl) Tryz.underlying343 Tryz.underlying345 rfl rfl Tryz.underlying9 (by kernel_rfl) (by kernel_rfl)
 obtain⟨e1,hv1,hi1,ho1⟩:=ZnR (g:=1) (tp:=343) (te:=345) (ts:=9) (ZiM h (name:= "strconv.ErrRange") (d:=.iface "*errors.errorString" (.ptr (.agg [.lit (.string [118,97,108,117,101,32,111,117,116,32,111,102,32,114,97,110,103,101])]))) (by kernel_rfl) rfl) (by kernel_rfl) (by kernel_rfl) Tryz.underlying232 (by kernel_rfl) (by kernel_rfl) Tryz.underlying343 Tryz.underlying345 rfl rfl Tryz.underlying9 (by kernel_rfl) (by kernel_rfl)
 refine⟨⟨0,e0,e1,hi0,hi1⟩,fun g row hg=>?_⟩
 unfold GM at hg;split at hg
 ·injection hg with hg
  subst hg
  exact ZnP hv0 (by kernel_rfl) ho0
 ·injection hg with hg
  subst hg
  exact ZnP hv1 (by kernel_rfl) ho1
 ·injection hg with hg
  subst hg
  exact ZnO (cells_pow h) (by kernel_rfl) (by decide) (ZkI (g:=2) (t:=324) (zero:=Array.replicate 20 (.int .u64 0)) hsh (of_decide_eq_true (by kernel_rfl)) (by kernel_rfl) (by kernel_rfl))
 ·injection hg with hg
  subst hg
  have e:(Lib.deBruijn64tab.map fun(n:Nat)=>AV.int .u8 (n:Int))=(Lib.deBruijn64tab.map Int.ofNat).map fun z=>AV.int .u8 z:=by rw[List.map_map];rfl
  rw[e]
  exact ZnO (cells_tab h) (by kernel_rfl) (by decide) (ZkI (g:=4) (t:=353) (zero:=Array.replicate 64 (.int .u8 0)) hsh (of_decide_eq_true (by kernel_rfl)) (by kernel_rfl) (by kernel_rfl))
 ·cases hg
theorem own:ownKnob Tryz.prog.godebug=none:=by kernel_rfl
theorem laidOut:laidOutB Tryz.prog=true:=by kernel_rfl
theorem readable:(Tryz.f5.params.toList.all fun t=>Tryz.prog.readableRec t&&decide (t<Tryz.prog.types.size))=true:=by kernel_rfl
theorem okTypes:(Tryz.f5.params.toList.all fun t=>okT Tryz.prog 12 t)=true:=by kernel_rfl
mutual
theorem bulk1{H:Type}:∀d:DataW H,Rows.uptoBulk d=bulk d
 |.lit l=>by cases l<;>simp[Rows.uptoBulk,bulk]
 |.nil=>by simp[Rows.uptoBulk,bulk]
 |.ptr d=>by simp[Rows.uptoBulk,bulk,bulk1 d]
 |.slice es ss=>by simp[Rows.uptoBulk,bulk,bulk2 es,bulk2 ss]
 |.agg ps=>by simp[Rows.uptoBulk,bulk,bulk2 ps]
 |.iface _ d=>by simp[Rows.uptoBulk,bulk,bulk1 d]
 |.map es=>by simp[Rows.uptoBulk,bulk,bulk3 es]
 |.held _=>by simp[Rows.uptoBulk,bulk]
theorem bulk2{H:Type}:∀l:List (DataW H),Rows.uptoBulkAll l=ZeJ l
 | []=>by simp[Rows.uptoBulkAll,ZeJ]
 |d::r=>by simp[Rows.uptoBulkAll,ZeJ,bulk1 d,bulk2 r]
theorem bulk3{H:Type}:∀l:List (Lit×DataW H),Rows.uptoBulkEntries l=Zgm l
 | []=>by simp[Rows.uptoBulkEntries,Zgm]
 |(x,d)::r=>by cases x<;>simp[Rows.uptoBulkEntries,Zgm,Rows.uptoBulkEntry,ZmF,bulk1 d,bulk3 r]
end
theorem contract(H:Type)(enc:TypeId×Value→H)(W:World)(base:Nat)(args:Array Value)(ds gs:List (DataW H))(before:List MemPlace)
 (hval:∀(j:Nat) t v,Tryz.f5.params[j]? =some t→args[j]? =some v→Value.okWide Tryz.prog W .any base t v)
 (hW:DataW.Whole enc Tryz.prog Tryz.f5.params.toList Rows.groupMinoritySpec.vars false W args.toList ds gs before) (hk:Rows.uptoSmall H (ds++gs)=true) (hL:laidMetH Tryz.prog Rows.groupMinorityUptoRow.laid W) (hsh:W.ShapedOpen Tryz.prog):
 Calls Tryz.prog 5 args W fun e W'=>∃v,e=.returned v∧Rows.groupMinoritySpec.post enc Tryz.prog Tryz.f5 false true false false W args v W':=by
 obtain⟨ml,hgok⟩:=gok hL hsh
 have hW':=hW
 obtain⟨p,q,hA,hV,rfl,hfz,hnd⟩:=hW
 obtain⟨rfl,rfl⟩:=trodVars_none hV
 have hb:ZeJ ds≤1048576:=by
  have:=of_decide_eq_true hk
  rw[List.append_nil,bulk2]at this;exact this
 obtain⟨xs,hxs,hx⟩:=Zpd (n:=12) (B:=1048576) (by unfold LIM;omega) Tryz.f5.params.toList args.toList ds p okTypes (fun j t v a b=>hval j t v (by simpa using a) (by simpa using b)) hA hb
 have hA2:=hA
 rw[Tryz.params5]at hA2
 obtain⟨v0,vs0,d0,ds0,p0,q0,hargs,rfl,hp0,h0,hA2⟩:=trodAll_cons hA2
 obtain⟨v1,vs1,d1,ds1,p1,q1,rfl,rfl,rfl,h1,hA2⟩:=trodAll_cons hA2
 obtain⟨v2,vs2,d2,ds2,p2,q2,rfl,rfl,rfl,h2,hA2⟩:=trodAll_cons hA2
 obtain⟨-,rfl, -⟩:=trodAll_nil hA2
 rw[Tryz.params5]at hxs
 obtain⟨x0,r0,rfl,w0,x1,r1,rfl,w1,x2,r2,rfl,w2,rfl⟩:=hxs
 obtain⟨a0,e0,o0⟩:=rd_sl Tryz.underlying32 (fun _ _ h=>ZeH Tryz.underlying3 h) (show WT Tryz.prog 1048576 12 32 [x0]from w0)
 obtain rfl:x0=_:=List.head_eq_of_cons_eq e0
 obtain⟨a1,e1,o1⟩:=rd_sl Tryz.underlying33 (fun _ _ h=>Zoc h) (show WT Tryz.prog 1048576 12 33 [x1]from w1)
 obtain rfl:x1=_:=List.head_eq_of_cons_eq e1
 obtain⟨a2,e2,o2⟩:=ZeH Tryz.underlying3 (show WT Tryz.prog 1048576 12 3 [x2]from w2)
 obtain rfl:x2=_:=List.head_eq_of_cons_eq e2
 exact Zq9 (tb:=4) laidOut readable rfl hW' hgok hx (ZfS (ml:=ml) (Zjh a0 a1 a2 o0 o1)) rfl rfl rfl rfl Tryz.underlying4
end Go.Proofs.YtjpmdkgonlmddaaGreatDoor.groupMinority
