/-
  The law GroupPacks (layer 22) answers true for every list of nodes and every script of acts and leaves them as they read; condition: what it reads is together of bulk at most 1048576 (the form '..UptoSaid'); its row lists package variables, and the card ties them to the program's text.
-/
import Derived.Test.YtjpmdkgonlmddaaGreatDoorFinD
namespace Go.Proofs.YtjpmdkgonlmddaaGreatDoor.groupPacks
open Go.ChangeShapes Go.WideShapes Go.ChangeAt Go.RowKit Go.Ab Go.T
set_option linter.unusedVariables false
set_option maxRecDepth 100000
theorem plain(f:FuncId)(fn:Func)(hf:Tryz.pinned.checked.prog.funcNamed "matins/matinslaw22.GroupPacks" =some f)(Bq:Tryz.pinned.checked.prog.funcs[f]? =some fn):
 Rows.groupPacksUptoCard.stood.looks=Tryz.pinned.checked.prog.looks []∧∀(j:Nat) t,fn.params[j]? =some t→Tryz.pinned.checked.prog.wantsStandIn t=false:=by
 obtain rfl:f=6:=Option.some.inj ((show Tryz.prog.funcNamed "matins/matinslaw22.GroupPacks" =some 6 by kernel_rfl).symm.trans hf) |>.symm
 obtain rfl:fn=Tryz.f6:=(Option.some.inj (Tryz.func6.symm.trans Bq)).symm
 refine⟨by kernel_rfl,λ j t ht=>?_⟩
 rw[Tryz.params6]at ht
 have hm:t∈[32,33]:=by simpa using Array.mem_of_getElem? ht
 have jb:([32,33].all λ u=>!Tryz.prog.wantsStandIn u)=true:=by kernel_rfl
 exact(show Tryz.prog.wantsStandIn t=false by simpa using List.all_eq_true.1 jb t hm)
theorem cardUpto:Rows.GroupPacksUptoCardSaid:=
 Claim7.holds_tied_plain_at .later [] _ _ _ _ saidUpto (λ _ h=>by cases h) (by kernel_rfl) (λ _ h=>by cases h) groupPacksUpto_row_tie rfl ⟨rfl,rfl⟩ (by kernel_rfl) rfl plain (by kernel_rfl)
end Go.Proofs.YtjpmdkgonlmddaaGreatDoor.groupPacks
