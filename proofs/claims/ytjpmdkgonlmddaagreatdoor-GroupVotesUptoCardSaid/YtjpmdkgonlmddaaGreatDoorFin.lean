/-
  The law GroupVotes (layer 22) answers true for every list of nodes and every script of acts that it is called with, and leaves them as they read; condition: what it reads is together of bulk at most 1048576 (the form '..UptoSaid'); its row lists package variables, and the card ties them to the program's text.
-/
import Derived.Test.YtjpmdkgonlmddaaGreatDoorFinD
namespace Go.Proofs.YtjpmdkgonlmddaaGreatDoor.groupVotes
open Go.ChangeShapes Go.WideShapes Go.ChangeAt Go.RowKit Go.Ab Go.T
set_option linter.unusedVariables false
set_option maxRecDepth 100000
theorem plain(f:FuncId)(fn:Func)(hf:Tryz.pinned.checked.prog.funcNamed "matins/matinslaw22.GroupVotes" =some f)(hfn:Tryz.pinned.checked.prog.funcs[f]? =some fn):
 Rows.groupVotesUptoCard.stood.looks=Tryz.pinned.checked.prog.looks []∧∀(j:Nat) t,fn.params[j]? =some t→Tryz.pinned.checked.prog.wantsStandIn t=false:=by
 obtain rfl:f=4:=Option.some.inj ((show Tryz.prog.funcNamed "matins/matinslaw22.GroupVotes" =some 4 by kernel_rfl).symm.trans hf) |>.symm
 obtain rfl:fn=Tryz.f4:=(Option.some.inj (Tryz.func4.symm.trans hfn)).symm
 refine⟨by kernel_rfl,fun j t ht=>?_⟩
 rw[Tryz.params4]at ht
 have hm:t∈[32,33]:=by simpa using Array.mem_of_getElem? ht
 have eg:([32,33].all fun u=>!Tryz.prog.wantsStandIn u)=true:=by kernel_rfl
 exact(show Tryz.prog.wantsStandIn t=false by simpa using List.all_eq_true.1 eg t hm)
theorem cardUpto:Rows.GroupVotesUptoCardSaid:=
 Claim7.holds_tied_plain_at .later [] _ _ _ _ saidUpto (fun _ h=>by cases h) (by kernel_rfl) (fun _ h=>by cases h) groupVotesUpto_row_tie rfl ⟨rfl,rfl⟩ (by kernel_rfl) rfl plain (by kernel_rfl)
end Go.Proofs.YtjpmdkgonlmddaaGreatDoor.groupVotes
