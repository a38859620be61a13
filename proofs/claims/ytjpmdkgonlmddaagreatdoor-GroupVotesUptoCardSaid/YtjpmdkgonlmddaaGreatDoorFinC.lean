import Derived.Test.YtjpmdkgonlmddaaGreatDoorFinB
namespace Go.Proofs.YtjpmdkgonlmddaaGreatDoor.groupVotes
open Go.ChangeShapes Go.WideShapes Go.ChangeAt Go.RowKit Go.Ab Go.T
set_option linter.unusedVariables false
set_option maxRecDepth 100000
theorem aT{a b:Bool}(h:a=true)(k:b=true):(a&&b)=true:=by rw[h,k];rfl
theorem NO:(Rows.groupVotesUptoRow.inPlace==Tryz.prog.inPlace 4)=true:=by kernel_rfl
theorem E2:(Rows.groupVotesUptoRow.unfollowed==Tryz.prog.unfollowed 4)=true:=by kernel_rfl
theorem E1:(Rows.groupVotesUptoRow.recurses==Tryz.prog.recurses 4)=true:=by kernel_rfl
theorem E0:(Rows.groupVotesUptoRow.named==Tryz.prog.varsNamed 4)=true:=by kernel_rfl
theorem sJ:joinedFacts Tryz.prog 4 Tryz.f4 (Rows.OpenSpec.upto Rows.groupVotesSpec).bare Rows.groupVotesUptoRow=true:=
 aT (aT (aT (aT (aT (aT (aT (aT (aT (aT (aT (aT (aT (aT (aT (aT (aT (aT (aT (aT (aT (aT (aT (aT (aT (aT (aT (aT (aT (aT (aT (by kernel_rfl) (by kernel_rfl)) (by kernel_rfl)) (by kernel_rfl)) (by kernel_rfl)) (by kernel_rfl)) (by kernel_rfl)) (by kernel_rfl)) (by kernel_rfl)) NO) E2) E1) E0) (by kernel_rfl)) (by kernel_rfl)) (by kernel_rfl)) (by kernel_rfl)) (by kernel_rfl)) (by kernel_rfl)) (by kernel_rfl)) (by kernel_rfl)) (by kernel_rfl)) (by kernel_rfl)) (by kernel_rfl)) (by kernel_rfl)) (by kernel_rfl)) (by kernel_rfl)) (by kernel_rfl)) (by kernel_rfl)) (by kernel_rfl)) (by kernel_rfl)) (by kernel_rfl)
end Go.Proofs.YtjpmdkgonlmddaaGreatDoor.groupVotes
