import Derived.Test.YtjpmdkgonlmddaaGreatDoorFinB
namespace Go.Proofs.YtjpmdkgonlmddaaGreatDoor.groupAgain
open Go.ChangeShapes Go.WideShapes Go.ChangeAt Go.RowKit Go.Ab Go.T
set_option linter.unusedVariables false
set_option maxRecDepth 100000
theorem aT{a b:Bool}(h:a=true)(k:b=true):(a&&b)=true:=by rw[h,k];rfl
theorem jf9:(Rows.groupAgainUptoRow.inPlace==Tryz.prog.inPlace 7)=true:=by kernel_rfl
theorem jf10:(Rows.groupAgainUptoRow.unfollowed==Tryz.prog.unfollowed 7)=true:=by kernel_rfl
theorem jf11:(Rows.groupAgainUptoRow.recurses==Tryz.prog.recurses 7)=true:=by kernel_rfl
theorem jf12:(Rows.groupAgainUptoRow.named==Tryz.prog.varsNamed 7)=true:=by kernel_rfl
theorem sJ:joinedFacts Tryz.prog 7 Tryz.f7 (Rows.OpenSpec.upto Rows.groupAgainSpec).bare Rows.groupAgainUptoRow=true:=
 aT (aT (aT (aT (aT (aT (aT (aT (aT (aT (aT (aT (aT (aT (aT (aT (aT (aT (aT (aT (aT (aT (aT (aT (aT (aT (aT (aT (aT (aT (aT (by kernel_rfl) (by kernel_rfl)) (by kernel_rfl)) (by kernel_rfl)) (by kernel_rfl)) (by kernel_rfl)) (by kernel_rfl)) (by kernel_rfl)) (by kernel_rfl)) jf9) jf10) jf11) jf12) (by kernel_rfl)) (by kernel_rfl)) (by kernel_rfl)) (by kernel_rfl)) (by kernel_rfl)) (by kernel_rfl)) (by kernel_rfl)) (by kernel_rfl)) (by kernel_rfl)) (by kernel_rfl)) (by kernel_rfl)) (by kernel_rfl)) (by kernel_rfl)) (by kernel_rfl)) (by kernel_rfl)) (by kernel_rfl)) (by kernel_rfl)) (by kernel_rfl)) (by kernel_rfl)
end Go.Proofs.YtjpmdkgonlmddaaGreatDoor.groupAgain
