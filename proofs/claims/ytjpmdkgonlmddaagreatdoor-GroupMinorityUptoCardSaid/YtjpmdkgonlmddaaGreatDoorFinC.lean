import Derived.Test.YtjpmdkgonlmddaaGreatDoorFinB
namespace Go.Proofs.YtjpmdkgonlmddaaGreatDoor.groupMinority
open Go.ChangeShapes Go.WideShapes Go.ChangeAt Go.RowKit Go.Ab Go.T
set_option linter.unusedVariables false
set_option maxRecDepth 100000
theorem aT{a b:Bool}(h:a=true)(k:b=true):(a&&b)=true:=by rw[h,k];rfl
theorem jf9:(Rows.groupMinorityUptoRow.inPlace==Tryz.prog.inPlace 5)=true:=by kernel_rfl
theorem jf10:(Rows.groupMinorityUptoRow.unfollowed==Tryz.prog.unfollowed 5)=true:=by kernel_rfl
theorem jf11:(Rows.groupMinorityUptoRow.recurses==Tryz.prog.recurses 5)=true:=by kernel_rfl
theorem jf12:(Rows.groupMinorityUptoRow.named==Tryz.prog.varsNamed 5)=true:=by kernel_rfl
theorem sJ:joinedFacts Tryz.prog 5 Tryz.f5 (Rows.OpenSpec.upto Rows.groupMinoritySpec).bare Rows.groupMinorityUptoRow=true:=
 aT (aT (aT (aT (aT (aT (aT (aT (aT (aT (aT (aT (aT (aT (aT (aT (aT (aT (aT (aT (aT (aT (aT (aT (aT (aT (aT (aT (aT (aT (aT (by kernel_rfl) (by kernel_rfl)) (by kernel_rfl)) (by kernel_rfl)) (by kernel_rfl)) (by kernel_rfl)) (by kernel_rfl)) (by kernel_rfl)) (by kernel_rfl)) jf9) jf10) jf11) jf12) (by kernel_rfl)) (by kernel_rfl)) (by kernel_rfl)) (by kernel_rfl)) (by kernel_rfl)) (by kernel_rfl)) (by kernel_rfl)) (by kernel_rfl)) (by kernel_rfl)) (by kernel_rfl)) (by kernel_rfl)) (by kernel_rfl)) (by kernel_rfl)) (by kernel_rfl)) (by kernel_rfl)) (by kernel_rfl)) (by kernel_rfl)) (by kernel_rfl)) (by kernel_rfl)
end Go.Proofs.YtjpmdkgonlmddaaGreatDoor.groupMinority
