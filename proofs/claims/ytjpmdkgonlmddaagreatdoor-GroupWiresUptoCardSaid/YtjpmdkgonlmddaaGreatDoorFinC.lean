import Derived.Test.YtjpmdkgonlmddaaGreatDoorFinB
namespace Go.Proofs.YtjpmdkgonlmddaaGreatDoor.groupWires
open Go.ChangeShapes Go.WideShapes Go.ChangeAt Go.RowKit Go.Ab Go.T
set_option linter.unusedVariables false
set_option maxRecDepth 100000
theorem aT {a b:Bool} (h:a=true) (k:b=true):(a && b)=true:=by rw [h,k];rfl
theorem jf9:(Rows.groupWiresUptoRow.inPlace==Tryz.prog.inPlace 3)=true:=by kernel_rfl
theorem jf10:(Rows.groupWiresUptoRow.unfollowed==Tryz.prog.unfollowed 3)=true:=by kernel_rfl
theorem jf11:(Rows.groupWiresUptoRow.recurses==Tryz.prog.recurses 3)=true:=by kernel_rfl
theorem jf12:(Rows.groupWiresUptoRow.named==Tryz.prog.varsNamed 3)=true:=by kernel_rfl
theorem sJ:joinedFacts Tryz.prog 3 Tryz.f3 (Rows.OpenSpec.upto Rows.groupWiresSpec).bare Rows.groupWiresUptoRow=true :=
  aT (aT (aT (aT (aT (aT (aT (aT (aT (aT (aT (aT (aT (aT (aT (aT (aT (aT (aT (aT (aT (aT (aT (aT (aT (aT (aT (aT (aT (aT (aT (by kernel_rfl) (by kernel_rfl)) (by kernel_rfl)) (by kernel_rfl)) (by kernel_rfl)) (by kernel_rfl)) (by kernel_rfl)) (by kernel_rfl)) (by kernel_rfl)) jf9) jf10) jf11) jf12) (by kernel_rfl)) (by kernel_rfl)) (by kernel_rfl)) (by kernel_rfl)) (by kernel_rfl)) (by kernel_rfl)) (by kernel_rfl)) (by kernel_rfl)) (by kernel_rfl)) (by kernel_rfl)) (by kernel_rfl)) (by kernel_rfl)) (by kernel_rfl)) (by kernel_rfl)) (by kernel_rfl)) (by kernel_rfl)) (by kernel_rfl)) (by kernel_rfl)) (by kernel_rfl)
end Go.Proofs.YtjpmdkgonlmddaaGreatDoor.groupWires
