import Derived.Test.YthohllgoneadhaaGreatDoorFinB
namespace Go.Proofs.YthohllgoneadhaaGreatDoor.moverLate
open Go.ChangeShapes Go.WideShapes Go.ChangeAt Go.RowKit Go.Ab Go.T
set_option linter.unusedVariables false
set_option maxRecDepth 100000
theorem aT {a b:Bool} (h:a=true) (k:b=true):(a && b)=true:=by rw [h,k];rfl
theorem jf9:(Rows.moverLateUptoRow.inPlace==Tryz.prog.inPlace 4)=true:=by kernel_rfl
theorem jf10:(Rows.moverLateUptoRow.unfollowed==Tryz.prog.unfollowed 4)=true:=by kernel_rfl
theorem jf11:(Rows.moverLateUptoRow.recurses==Tryz.prog.recurses 4)=true:=by kernel_rfl
theorem jf12:(Rows.moverLateUptoRow.named==Tryz.prog.varsNamed 4)=true:=by kernel_rfl
theorem sJ:joinedFacts Tryz.prog 4 Tryz.f4 (Rows.OpenSpec.upto Rows.moverLateSpec).bare Rows.moverLateUptoRow=true :=
  aT (aT (aT (aT (aT (aT (aT (aT (aT (aT (aT (aT (aT (aT (aT (aT (aT (aT (aT (aT (aT (aT (aT (aT (aT (aT (aT (aT (aT (aT (aT (by kernel_rfl) (by kernel_rfl)) (by kernel_rfl)) (by kernel_rfl)) (by kernel_rfl)) (by kernel_rfl)) (by kernel_rfl)) (by kernel_rfl)) (by kernel_rfl)) jf9) jf10) jf11) jf12) (by kernel_rfl)) (by kernel_rfl)) (by kernel_rfl)) (by kernel_rfl)) (by kernel_rfl)) (by kernel_rfl)) (by kernel_rfl)) (by kernel_rfl)) (by kernel_rfl)) (by kernel_rfl)) (by kernel_rfl)) (by kernel_rfl)) (by kernel_rfl)) (by kernel_rfl)) (by kernel_rfl)) (by kernel_rfl)) (by kernel_rfl)) (by kernel_rfl)) (by kernel_rfl)
end Go.Proofs.YthohllgoneadhaaGreatDoor.moverLate
