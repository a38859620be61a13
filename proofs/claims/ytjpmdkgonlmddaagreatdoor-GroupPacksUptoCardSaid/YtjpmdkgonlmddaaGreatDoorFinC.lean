import Derived.Test.YtjpmdkgonlmddaaGreatDoorFinB
namespace Go.Proofs.YtjpmdkgonlmddaaGreatDoor.groupPacks
open Go.ChangeShapes Go.WideShapes Go.ChangeAt Go.RowKit Go.Ab Go.T
set_option linter.unusedVariables false
set_option maxRecDepth 100000
theorem aT{a b:Bool}(h:a=true)(k:b=true):(a&&b)=true:=by rw[h,k];rfl
theorem QT:(Rows.groupPacksUptoRow.inPlace==Tryz.prog.inPlace 6)=true:=by kernel_rfl
theorem GX:(Rows.groupPacksUptoRow.unfollowed==Tryz.prog.unfollowed 6)=true:=by kernel_rfl
theorem GW:(Rows.groupPacksUptoRow.recurses==Tryz.prog.recurses 6)=true:=by kernel_rfl
theorem GV:(Rows.groupPacksUptoRow.named==Tryz.prog.varsNamed 6)=true:=by kernel_rfl
theorem sJ:joinedFacts Tryz.prog 6 Tryz.f6 (Rows.OpenSpec.upto Rows.groupPacksSpec).bare Rows.groupPacksUptoRow=true:=
 aT (aT (aT (aT (aT (aT (aT (aT (aT (aT (aT (aT (aT (aT (aT (aT (aT (aT (aT (aT (aT (aT (aT (aT (aT (aT (aT (aT (aT (aT (aT (by kernel_rfl) (by kernel_rfl)) (by kernel_rfl)) (by kernel_rfl)) (by kernel_rfl)) (by kernel_rfl)) (by kernel_rfl)) (by kernel_rfl)) (by kernel_rfl)) QT) GX) GW) GV) (by kernel_rfl)) (by kernel_rfl)) (by kernel_rfl)) (by kernel_rfl)) (by kernel_rfl)) (by kernel_rfl)) (by kernel_rfl)) (by kernel_rfl)) (by kernel_rfl)) (by kernel_rfl)) (by kernel_rfl)) (by kernel_rfl)) (by kernel_rfl)) (by kernel_rfl)) (by kernel_rfl)) (by kernel_rfl)) (by kernel_rfl)) (by kernel_rfl)) (by kernel_rfl)
end Go.Proofs.YtjpmdkgonlmddaaGreatDoor.groupPacks
