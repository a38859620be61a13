import Derived.Test.YthohllgoneadhaaGreatDoorFinA
namespace Go.Proofs.YthohllgoneadhaaGreatDoor.moverEnds
open Go.ChangeShapes Go.WideShapes Go.ChangeAt Go.RowKit Go.Ab Go.T
set_option linter.unusedVariables false
set_option maxRecDepth 100000
set_option maxRecDepth 100000 in
theorem laid_met (os:Os):laidMet Tryz.prog Rows.moverEndsUptoRow.laid ((World.laidAll Tryz.prog os Rows.moverEndsUptoRow.laid).forCall (fun _ _=>0) ⟨#[],#[.int IntKind.i64 0,.slice none 0 0,.slice none 0 0,.slice none 0 0],[]⟩).memory :=
  laidMet_laidAll _ (by kernel_rfl) (by kernel_rfl)
set_option maxRecDepth 100000 in
theorem reads (os:Os) {H:Type} (enc:TypeId×Value→H):∃ places,DataW.whole enc Tryz.prog ((World.laidAll Tryz.prog os Rows.moverEndsUptoRow.laid).forCall (fun _ _=>0) ⟨#[],#[.int IntKind.i64 0,.slice none 0 0,.slice none 0 0,.slice none 0 0],[]⟩).memory Tryz.f3.params.toList Rows.moverEndsSpec.vars false #[.int IntKind.i64 0,.slice none 0 0,.slice none 0 0,.slice none 0 0].toList 12=some ([.lit (.int IntKind.i64 0),.nil,.nil,.nil],[],places) :=
  ⟨[],by kernel_rfl⟩
set_option maxRecDepth 100000 in
theorem lifted (os : Go.Os) (started : os.Started) (H : Type) (enc : TypeId × Value → H) (F : Stop.Interp) :
    ReturnsInHanded {} Tryz.checked os 3 .any ((Rows.OpenSpec.upto Rows.moverEndsSpec).preRow enc Tryz.prog Tryz.f3 Rows.moverEndsUptoRow.domain false Rows.moverEndsUptoRow.laid) (((Rows.OpenSpec.upto Rows.moverEndsSpec).at F).post enc Tryz.prog Tryz.f3 false true false false):=by
  obtain ⟨places,hx⟩:=reads os enc
  refine returnsInHanded_of_row (C:=Tryz.checked) (s:=Rows.OpenSpec.upto Rows.moverEndsSpec) own started (by kernel_rfl) Tryz.func3
    (witness_row_at (enc:=enc) (C:=Tryz.checked) false (World.laidAll Tryz.prog os Rows.moverEndsUptoRow.laid) #[.int IntKind.i64 0,.slice none 0 0,.slice none 0 0,.slice none 0 0] (World.laidAll_os _ _ _) (by kernel_rfl) (by kernel_rfl) (by kernel_rfl)
      (OpenSpec.preRow_of_cond 12 hx (by kernel_rfl) (fun k hk=>by cases hk;kernel_rfl) (by kernel_rfl) (laid_met os))) ?_
  intro W base args ds gs before hval hW _ hk _ hL hsh _
  exact contract H enc W base args ds gs before hval hW (hk _ rfl) hL hsh
end Go.Proofs.YthohllgoneadhaaGreatDoor.moverEnds
