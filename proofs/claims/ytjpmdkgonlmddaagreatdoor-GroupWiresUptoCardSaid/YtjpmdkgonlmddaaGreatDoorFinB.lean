import Derived.Test.YtjpmdkgonlmddaaGreatDoorFinA
namespace Go.Proofs.YtjpmdkgonlmddaaGreatDoor.groupWires
open Go.ChangeShapes Go.WideShapes Go.ChangeAt Go.RowKit Go.Ab Go.T
set_option linter.unusedVariables false
set_option maxRecDepth 100000
set_option maxRecDepth 100000 in
theorem laid_met (os:Os):laidMet Tryz.prog Rows.groupWiresUptoRow.laid ((World.laidAll Tryz.prog os Rows.groupWiresUptoRow.laid).forCall (fun _ _=>0) ⟨#[],#[.agg #[.int IntKind.i64 0,.int IntKind.i64 0,.int IntKind.i64 0,.int IntKind.i64 0,.int IntKind.i64 0,.int IntKind.i64 0,.int IntKind.i64 0,.bool false,.slice none 0 0,.string ⟨#[]⟩],.string ⟨#[]⟩],[]⟩).memory :=
  laidMet_laidAll _ (by kernel_rfl) (by kernel_rfl)
set_option maxRecDepth 100000 in
theorem reads (os:Os) {H:Type} (enc:TypeId×Value→H):∃ places,DataW.whole enc Tryz.prog ((World.laidAll Tryz.prog os Rows.groupWiresUptoRow.laid).forCall (fun _ _=>0) ⟨#[],#[.agg #[.int IntKind.i64 0,.int IntKind.i64 0,.int IntKind.i64 0,.int IntKind.i64 0,.int IntKind.i64 0,.int IntKind.i64 0,.int IntKind.i64 0,.bool false,.slice none 0 0,.string ⟨#[]⟩],.string ⟨#[]⟩],[]⟩).memory Tryz.f3.params.toList Rows.groupWiresSpec.vars false #[.agg #[.int IntKind.i64 0,.int IntKind.i64 0,.int IntKind.i64 0,.int IntKind.i64 0,.int IntKind.i64 0,.int IntKind.i64 0,.int IntKind.i64 0,.bool false,.slice none 0 0,.string ⟨#[]⟩],.string ⟨#[]⟩].toList 12=some ([.agg [.lit (.int IntKind.i64 0),.lit (.int IntKind.i64 0),.lit (.int IntKind.i64 0),.lit (.int IntKind.i64 0),.lit (.int IntKind.i64 0),.lit (.int IntKind.i64 0),.lit (.int IntKind.i64 0),.lit (.bool false),.nil,.lit (.string [])],.lit (.string [])],[],places) :=
  ⟨[],by kernel_rfl⟩
set_option maxRecDepth 100000 in
theorem lifted (os : Go.Os) (started : os.Started) (H : Type) (enc : TypeId × Value → H) (F : Stop.Interp) :
    ReturnsInHanded {} Tryz.checked os 3 .any ((Rows.OpenSpec.upto Rows.groupWiresSpec).preRow enc Tryz.prog Tryz.f3 Rows.groupWiresUptoRow.domain false Rows.groupWiresUptoRow.laid) (((Rows.OpenSpec.upto Rows.groupWiresSpec).at F).post enc Tryz.prog Tryz.f3 false true false false):=by
  obtain ⟨places,hx⟩:=reads os enc
  refine returnsInHanded_of_row (C:=Tryz.checked) (s:=Rows.OpenSpec.upto Rows.groupWiresSpec) own started (by kernel_rfl) Tryz.func3
    (witness_row_at (enc:=enc) (C:=Tryz.checked) false (World.laidAll Tryz.prog os Rows.groupWiresUptoRow.laid) #[.agg #[.int IntKind.i64 0,.int IntKind.i64 0,.int IntKind.i64 0,.int IntKind.i64 0,.int IntKind.i64 0,.int IntKind.i64 0,.int IntKind.i64 0,.bool false,.slice none 0 0,.string ⟨#[]⟩],.string ⟨#[]⟩] (World.laidAll_os _ _ _) (by kernel_rfl) (by kernel_rfl) (by kernel_rfl)
      (OpenSpec.preRow_of_cond 12 hx (by kernel_rfl) (fun k hk=>by cases hk;kernel_rfl) (by kernel_rfl) (laid_met os))) ?_
  intro W base args ds gs before hval hW _ hk _ hL hsh _
  exact contract H enc W base args ds gs before hval hW (hk _ rfl) hL hsh
end Go.Proofs.YtjpmdkgonlmddaaGreatDoor.groupWires
