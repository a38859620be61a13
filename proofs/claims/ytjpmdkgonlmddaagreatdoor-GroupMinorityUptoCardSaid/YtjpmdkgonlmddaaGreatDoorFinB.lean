import Derived.Test.YtjpmdkgonlmddaaGreatDoorFinA
namespace Go.Proofs.YtjpmdkgonlmddaaGreatDoor.groupMinority
open Go.ChangeShapes Go.WideShapes Go.ChangeAt Go.RowKit Go.Ab Go.T
set_option linter.unusedVariables false
set_option maxRecDepth 100000
set_option maxRecDepth 100000 in
theorem laid_met(os:Os):laidMet Tryz.prog Rows.groupMinorityUptoRow.laid ((World.laidAll Tryz.prog os Rows.groupMinorityUptoRow.laid).forCall (fun _ _=>0) ⟨#[],#[.slice none 0 0,.slice none 0 0,.int IntKind.i64 0],[]⟩).memory:=
 laidMet_laidAll _ (by kernel_rfl) (by kernel_rfl)
set_option maxRecDepth 100000 in
theorem reads(os:Os){H:Type}(enc:TypeId×Value→H):∃places,DataW.whole enc Tryz.prog ((World.laidAll Tryz.prog os Rows.groupMinorityUptoRow.laid).forCall (fun _ _=>0) ⟨#[],#[.slice none 0 0,.slice none 0 0,.int IntKind.i64 0],[]⟩).memory Tryz.f5.params.toList Rows.groupMinoritySpec.vars false #[.slice none 0 0,.slice none 0 0,.int IntKind.i64 0].toList 12=some ([.nil,.nil,.lit (.int IntKind.i64 0)],[],places):=
 ⟨[],by kernel_rfl⟩
set_option maxRecDepth 100000 in
theorem lifted(os:Go.Os)(started:os.Started)(H:Type)(enc:TypeId×Value→H)(F:Stop.Interp):
 ReturnsInHanded {} Tryz.checked os 5 .any ((Rows.OpenSpec.upto Rows.groupMinoritySpec).preRow enc Tryz.prog Tryz.f5 Rows.groupMinorityUptoRow.domain false Rows.groupMinorityUptoRow.laid) (((Rows.OpenSpec.upto Rows.groupMinoritySpec).at F).post enc Tryz.prog Tryz.f5 false true false false):=by
 obtain⟨places,hx⟩:=reads os enc
 refine returnsInHanded_of_row (C:=Tryz.checked) (s:=Rows.OpenSpec.upto Rows.groupMinoritySpec) own started (by kernel_rfl) Tryz.func5
  (witness_row_at (enc:=enc) (C:=Tryz.checked) false (World.laidAll Tryz.prog os Rows.groupMinorityUptoRow.laid) #[.slice none 0 0,.slice none 0 0,.int IntKind.i64 0] (World.laidAll_os _ _ _) (by kernel_rfl) (by kernel_rfl) (by kernel_rfl)
   (OpenSpec.preRow_of_cond 12 hx (by kernel_rfl) (fun k hk=>by cases hk;kernel_rfl) (by kernel_rfl) (laid_met os))) ?_
 intro W base args ds gs before hval hW _ hk _ hL hsh _;exact contract H enc W base args ds gs before hval hW (hk _ rfl) hL hsh
end Go.Proofs.YtjpmdkgonlmddaaGreatDoor.groupMinority
