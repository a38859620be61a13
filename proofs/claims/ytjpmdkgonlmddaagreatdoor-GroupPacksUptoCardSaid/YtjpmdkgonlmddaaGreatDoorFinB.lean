import Derived.Test.YtjpmdkgonlmddaaGreatDoorFinA
namespace Go.Proofs.YtjpmdkgonlmddaaGreatDoor.groupPacks
open Go.ChangeShapes Go.WideShapes Go.ChangeAt Go.RowKit Go.Ab Go.T
set_option linter.unusedVariables false
set_option maxRecDepth 100000
theorem ry(os:Os):laidMet Tryz.prog Rows.groupPacksUptoRow.laid ((World.laidAll Tryz.prog os Rows.groupPacksUptoRow.laid).forCall (λ _ _=>0) ⟨#[],#[.slice none 0 0,.slice none 0 0],[]⟩).memory:=
 laidMet_laidAll _ (by kernel_rfl) (by kernel_rfl)
theorem reads(os:Os){H:Type}(enc:TypeId×Value→H):∃places,DataW.whole enc Tryz.prog ((World.laidAll Tryz.prog os Rows.groupPacksUptoRow.laid).forCall (λ _ _=>0) ⟨#[],#[.slice none 0 0,.slice none 0 0],[]⟩).memory Tryz.f6.params.toList Rows.groupPacksSpec.vars false #[.slice none 0 0,.slice none 0 0].toList 12=some ([.nil,.nil],[],places):=
 ⟨[],by kernel_rfl⟩
theorem lifted(os:Go.Os)(started:os.Started)(H:Type)(enc:TypeId×Value→H)(F:Stop.Interp):
 ReturnsInHanded {} Tryz.checked os 6 .any ((Rows.OpenSpec.upto Rows.groupPacksSpec).preRow enc Tryz.prog Tryz.f6 Rows.groupPacksUptoRow.domain false Rows.groupPacksUptoRow.laid) (((Rows.OpenSpec.upto Rows.groupPacksSpec).at F).post enc Tryz.prog Tryz.f6 false true false false):=by
 obtain⟨places,hx⟩:=reads os enc
 refine returnsInHanded_of_row (C:=Tryz.checked) (s:=Rows.OpenSpec.upto Rows.groupPacksSpec) own started (by kernel_rfl) Tryz.func6
  (witness_row_at (enc:=enc) (C:=Tryz.checked) false (World.laidAll Tryz.prog os Rows.groupPacksUptoRow.laid) #[.slice none 0 0,.slice none 0 0] (World.laidAll_os _ _ _) (by kernel_rfl) (by kernel_rfl) (by kernel_rfl)
   (OpenSpec.preRow_of_cond 12 hx (by kernel_rfl) (λ k hk=>by cases hk;kernel_rfl) (by kernel_rfl) (ry os))) ?_
 intro W base args ds gs before w8 hW _ hk _ hL vD _;exact sc H enc W base args ds gs before w8 hW (hk _ rfl) hL vD
end Go.Proofs.YtjpmdkgonlmddaaGreatDoor.groupPacks
