import Derived.Test.YtjpmdkgonlmddaaGreatDoorFinA
namespace Go.Proofs.YtjpmdkgonlmddaaGreatDoor.groupVotes
open Go.ChangeShapes Go.WideShapes Go.ChangeAt Go.RowKit Go.Ab Go.T
set_option linter.unusedVariables false
set_option maxRecDepth 100000
set_option maxRecDepth 100000 in
theorem pU(os:Os):laidMet Tryz.prog Rows.groupVotesUptoRow.laid ((World.laidAll Tryz.prog os Rows.groupVotesUptoRow.laid).forCall (fun _ _=>0) ⟨#[],#[.slice none 0 0,.slice none 0 0],[]⟩).memory:=
 laidMet_laidAll _ (by kernel_rfl) (by kernel_rfl)
set_option maxRecDepth 100000 in
theorem reads(os:Os){H:Type}(enc:TypeId×Value→H):∃places,DataW.whole enc Tryz.prog ((World.laidAll Tryz.prog os Rows.groupVotesUptoRow.laid).forCall (fun _ _=>0) ⟨#[],#[.slice none 0 0,.slice none 0 0],[]⟩).memory Tryz.f4.params.toList Rows.groupVotesSpec.vars false #[.slice none 0 0,.slice none 0 0].toList 12=some ([.nil,.nil],[],places):=
 ⟨[],by kernel_rfl⟩
set_option maxRecDepth 100000 in
theorem lifted(os:Go.Os)(started:os.Started)(H:Type)(enc:TypeId×Value→H)(F:Stop.Interp):
 ReturnsInHanded {} Tryz.checked os 4 .any ((Rows.OpenSpec.upto Rows.groupVotesSpec).preRow enc Tryz.prog Tryz.f4 Rows.groupVotesUptoRow.domain false Rows.groupVotesUptoRow.laid) (((Rows.OpenSpec.upto Rows.groupVotesSpec).at F).post enc Tryz.prog Tryz.f4 false true false false):=by
 obtain⟨places,hx⟩:=reads os enc
 refine returnsInHanded_of_row (C:=Tryz.checked) (s:=Rows.OpenSpec.upto Rows.groupVotesSpec) own started (by kernel_rfl) Tryz.func4
  (witness_row_at (enc:=enc) (C:=Tryz.checked) false (World.laidAll Tryz.prog os Rows.groupVotesUptoRow.laid) #[.slice none 0 0,.slice none 0 0] (World.laidAll_os _ _ _) (by kernel_rfl) (by kernel_rfl) (by kernel_rfl)
   (OpenSpec.preRow_of_cond 12 hx (by kernel_rfl) (fun k hk=>by cases hk;kernel_rfl) (by kernel_rfl) (pU os))) ?_
 intro W base args ds gs before vg hW _ hk _ hL tS _;exact qw H enc W base args ds gs before vg hW (hk _ rfl) hL tS
end Go.Proofs.YtjpmdkgonlmddaaGreatDoor.groupVotes
