/-
  DriverIsTotal: for every input the law returns true: its typed program does, and the code does what that program says.
-/
import Derived.Test.YtcaoepecbgggcaaGreatDoorRows
import Derived.Test.YtcaoepecbgggcaaGreatDoorDxF
import Derived.SevenTiedAt
import Derived.Test.YtcaoepecbgggcaaGreatDoorPb
namespace Go.Proofs.YtcaoepecbgggcaaGreatDoor.lDriverIsTotal
open Go Go.Dw Go.Proofs Go.Proofs.YtcaoepecbgggcaaGreatDoor Go.ChangeShapes Go.WideShapes Go.ChangeAt Go.RowKit
theorem own:ownKnob Tryz.prog.godebug=none:=by kernel_rfl
theorem rd5 (W:World):Rd Tryz.prog W 5 eU8 (Pf .u8):=Rd.int Tryz.underlying5
theorem c5:Tryz.prog.cellsOf 5=1:=by kernel_rfl
theorem Azs (W:World):Rd Tryz.prog W 22 (eL eU8) (qL (Pf .u8)):=Rd.slice Tryz.underlying22 (by rw[c5];decide) (by kernel_rfl) (λa=>by rw[c5];rfl) (rd5 W)

set_option maxRecDepth 100000 in
theorem Amc (H:Type) (enc:TypeId×Value->H) (W:World) (base:Nat) (args:Array Value) (ds gs:List (DataW H)) (before:List MemPlace) (hG:YQ Tryz.prog (Xv W))
    (hval:∀ (j:Nat) t v, Tryz.f5.params[j]? =some t->args[j]? =some v->Value.okWide Tryz.prog W .any base t v)
    (hW:DataW.Whole enc Tryz.prog Tryz.f5.params.toList Rows.driverIsTotalSpec.vars false W args.toList ds gs before)
    (hsz:(DataW.weightsEach Tryz.prog (Tryz.f5.params.toList++Rows.driverIsTotalSpec.plain.varTypes Tryz.prog) (ds++gs)).all (· <=reachBytes)=true) :
    Calls Tryz.prog 5 args W λe W'=>∃ v, e= .returned v/\Rows.driverIsTotalSpec.post enc Tryz.prog Tryz.f5 false true false false W args v W':=by
  have hW':=hW;obtain⟨p, q, hA0, hV, rfl, hfz, hnd⟩:=hW;have hA:DataW.TrodAll enc Tryz.prog W 0 (λ_=>true) true Tryz.f5.params.toList args.toList ds p:=hA0
  rw[Tryz.params5]at hA hval;obtain⟨v0, vs0, d0, ds0, p0, q0, hargs, rfl, rfl, h0, r0⟩:=trodAll_cons hA;obtain⟨rfl, rfl, rfl⟩:=trodAll_nil r0;obtain rfl:args= #[v0]:=by cases args;simp_all
  obtain⟨a0, k0, f0⟩:=(Azs W).arg (λ_ h=>by rw[Tryz.underlying22]at h;exact h.elim) (λ_ _=>rfl) (hval 0 22 v0 rfl rfl) h0 (Wt.arg hsz (j:=0) (by rw[Tryz.params5];rfl) rfl)
  exact Aqt AgP Aaq rfl hW' rfl (by kernel_rfl) (by kernel_rfl) (by kernel_rfl) (by kernel_rfl) (by kernel_rfl) Tryz.underlying4 (λds h=>by
    rw[Tryz.params5]at h
    match ds, h with| [_], _=>rfl) rfl hG ⟨a0, (.val 0 _ _ _ _ _ rfl (λ_ _ h=>D.noConfusion h) f0 (.nil _)), AeV a0 k0⟩

theorem AvD (os:Os) (args:Array Value):laidMetH Tryz.prog Rows.driverIsTotalRow.laid ((World.doorLaid Tryz.prog 400 os).forCall (λ_ _=>0) ⟨#[], args, []⟩).memory :=
  laidMetH_of_parts3 (fuel:=8) (laidMet_of_run' 8 (by kernel_rfl) (by kernel_rfl)) (by kernel_rfl) (by kernel_rfl)
set_option maxRecDepth 100000 in
theorem lifted (os:Os) (started:os.Started) (H:Type) (enc:TypeId×Value->H) :
    ReturnsInHanded {} Tryz.checked os 5 .any (λw args=>(Rows.driverIsTotalSpec.pre enc Tryz.prog Tryz.f5 [] false w args/\laidMetH Tryz.prog Rows.driverIsTotalRow.laid w)/\sizedMet enc Tryz.prog Tryz.f5 (OpenSpec.ofChange Rows.driverIsTotalSpec) false w args)
      (Rows.driverIsTotalSpec.post enc Tryz.prog Tryz.f5 false true false false):=by
  refine returnsInHanded_of_change_and (C:=Tryz.checked) (X:=λw _=>laidMetH Tryz.prog Rows.driverIsTotalRow.laid w) (λ_ _ _ hh h=>h.of_heap hh) own started (by kernel_rfl) Tryz.func5
    (ChangeSpec.witness_shaped (enc:=enc) (C:=Tryz.checked) (os:=os) (X:=λw _=>laidMetH Tryz.prog Rows.driverIsTotalRow.laid w) false (World.doorLaid Tryz.prog 400 os) #[.slice none 0 0] 8 rfl (World.shaped_of_RefB (by kernel_rfl) (by kernel_rfl)) (by kernel_rfl) (by kernel_rfl) (by kernel_rfl) (AvD os _)) ?_
  intro W base args ds gs before hval hW _ hsz hL _;exact Amc H enc W base args ds gs before (AtY (Azt (i:=0) (g:=1) hL (by kernel_rfl) rfl ⟨by kernel_rfl, by kernel_rfl, Tryz.underlying269, Tryz.underlying5, by kernel_rfl⟩) (AwA (by kernel_rfl)) (AwA (by kernel_rfl)) (AwA (by kernel_rfl)) (Azu (i:=1) (g:=0) hL (by kernel_rfl) rfl ⟨by kernel_rfl, by kernel_rfl, Tryz.underlying260, Tryz.underlying259, by kernel_rfl, ⟨Tryz.underlying257, Tryz.underlying257, Tryz.underlying257, Tryz.underlying4, ⟨rfl, rfl, rfl, rfl⟩, ⟨by kernel_rfl, by kernel_rfl, by kernel_rfl, by kernel_rfl⟩⟩⟩)) hval hW hsz

end Go.Proofs.YtcaoepecbgggcaaGreatDoor.lDriverIsTotal
