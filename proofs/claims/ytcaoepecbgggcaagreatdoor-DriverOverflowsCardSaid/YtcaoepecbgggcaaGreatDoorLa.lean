/-
  DriverOverflows: for every input the law returns true: its typed program does, and the code does what that program says.
-/
import Derived.Test.YtcaoepecbgggcaaGreatDoorRows
import Derived.Test.YtcaoepecbgggcaaGreatDoorDxF
import Derived.Test.YtcaoepecbgggcaaGreatDoorDc
import Derived.LaidMore
import Derived.SevenTiedAt
import Derived.Test.YtcaoepecbgggcaaGreatDoorPb
namespace Go.Proofs.YtcaoepecbgggcaaGreatDoor.lDriverOverflows
open Go Go.Dw Go.Proofs Go.Proofs.YtcaoepecbgggcaaGreatDoor Go.ChangeShapes Go.WideShapes Go.ChangeAt Go.RowKit
theorem own:ownKnob Tryz.prog.godebug=none:=by kernel_rfl
theorem AxX (W:World):Rd Tryz.prog W 85 eI8 (PG .i8):=Rd.int Tryz.underlying85
theorem rd4 (W:World):Rd Tryz.prog W 4 D.bool Aqb:=Rd.bool Tryz.underlying4

set_option maxRecDepth 100000 in
theorem AkT (H:Type) (enc:TypeId×Value->H) (W:World) (base:Nat) (args:Array Value) (ds gs:List (DataW H)) (before:List MemPlace) (hG:YL Tryz.prog (Xn W))
    (hval:∀ (j:Nat) t v, Tryz.f8.params[j]? =some t->args[j]? =some v->Value.okWide Tryz.prog W .any base t v)
    (hW:DataW.Whole enc Tryz.prog Tryz.f8.params.toList Rows.driverOverflowsSpec.vars false W args.toList ds gs before)
    (hsz:(DataW.weightsEach Tryz.prog (Tryz.f8.params.toList++Rows.driverOverflowsSpec.plain.varTypes Tryz.prog) (ds++gs)).all (· <=reachBytes)=true) :
    Calls Tryz.prog 8 args W λe W'=>∃ v, e= .returned v/\Rows.driverOverflowsSpec.post enc Tryz.prog Tryz.f8 false true false false W args v W':=by
  have hW':=hW;obtain⟨p, q, hA0, hV, rfl, hfz, hnd⟩:=hW;have hA:DataW.TrodAll enc Tryz.prog W 0 (λ_=>true) true Tryz.f8.params.toList args.toList ds p:=hA0
  rw[Tryz.params8]at hA hval;obtain⟨v0, vs0, d0, ds0, p0, q0, hargs, rfl, rfl, h0, r0⟩:=trodAll_cons hA;obtain⟨v1, vs1, d1, ds1, p1, q1, rfl, rfl, rfl, h1, r1⟩:=trodAll_cons r0;obtain⟨rfl, rfl, rfl⟩:=trodAll_nil r1;obtain rfl:args= #[v0, v1]:=by cases args;simp_all
  obtain⟨a0, k0, f0⟩:=(AxX W).arg (λ_ h=>by rw[Tryz.underlying85]at h;exact h.elim) (λ_ _=>rfl) (hval 0 85 v0 rfl rfl) h0 (Wt.arg hsz (j:=0) (by rw[Tryz.params8];rfl) rfl)
  obtain⟨a1, k1, f1⟩:=(rd4 W).arg (λ_ h=>by rw[Tryz.underlying4]at h;exact h.elim) (λ_ _=>rfl) (hval 1 4 v1 rfl rfl) h1 (Wt.arg hsz (j:=1) (by rw[Tryz.params8];rfl) rfl)
  exact ApP Afa YY rfl hW' rfl (by kernel_rfl) (by kernel_rfl) (by kernel_rfl) (by kernel_rfl) (by kernel_rfl) Tryz.underlying4 (λds h=>by
    rw[Tryz.params8]at h
    match ds, h with| [_, _], _=>rfl) rfl hG ⟨(a0, a1), (.val 0 _ _ _ _ _ rfl (λ_ _ h=>D.noConfusion h) f0 (.val 1 _ _ _ _ _ rfl (λ_ _ h=>D.noConfusion h) f1 (.nil _))), Aec a0 a1 k0 k1⟩

theorem AuQ (os:Os) (args:Array Value):laidMetH Tryz.prog Rows.driverOverflowsRow.laid ((World.doorLaid Tryz.prog 400 os).forCall (λ_ _=>0) ⟨#[], args, []⟩).memory :=
  laidMetH_of_parts3 (fuel:=8) (laidMet_of_run' 8 (by kernel_rfl) (by kernel_rfl)) (by kernel_rfl) (by kernel_rfl)
set_option maxRecDepth 100000 in
theorem lifted (os:Os) (started:os.Started) (H:Type) (enc:TypeId×Value->H) :
    ReturnsInHanded {} Tryz.checked os 8 .any (λw args=>(Rows.driverOverflowsSpec.pre enc Tryz.prog Tryz.f8 [] false w args/\laidMetH Tryz.prog Rows.driverOverflowsRow.laid w)/\sizedMet enc Tryz.prog Tryz.f8 (OpenSpec.ofChange Rows.driverOverflowsSpec) false w args)
      (Rows.driverOverflowsSpec.post enc Tryz.prog Tryz.f8 false true false false):=by
  refine returnsInHanded_of_change_and (C:=Tryz.checked) (X:=λw _=>laidMetH Tryz.prog Rows.driverOverflowsRow.laid w) (λ_ _ _ hh h=>h.of_heap hh) own started (by kernel_rfl) Tryz.func8
    (ChangeSpec.witness_shaped (enc:=enc) (C:=Tryz.checked) (os:=os) (X:=λw _=>laidMetH Tryz.prog Rows.driverOverflowsRow.laid w) false (World.doorLaid Tryz.prog 400 os) #[.int .i8 0, .bool false] 8 rfl (World.shaped_of_RefB (by kernel_rfl) (by kernel_rfl)) (by kernel_rfl) (by kernel_rfl) (by kernel_rfl) (AuQ os _)) ?_
  intro W base args ds gs before hval hW _ hsz hL _;exact AkT H enc W base args ds gs before (Atu (AxY (i:=0) (g:=1) hL (by kernel_rfl) rfl ⟨by kernel_rfl, by kernel_rfl, Tryz.underlying269, Tryz.underlying5, by kernel_rfl⟩) (AvB (by kernel_rfl)) (AvB (by kernel_rfl)) (AvB (by kernel_rfl)) (AxZ (i:=1) (g:=0) hL (by kernel_rfl) rfl ⟨by kernel_rfl, by kernel_rfl, Tryz.underlying260, Tryz.underlying259, by kernel_rfl, ⟨Tryz.underlying257, Tryz.underlying257, Tryz.underlying257, Tryz.underlying4, ⟨rfl, rfl, rfl, rfl⟩, ⟨by kernel_rfl, by kernel_rfl, by kernel_rfl, by kernel_rfl⟩⟩⟩)) hval hW hsz

end Go.Proofs.YtcaoepecbgggcaaGreatDoor.lDriverOverflows
