/-
  DriverChoose: for every input the law returns true: its typed program does, and the code does what that program says.
-/
import Derived.Test.YtcaoepecbgggcaaGreatDoorRows
import Derived.Test.YtcaoepecbgggcaaGreatDoorDxF
import Derived.Test.YtcaoepecbgggcaaGreatDoorDc
import Derived.LaidMore
import Derived.SevenTiedAt
import Derived.Test.YtcaoepecbgggcaaGreatDoorPb
namespace Go.Proofs.YtcaoepecbgggcaaGreatDoor.lDriverChoose
open Go Go.Dw Go.Proofs Go.Proofs.YtcaoepecbgggcaaGreatDoor Go.ChangeShapes Go.WideShapes Go.ChangeAt Go.RowKit
theorem own:ownKnob Tryz.prog.godebug=none:=by kernel_rfl
theorem rd5 (W:World):Rd Tryz.prog W 5 eU8 (OZ .u8):=Rd.int Tryz.underlying5
theorem c5:Tryz.prog.cellsOf 5=1:=by kernel_rfl
theorem ABK (W:World):Rd Tryz.prog W 22 (eL eU8) (qL (OZ .u8)):=Rd.slice Tryz.underlying22 (by rw[c5];decide) (by kernel_rfl) (λa=>by rw[c5];rfl) (rd5 W)
theorem rd3 (W:World):Rd Tryz.prog W 3 NA (OZ .i64):=Rd.int Tryz.underlying3
theorem c3:Tryz.prog.cellsOf 3=1:=by kernel_rfl
theorem AyU (W:World):Rd Tryz.prog W 37 (eL NA) (qL (OZ .i64)):=Rd.slice Tryz.underlying37 (by rw[c3];decide) (by kernel_rfl) (λa=>by rw[c3];rfl) (rd3 W)
theorem c37:Tryz.prog.cellsOf 37=1:=by kernel_rfl
theorem ABN (W:World):Rd Tryz.prog W 43 (eL (eL NA)) (qL (qL (OZ .i64))):=Rd.slice Tryz.underlying43 (by rw[c37];decide) (by kernel_rfl) (λa=>by rw[c37];rfl) (AyU W)
theorem c43:Tryz.prog.cellsOf 43=1:=by kernel_rfl
theorem c45:Tryz.prog.cellsOf 45=1:=by kernel_rfl
theorem AAV (W:World):Rd Tryz.prog W 45 QP AwN:=Rd.AAa NT.mk Tryz.underlying45 rfl (by rw[c45, c43]) (ABN W) (λa=>rfl) (λa ha=>ha)
theorem rd4 (W:World):Rd Tryz.prog W 4 D.bool AuL:=Rd.bool Tryz.underlying4
theorem c4:Tryz.prog.cellsOf 4=1:=by kernel_rfl
theorem ABO (W:World):Rd Tryz.prog W 46 (eL D.bool) (qL AuL):=Rd.slice Tryz.underlying46 (by rw[c4];decide) (by kernel_rfl) (λa=>by rw[c4];rfl) (rd4 W)
theorem c46:Tryz.prog.cellsOf 46=1:=by kernel_rfl
theorem c48:Tryz.prog.cellsOf 48=2:=by kernel_rfl
theorem ABP (W:World):Rd Tryz.prog W 48 Xf AvU:=Rd.AAb NO.mk Tryz.underlying48 rfl c37.symm (by rw[c48, c37, c46]) (AyU W) (ABO W) (λa b=>rfl) (λa b ha hb=>⟨ha, hb⟩)
theorem c39:Tryz.prog.cellsOf 39=3:=by kernel_rfl
theorem ABM (W:World):Rd Tryz.prog W 39 OB AsC:=Rd.AAc NN.mk Tryz.underlying39 rfl c3.symm (by rw[c3]) (by rw[c39, c3, c37]) (rd3 W) (rd3 W) (AyU W) (λa b c=>rfl) (λa b c ha hb hc=>⟨ha, hb, hc⟩)
theorem c50:Tryz.prog.cellsOf 50=7:=by kernel_rfl
theorem ABQ (W:World):Rd Tryz.prog W 50 Oe AlK:=Rd.AAd NR.mk Tryz.underlying50 rfl c45.symm (by rw[c45, c48]) (by rw[c45, c48]) (by rw[c50, c45, c48, c39]) (AAV W) (ABP W) (AAV W) (ABM W) (λa b c d=>rfl) (λa b c d ha hb hc hd=>⟨ha, hb, hc, hd⟩)
theorem ABL (W:World):Rd Tryz.prog W 23 (eL Oe) (qL AlK):=Rd.slice Tryz.underlying23 (by rw[c50];decide) (by kernel_rfl) (λa=>by rw[c50];rfl) (ABQ W)

set_option maxRecDepth 100000 in
theorem Arf (H:Type) (enc:TypeId×Value->H) (W:World) (base:Nat) (args:Array Value) (ds gs:List (DataW H)) (before:List MemPlace) (hG:AbG Tryz.prog (Zq W))
    (hval:∀ (j:Nat) t v, Tryz.f3.params[j]? =some t->args[j]? =some v->Value.okWide Tryz.prog W .any base t v)
    (hW:DataW.Whole enc Tryz.prog Tryz.f3.params.toList Rows.driverChooseSpec.vars false W args.toList ds gs before)
    (hsz:(DataW.weightsEach Tryz.prog (Tryz.f3.params.toList++Rows.driverChooseSpec.plain.varTypes Tryz.prog) (ds++gs)).all (· <=reachBytes)=true) :
    Calls Tryz.prog 3 args W λe W'=>∃ v, e= .returned v/\Rows.driverChooseSpec.post enc Tryz.prog Tryz.f3 false true false false W args v W':=by
  have hW':=hW;obtain⟨p, q, hA0, hV, rfl, hfz, hnd⟩:=hW;have hA:DataW.TrodAll enc Tryz.prog W 0 (λ_=>true) true Tryz.f3.params.toList args.toList ds p:=hA0
  rw[Tryz.params3]at hA hval;obtain⟨v0, vs0, d0, ds0, p0, q0, hargs, rfl, rfl, h0, r0⟩:=trodAll_cons hA;obtain⟨v1, vs1, d1, ds1, p1, q1, rfl, rfl, rfl, h1, r1⟩:=trodAll_cons r0;obtain⟨rfl, rfl, rfl⟩:=trodAll_nil r1;obtain rfl:args= #[v0, v1]:=by cases args;simp_all
  obtain⟨a0, k0, f0⟩:=(ABK W).arg (λ_ h=>by rw[Tryz.underlying22]at h;exact h.elim) (λ_ _=>rfl) (hval 0 22 v0 rfl rfl) h0 (Wt.arg hsz (j:=0) (by rw[Tryz.params3];rfl) rfl)
  obtain⟨a1, k1, f1⟩:=(ABL W).arg (λ_ h=>by rw[Tryz.underlying23]at h;exact h.elim) (λ_ _=>rfl) (hval 1 23 v1 rfl rfl) h1 (Wt.arg hsz (j:=1) (by rw[Tryz.params3];rfl) rfl)
  exact AuC AmV AfJ rfl hW' rfl (by kernel_rfl) (by kernel_rfl) (by kernel_rfl) (by kernel_rfl) (by kernel_rfl) Tryz.underlying4 (λds h=>by
    rw[Tryz.params3]at h
    match ds, h with| [_, _], _=>rfl) rfl hG ⟨(a0, a1), (.val 0 _ _ _ _ _ rfl (λ_ _ h=>D.noConfusion h) f0 (.val 1 _ _ _ _ _ rfl (λ_ _ h=>D.noConfusion h) f1 (.nil _))), Alk a0 a1 k0 k1⟩

theorem Ayw (os:Os) (args:Array Value):laidMetH Tryz.prog Rows.driverChooseRow.laid ((World.doorLaid Tryz.prog 400 os).forCall (λ_ _=>0) ⟨#[], args, []⟩).memory :=
  laidMetH_of_parts3 (fuel:=8) (laidMet_of_run' 8 (by kernel_rfl) (by kernel_rfl)) (by kernel_rfl) (by kernel_rfl)
set_option maxRecDepth 100000 in
theorem lifted (os:Os) (started:os.Started) (H:Type) (enc:TypeId×Value->H) :
    ReturnsInHanded {} Tryz.checked os 3 .any (λw args=>(Rows.driverChooseSpec.pre enc Tryz.prog Tryz.f3 [] false w args/\laidMetH Tryz.prog Rows.driverChooseRow.laid w)/\sizedMet enc Tryz.prog Tryz.f3 (OpenSpec.ofChange Rows.driverChooseSpec) false w args)
      (Rows.driverChooseSpec.post enc Tryz.prog Tryz.f3 false true false false):=by
  refine returnsInHanded_of_change_and (C:=Tryz.checked) (X:=λw _=>laidMetH Tryz.prog Rows.driverChooseRow.laid w) (λ_ _ _ hh h=>h.of_heap hh) own started (by kernel_rfl) Tryz.func3
    (ChangeSpec.witness_shaped (enc:=enc) (C:=Tryz.checked) (os:=os) (X:=λw _=>laidMetH Tryz.prog Rows.driverChooseRow.laid w) false (World.doorLaid Tryz.prog 400 os) #[.slice none 0 0, .slice none 0 0] 8 rfl (World.shaped_of_RefB (by kernel_rfl) (by kernel_rfl)) (by kernel_rfl) (by kernel_rfl) (by kernel_rfl) (Ayw os _)) ?_
  intro W base args ds gs before hval hW _ hsz hL _;exact Arf H enc W base args ds gs before (Axy (ABR (i:=0) (g:=1) hL (by kernel_rfl) rfl ⟨by kernel_rfl, by kernel_rfl, Tryz.underlying269, Tryz.underlying5, by kernel_rfl⟩) (Azd (by kernel_rfl)) (Azd (by kernel_rfl)) (Azd (by kernel_rfl)) (ABS (i:=1) (g:=0) hL (by kernel_rfl) rfl ⟨by kernel_rfl, by kernel_rfl, Tryz.underlying260, Tryz.underlying259, by kernel_rfl, ⟨Tryz.underlying257, Tryz.underlying257, Tryz.underlying257, Tryz.underlying4, ⟨rfl, rfl, rfl, rfl⟩, ⟨by kernel_rfl, by kernel_rfl, by kernel_rfl, by kernel_rfl⟩⟩⟩)) hval hW hsz
end Go.Proofs.YtcaoepecbgggcaaGreatDoor.lDriverChoose
