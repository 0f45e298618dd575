/-
  OptimisePropose: for every input the law returns true: its typed program does, and the code does what that program says.
-/
import Derived.Test.YtilmapojncgflaaGreatDoorRows
import Derived.Test.YtilmapojncgflaaGreatDoorDxF
import Derived.Test.YtilmapojncgflaaGreatDoorDd
import Derived.Test.YtilmapojncgflaaGreatDoorTie
import Derived.Test.YtilmapojncgflaaGreatDoorCards
import Derived.LaidMore
import Derived.SevenTiedAt
import Derived.Test.YtilmapojncgflaaGreatDoorPb
namespace Go.Proofs.YtilmapojncgflaaGreatDoor.lOptimisePropose
open Go Go.Dw Go.Proofs Go.Proofs.YtilmapojncgflaaGreatDoor Go.ChangeShapes Go.WideShapes Go.ChangeAt Go.RowKit
theorem own:ownKnob Tryz.prog.godebug=none:=by kernel_rfl
theorem rd5 (W:World):Rd Tryz.prog W 5 eU8 (Sw .u8):=Rd.int Tryz.underlying5
theorem c5:Tryz.prog.cellsOf 5=1:=by kernel_rfl
theorem Ayx (W:World):Rd Tryz.prog W 22 (eL eU8) (qL (Sw .u8)):=Rd.slice Tryz.underlying22 (by rw[c5];decide) (by kernel_rfl) (λa=>by rw[c5];rfl) (rd5 W)

set_option maxRecDepth 100000 in
theorem AvF (H:Type) (enc:TypeId×Value->H) (W:World) (base:Nat) (args:Array Value) (ds gs:List (DataW H)) (before:List MemPlace) (hG:Afr Tryz.prog (Aaj W))
    (hval:∀ (j:Nat) t v, Tryz.f6.params[j]? =some t->args[j]? =some v->Value.okWide Tryz.prog W .any base t v)
    (hW:DataW.Whole enc Tryz.prog Tryz.f6.params.toList Rows.optimiseProposeSpec.vars false W args.toList ds gs before)
    (hsz:(DataW.weightsEach Tryz.prog (Tryz.f6.params.toList++Rows.optimiseProposeSpec.plain.varTypes Tryz.prog) (ds++gs)).all (· <=reachBytes)=true) :
    Calls Tryz.prog 6 args W λe W'=>∃ v, e= .returned v/\Rows.optimiseProposeSpec.post enc Tryz.prog Tryz.f6 false true false false W args v W':=by
  have hW':=hW;obtain⟨p, q, hA0, hV, rfl, hfz, hnd⟩:=hW;have hA:DataW.TrodAll enc Tryz.prog W 0 (λ_=>true) true Tryz.f6.params.toList args.toList ds p:=hA0
  rw[Tryz.params6]at hA hval;obtain⟨v0, vs0, d0, ds0, p0, q0, hargs, rfl, rfl, h0, r0⟩:=trodAll_cons hA;obtain⟨rfl, rfl, rfl⟩:=trodAll_nil r0;obtain rfl:args= #[v0]:=by cases args;simp_all
  obtain⟨a0, k0, f0⟩:=(Ayx W).arg (λ_ h=>by rw[Tryz.underlying22]at h;exact h.elim) (λ_ _=>rfl) (hval 0 22 v0 rfl rfl) h0 (Wt.arg hsz (j:=0) (by rw[Tryz.params6];rfl) rfl)
  exact ArL Aip AaZ rfl hW' rfl (by kernel_rfl) (by kernel_rfl) (by kernel_rfl) (by kernel_rfl) (by kernel_rfl) Tryz.underlying4 (λds h=>by
    rw[Tryz.params6]at h
    match ds, h with| [_], _=>rfl) rfl hG ⟨a0, (.val 0 _ _ _ _ _ rfl (λ_ _ h=>D.noConfusion h) f0 (.nil _)), Ahb a0 k0⟩

theorem AvI (os:Os) (args:Array Value):laidMetH Tryz.prog Rows.optimiseProposeRow.laid ((World.doorLaid Tryz.prog 400 os).forCall (λ_ _=>0) ⟨#[], args, []⟩).memory :=
  laidMetH_of_parts3 (fuel:=8) (laidMet_of_run' 8 (by kernel_rfl) (by kernel_rfl)) (by kernel_rfl) (by kernel_rfl)
set_option maxRecDepth 100000 in
theorem lifted (os:Os) (started:os.Started) (H:Type) (enc:TypeId×Value->H) :
    ReturnsInHanded {} Tryz.checked os 6 .any (λw args=>(Rows.optimiseProposeSpec.pre enc Tryz.prog Tryz.f6 [] false w args/\laidMetH Tryz.prog Rows.optimiseProposeRow.laid w)/\sizedMet enc Tryz.prog Tryz.f6 (OpenSpec.ofChange Rows.optimiseProposeSpec) false w args)
      (Rows.optimiseProposeSpec.post enc Tryz.prog Tryz.f6 false true false false):=by
  refine returnsInHanded_of_change_and (C:=Tryz.checked) (X:=λw _=>laidMetH Tryz.prog Rows.optimiseProposeRow.laid w) (λ_ _ _ hh h=>h.of_heap hh) own started (by kernel_rfl) Tryz.func6
    (ChangeSpec.witness_shaped (enc:=enc) (C:=Tryz.checked) (os:=os) (X:=λw _=>laidMetH Tryz.prog Rows.optimiseProposeRow.laid w) false (World.doorLaid Tryz.prog 400 os) #[.slice none 0 0] 8 rfl (World.shaped_of_RefB (by kernel_rfl) (by kernel_rfl)) (by kernel_rfl) (by kernel_rfl) (by kernel_rfl) (AvI os _)) ?_
  intro W base args ds gs before hval hW _ hsz hL _
  exact AvF H enc W base args ds gs before (ArF hL rfl (by kernel_rfl) (λg hg=>by
    obtain rfl:g=0:=Option.some.inj (hg.symm.trans (show Tryz.prog.globalNamed "math/bits.deBruijn64tab" = some 0 by kernel_rfl))
    exact(show(Tryz.prog.globals[0]?).map (·.type)=some 223 by kernel_rfl)) Tryz.underlying223 Tryz.underlying5 (by kernel_rfl)) hval hW hsz

theorem over:Rows.OptimiseProposeSaid :=
  OpenClaim.holds_of_wide 6 Tryz.f6 rfl rfl rfl rfl rfl rfl rfl ⟨rfl, rfl, rfl, rfl, rfl⟩ rfl rfl rfl rfl rfl (by kernel_rfl) Tryz.func6 (by kernel_rfl)
    (of_decide_eq_true (by kernel_rfl)) (by unfold Func.isWrapper;first|(rw[if_pos (by decide +kernel)];kernel_rfl)|(rw[if_neg (by decide +kernel)];exact⟨rfl, rfl⟩))
    (λos started H enc _=>lifted os started H enc)

theorem proved:Rows.OptimiseProposeCardSaid :=
  Claim7.holds_tied_plain_at .later [] [.data] true (true, "bf68e170c7253951dbfb489f5c973c62f427fe20678502385840cc021337a190") false
    over (λ_ h=>by cases h) (by kernel_rfl) (λ_ h=>by cases h) optimisePropose_row_tie rfl ⟨rfl, rfl⟩ (by kernel_rfl) rfl
    (λf fn hf hfn=>by
      obtain rfl:f=6:=Option.some.inj ((show Tryz.prog.funcNamed "spillframe/spillframelaw31.OptimisePropose" = some 6 by kernel_rfl).symm.trans hf) |>.symm
      obtain rfl:fn=Tryz.f6:=(Option.some.inj (Tryz.func6.symm.trans hfn)).symm
      exact⟨by kernel_rfl, λj t ht=>by
        rw[Tryz.params6]at ht;have hm:t∈[22]:=by simpa using Array.mem_of_getElem? ht
        have hall:([22].all λu=> !Tryz.prog.wantsStandIn u)=true:=by kernel_rfl
        exact(show Tryz.prog.wantsStandIn t=false by simpa using List.all_eq_true.1 hall t hm)⟩)
    (by kernel_rfl)
end Go.Proofs.YtilmapojncgflaaGreatDoor.lOptimisePropose
