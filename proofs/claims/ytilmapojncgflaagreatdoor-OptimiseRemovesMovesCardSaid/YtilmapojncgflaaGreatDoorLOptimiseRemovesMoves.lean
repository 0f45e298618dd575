/-
  OptimiseRemovesMoves: for every input the law returns true: its typed program does, and the code does what that program says.
-/
import Derived.Test.YtilmapojncgflaaGreatDoorRows
import Derived.Test.YtilmapojncgflaaGreatDoorDxF
import Derived.Test.YtilmapojncgflaaGreatDoorDd
import Derived.Test.YtilmapojncgflaaGreatDoorTie
import Derived.Test.YtilmapojncgflaaGreatDoorCards
import Derived.LaidMore
import Derived.SevenTiedAt
import Derived.Test.YtilmapojncgflaaGreatDoorPb
namespace Go.Proofs.YtilmapojncgflaaGreatDoor.lOptimiseRemovesMoves
open Go Go.Dw Go.Proofs Go.Proofs.YtilmapojncgflaaGreatDoor Go.ChangeShapes Go.WideShapes Go.ChangeAt Go.RowKit
theorem own:ownKnob Tryz.prog.godebug=none:=by kernel_rfl
theorem rd5 (W:World):Rd Tryz.prog W 5 eU8 (RR .u8):=Rd.int Tryz.underlying5

set_option maxRecDepth 100000 in
theorem ArO (H:Type) (enc:TypeId×Value->H) (W:World) (base:Nat) (args:Array Value) (ds gs:List (DataW H)) (before:List MemPlace) (hG:AcV Tryz.prog (Yw W))
    (hval:∀ (j:Nat) t v, Tryz.f5.params[j]? =some t->args[j]? =some v->Value.okWide Tryz.prog W .any base t v)
    (hW:DataW.Whole enc Tryz.prog Tryz.f5.params.toList Rows.optimiseRemovesMovesSpec.vars false W args.toList ds gs before)
    (hsz:(DataW.weightsEach Tryz.prog (Tryz.f5.params.toList++Rows.optimiseRemovesMovesSpec.plain.varTypes Tryz.prog) (ds++gs)).all (· <=reachBytes)=true) :
    Calls Tryz.prog 5 args W λe W'=>∃ v, e= .returned v/\Rows.optimiseRemovesMovesSpec.post enc Tryz.prog Tryz.f5 false true false false W args v W':=by
  have hW':=hW;obtain⟨p, q, hA0, hV, rfl, hfz, hnd⟩:=hW;have hA:DataW.TrodAll enc Tryz.prog W 0 (λ_=>true) true Tryz.f5.params.toList args.toList ds p:=hA0
  rw[Tryz.params5]at hA hval;obtain⟨v0, vs0, d0, ds0, p0, q0, hargs, rfl, rfl, h0, r0⟩:=trodAll_cons hA;obtain⟨v1, vs1, d1, ds1, p1, q1, rfl, rfl, rfl, h1, r1⟩:=trodAll_cons r0;obtain⟨v2, vs2, d2, ds2, p2, q2, rfl, rfl, rfl, h2, r2⟩:=trodAll_cons r1;obtain⟨rfl, rfl, rfl⟩:=trodAll_nil r2;obtain rfl:args= #[v0, v1, v2]:=by cases args;simp_all
  obtain⟨a0, k0, f0⟩:=(rd5 W).arg (λ_ h=>by rw[Tryz.underlying5]at h;exact h.elim) (λ_ _=>rfl) (hval 0 5 v0 rfl rfl) h0 (Wt.arg hsz (j:=0) (by rw[Tryz.params5];rfl) rfl)
  obtain⟨a1, k1, f1⟩:=(rd5 W).arg (λ_ h=>by rw[Tryz.underlying5]at h;exact h.elim) (λ_ _=>rfl) (hval 1 5 v1 rfl rfl) h1 (Wt.arg hsz (j:=1) (by rw[Tryz.params5];rfl) rfl)
  obtain⟨a2, k2, f2⟩:=(rd5 W).arg (λ_ h=>by rw[Tryz.underlying5]at h;exact h.elim) (λ_ _=>rfl) (hval 2 5 v2 rfl rfl) h2 (Wt.arg hsz (j:=2) (by rw[Tryz.params5];rfl) rfl)
  exact AnZ AcN Ww rfl hW' rfl (by kernel_rfl) (by kernel_rfl) (by kernel_rfl) (by kernel_rfl) (by kernel_rfl) Tryz.underlying4 (λds h=>by
    rw[Tryz.params5]at h
    match ds, h with| [_, _, _], _=>rfl) rfl hG ⟨(a0, a1, a2), (.val 0 _ _ _ _ _ rfl (λ_ _ h=>D.noConfusion h) f0 (.val 1 _ _ _ _ _ rfl (λ_ _ h=>D.noConfusion h) f1 (.val 2 _ _ _ _ _ rfl (λ_ _ h=>D.noConfusion h) f2 (.nil _)))), AbJ a0 a1 a2 k0 k1 k2⟩

theorem ArR (os:Os) (args:Array Value):laidMetH Tryz.prog Rows.optimiseRemovesMovesRow.laid ((World.doorLaid Tryz.prog 400 os).forCall (λ_ _=>0) ⟨#[], args, []⟩).memory :=
  laidMetH_of_parts3 (fuel:=8) (laidMet_of_run' 8 (by kernel_rfl) (by kernel_rfl)) (by kernel_rfl) (by kernel_rfl)
set_option maxRecDepth 100000 in
theorem lifted (os:Os) (started:os.Started) (H:Type) (enc:TypeId×Value->H) :
    ReturnsInHanded {} Tryz.checked os 5 .any (λw args=>(Rows.optimiseRemovesMovesSpec.pre enc Tryz.prog Tryz.f5 [] false w args/\laidMetH Tryz.prog Rows.optimiseRemovesMovesRow.laid w)/\sizedMet enc Tryz.prog Tryz.f5 (OpenSpec.ofChange Rows.optimiseRemovesMovesSpec) false w args)
      (Rows.optimiseRemovesMovesSpec.post enc Tryz.prog Tryz.f5 false true false false):=by
  refine returnsInHanded_of_change_and (C:=Tryz.checked) (X:=λw _=>laidMetH Tryz.prog Rows.optimiseRemovesMovesRow.laid w) (λ_ _ _ hh h=>h.of_heap hh) own started (by kernel_rfl) Tryz.func5
    (ChangeSpec.witness_shaped (enc:=enc) (C:=Tryz.checked) (os:=os) (X:=λw _=>laidMetH Tryz.prog Rows.optimiseRemovesMovesRow.laid w) false (World.doorLaid Tryz.prog 400 os) #[.int .u8 0, .int .u8 0, .int .u8 0] 8 rfl (World.shaped_of_RefB (by kernel_rfl) (by kernel_rfl)) (by kernel_rfl) (by kernel_rfl) (by kernel_rfl) (ArR os _)) ?_
  intro W base args ds gs before hval hW _ hsz hL _
  exact ArO H enc W base args ds gs before (AnT hL rfl (by kernel_rfl) (λg hg=>by
    obtain rfl:g=0:=Option.some.inj (hg.symm.trans (show Tryz.prog.globalNamed "math/bits.deBruijn64tab" = some 0 by kernel_rfl))
    exact(show(Tryz.prog.globals[0]?).map (·.type)=some 223 by kernel_rfl)) Tryz.underlying223 Tryz.underlying5 (by kernel_rfl)) hval hW hsz

theorem over:Rows.OptimiseRemovesMovesSaid :=
  OpenClaim.holds_of_wide 5 Tryz.f5 rfl rfl rfl rfl rfl rfl rfl ⟨rfl, rfl, rfl, rfl, rfl⟩ rfl rfl rfl rfl rfl (by kernel_rfl) Tryz.func5 (by kernel_rfl)
    (of_decide_eq_true (by kernel_rfl)) (by unfold Func.isWrapper;first|(rw[if_pos (by decide +kernel)];kernel_rfl)|(rw[if_neg (by decide +kernel)];exact⟨rfl, rfl⟩))
    (λos started H enc _=>lifted os started H enc)

theorem proved:Rows.OptimiseRemovesMovesCardSaid :=
  Claim7.holds_tied_plain_at .later [] [.data] true (true, "bf68e170c7253951dbfb489f5c973c62f427fe20678502385840cc021337a190") false
    over (λ_ h=>by cases h) (by kernel_rfl) (λ_ h=>by cases h) optimiseRemovesMoves_row_tie rfl ⟨rfl, rfl⟩ (by kernel_rfl) rfl
    (λf fn hf hfn=>by
      obtain rfl:f=5:=Option.some.inj ((show Tryz.prog.funcNamed "spillframe/spillframelaw31.OptimiseRemovesMoves" = some 5 by kernel_rfl).symm.trans hf) |>.symm
      obtain rfl:fn=Tryz.f5:=(Option.some.inj (Tryz.func5.symm.trans hfn)).symm
      exact⟨by kernel_rfl, λj t ht=>by
        rw[Tryz.params5]at ht;have hm:t∈[5, 5, 5]:=by simpa using Array.mem_of_getElem? ht
        have hall:([5, 5, 5].all λu=> !Tryz.prog.wantsStandIn u)=true:=by kernel_rfl
        exact(show Tryz.prog.wantsStandIn t=false by simpa using List.all_eq_true.1 hall t hm)⟩)
    (by kernel_rfl)
end Go.Proofs.YtilmapojncgflaaGreatDoor.lOptimiseRemovesMoves
