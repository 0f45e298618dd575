/-
  ReportDisassembles: for every input the law returns true: its typed program does, and the code does what that program says.
-/
import Derived.Test.YtcppfbhmhlhncaaDoorRows
import Derived.Test.YtcppfbhmhlhncaaDoorDxF
import Derived.Test.YtcppfbhmhlhncaaDoorDd
import Derived.Test.YtcppfbhmhlhncaaDoorTie
import Derived.Test.YtcppfbhmhlhncaaDoorCards
import Derived.LaidMore
import Derived.SevenTiedAt
import Derived.Test.YtcppfbhmhlhncaaDoorPa
namespace Go.Proofs.YtcppfbhmhlhncaaDoor.lReportDisassembles
open Go Go.Dw Go.Proofs Go.Proofs.YtcppfbhmhlhncaaDoor Go.ChangeShapes Go.WideShapes Go.ChangeAt Go.RowKit
theorem own:ownKnob Tryd.prog.godebug=none:=by kernel_rfl
theorem rd5 (W:World):Rd Tryd.prog W 5 eU8 (Sh .u8):=Rd.int Tryd.underlying5
theorem c5:Tryd.prog.cellsOf 5=1:=by kernel_rfl
theorem AeH (W:World):Rd Tryd.prog W 22 (eL eU8) (qL (Sh .u8)):=Rd.slice Tryd.underlying22 (by rw[c5];decide) (by kernel_rfl) (λa=>by rw[c5];rfl) (rd5 W)
theorem rd3 (W:World):Rd Tryd.prog W 3 Rq (Sh .i64):=Rd.int Tryd.underlying3
theorem AeM (W:World):Rd Tryd.prog W 52 AeB (Sh .u64):=Rd.int Tryd.underlying52
theorem c3:Tryd.prog.cellsOf 3=1:=by kernel_rfl
theorem c52:Tryd.prog.cellsOf 52=1:=by kernel_rfl
theorem c54:Tryd.prog.cellsOf 54=5:=by kernel_rfl
theorem AeN (W:World):Rd Tryd.prog W 54 Pr ZE:=Rd.AdH Ed.mk Tryd.underlying54 rfl c3.symm (by rw[c3]) (by rw[c3]) (by rw[c3]) (by rw[c54, c3, c52]) (rd3 W) (rd3 W) (rd3 W) (rd3 W) (AeM W) (λa b c d e=>rfl) (λa b c d e ha hb hc hd he=>⟨ha, hb, hc, hd, he⟩)
theorem AeK (W:World):Rd Tryd.prog W 26 (eL Pr) (qL ZE):=Rd.slice Tryd.underlying26 (by rw[c54];decide) (by kernel_rfl) (λa=>by rw[c54];rfl) (AeN W)
theorem c26:Tryd.prog.cellsOf 26=1:=by kernel_rfl
theorem c28:Tryd.prog.cellsOf 28=3:=by kernel_rfl
theorem AeL (W:World):Rd Tryd.prog W 28 Qm Abh:=Rd.AdG Qk.mk Tryd.underlying28 rfl c3.symm (by rw[c3]) (by rw[c28, c3, c26]) (rd3 W) (rd3 W) (AeK W) (λa b c=>rfl) (λa b c ha hb hc=>⟨ha, hb, hc⟩)
theorem AeI (W:World):Rd Tryd.prog W 23 (eL Qm) (qL Abh):=Rd.slice Tryd.underlying23 (by rw[c28];decide) (by kernel_rfl) (λa=>by rw[c28];rfl) (AeL W)
theorem c23:Tryd.prog.cellsOf 23=1:=by kernel_rfl
theorem c25:Tryd.prog.cellsOf 25=2:=by kernel_rfl
theorem AeJ (W:World):Rd Tryd.prog W 25 RF AbM:=Rd.AdF Pw.mk Tryd.underlying25 rfl c3.symm (by rw[c25, c3, c23]) (rd3 W) (AeI W) (λa b=>rfl) (λa b ha hb=>⟨ha, hb⟩)

set_option maxRecDepth 100000 in
theorem AcQ (H:Type) (enc:TypeId×Value->H) (W:World) (base:Nat) (args:Array Value) (ds gs:List (DataW H)) (before:List MemPlace) (hG:UG Tryd.prog (TB W))
    (hval:∀ (j:Nat) t v, Tryd.f3.params[j]? =some t->args[j]? =some v->Value.okWide Tryd.prog W .any base t v)
    (hW:DataW.Whole enc Tryd.prog Tryd.f3.params.toList Rows.reportDisassemblesSpec.vars false W args.toList ds gs before)
    (hsz:(DataW.weightsEach Tryd.prog (Tryd.f3.params.toList++Rows.reportDisassemblesSpec.plain.varTypes Tryd.prog) (ds++gs)).all (· <=reachBytes)=true) :
    Calls Tryd.prog 3 args W λe W'=>∃ v, e= .returned v/\Rows.reportDisassemblesSpec.post enc Tryd.prog Tryd.f3 false true false false W args v W':=by
  have hW':=hW
  obtain⟨p, q, hA0, hV, rfl, hfz, hnd⟩:=hW
  have hA:DataW.TrodAll enc Tryd.prog W 0 (λ_=>true) true Tryd.f3.params.toList args.toList ds p:=hA0
  rw[Tryd.params3]at hA hval
  obtain⟨v0, vs0, d0, ds0, p0, q0, hargs, rfl, rfl, h0, r0⟩:=trodAll_cons hA
  obtain⟨v1, vs1, d1, ds1, p1, q1, rfl, rfl, rfl, h1, r1⟩:=trodAll_cons r0
  obtain⟨v2, vs2, d2, ds2, p2, q2, rfl, rfl, rfl, h2, r2⟩:=trodAll_cons r1
  obtain⟨rfl, rfl, rfl⟩:=trodAll_nil r2
  obtain rfl:args= #[v0, v1, v2]:=by cases args;simp_all
  obtain⟨a0, k0, f0⟩:=(AeH W).arg (λ_ h=>by rw[Tryd.underlying22]at h;exact h.elim) (λ_ _=>rfl) (hval 0 22 v0 rfl rfl) h0 (Wt.arg hsz (j:=0) (by rw[Tryd.params3];rfl) rfl)
  obtain⟨a1, k1, f1⟩:=(AeJ W).arg (λ_ _=>⟨_, rfl⟩) (λ_ h=>(h (by rw[Tryd.underlying25];trivial)).elim) (hval 1 25 v1 rfl rfl) h1 (Wt.arg hsz (j:=1) (by rw[Tryd.params3];rfl) rfl)
  obtain⟨a2, k2, f2⟩:=(rd3 W).arg (λ_ h=>by rw[Tryd.underlying3]at h;exact h.elim) (λ_ _=>rfl) (hval 2 3 v2 rfl rfl) h2 (Wt.arg hsz (j:=2) (by rw[Tryd.params3];rfl) rfl)
  exact Abd Wl Uc rfl hW' rfl (by kernel_rfl) (by kernel_rfl) (by kernel_rfl) (by kernel_rfl) (by kernel_rfl) Tryd.underlying4 (λds h=>by
    rw[Tryd.params3]at h
    match ds, h with| [_, _, _], _=>rfl) rfl hG ⟨(a0, a1, a2), (.val 0 _ _ _ _ _ rfl (λ_ _ h=>D.noConfusion h) f0 (.val 1 _ _ _ _ _ rfl (λ_ _ h=>D.noConfusion h) f1 (.val 2 _ _ _ _ _ rfl (λ_ _ h=>D.noConfusion h) f2 (.nil _)))), VK a0 a1 a2 k0 k1 k2⟩

theorem AcR (os:Os) (args:Array Value):laidMetH Tryd.prog Rows.reportDisassemblesRow.laid ((World.doorLaid Tryd.prog 400 os).forCall (λ_ _=>0) ⟨#[], args, []⟩).memory :=
  laidMetH_of_parts3 (fuel:=8) (laidMet_of_run' 8 (by kernel_rfl) (by kernel_rfl)) (by kernel_rfl) (by kernel_rfl)
set_option maxRecDepth 100000 in
theorem lifted (os:Os) (started:os.Started) (H:Type) (enc:TypeId×Value->H) :
    ReturnsInHanded {} Tryd.checked os 3 .any (λw args=>(Rows.reportDisassemblesSpec.pre enc Tryd.prog Tryd.f3 [] false w args/\laidMetH Tryd.prog Rows.reportDisassemblesRow.laid w)/\sizedMet enc Tryd.prog Tryd.f3 (OpenSpec.ofChange Rows.reportDisassemblesSpec) false w args)
      (Rows.reportDisassemblesSpec.post enc Tryd.prog Tryd.f3 false true false false):=by
  refine returnsInHanded_of_change_and (C:=Tryd.checked) (X:=λw _=>laidMetH Tryd.prog Rows.reportDisassemblesRow.laid w) (λ_ _ _ hh h=>h.of_heap hh) own started (by kernel_rfl) Tryd.func3
    (ChangeSpec.witness_shaped (enc:=enc) (C:=Tryd.checked) (os:=os) (X:=λw _=>laidMetH Tryd.prog Rows.reportDisassemblesRow.laid w) false (World.doorLaid Tryd.prog 400 os) #[.slice none 0 0, .agg #[.int .i64 0, .slice none 0 0], .int .i64 0] 8 rfl (World.shaped_of_RefB (by kernel_rfl) (by kernel_rfl)) (by kernel_rfl) (by kernel_rfl) (by kernel_rfl) (AcR os _)) ?_
  intro W base args ds gs before hval hW _ hsz hL _
  exact AcQ H enc W base args ds gs before (Acl (AeP (i:=1) (g:=5) hL (by kernel_rfl) rfl ⟨by kernel_rfl, by kernel_rfl, Tryd.underlying135, Tryd.underlying5, by kernel_rfl⟩) (AeQ (i:=2) (g:=3) hL (by kernel_rfl) rfl ⟨by kernel_rfl, by kernel_rfl, Tryd.underlying126, Tryd.underlying52, by kernel_rfl⟩) (Aej (i:=3) (g:=0) hL (by kernel_rfl) rfl ⟨by kernel_rfl, by kernel_rfl, Tryd.underlying89, Tryd.underlying9, by kernel_rfl⟩) (Aej (i:=4) (g:=1) hL (by kernel_rfl) rfl ⟨by kernel_rfl, by kernel_rfl, Tryd.underlying89, Tryd.underlying9, by kernel_rfl⟩) (AeR (by kernel_rfl))) hval hW hsz

theorem over:Rows.ReportDisassemblesSaid :=
  OpenClaim.holds_of_wide 3 Tryd.f3 rfl rfl rfl rfl rfl rfl rfl ⟨rfl, rfl, rfl, rfl, rfl⟩ rfl rfl rfl rfl rfl (by kernel_rfl) Tryd.func3 (by kernel_rfl)
    (of_decide_eq_true (by kernel_rfl)) (by unfold Func.isWrapper;first|(rw[if_pos (by decide +kernel)];kernel_rfl)|(rw[if_neg (by decide +kernel)];exact⟨rfl, rfl⟩))
    (λos started H enc _=>lifted os started H enc)

theorem proved:Rows.ReportDisassemblesCardSaid :=
  Claim7.holds_tied_plain_at .later [] [.data, .data, .data, .data, .data] true (true, "0f22b4c9dc2065c92e0c57b9eae803b8b8e70eb52a4a28fee28092a7a1b7be25") true
    over (λ_ h=>by cases h) (by kernel_rfl) (λ_ h=>by cases h) reportDisassembles_row_tie rfl ⟨rfl, rfl⟩ (by kernel_rfl) rfl
    (λf fn hf hfn=>by
      obtain rfl:f=3:=Option.some.inj ((show Tryd.prog.funcNamed "spillframe/spillframelaw33.ReportDisassembles" = some 3 by kernel_rfl).symm.trans hf) |>.symm
      obtain rfl:fn=Tryd.f3:=(Option.some.inj (Tryd.func3.symm.trans hfn)).symm
      exact⟨by kernel_rfl, λj t ht=>by
        rw[Tryd.params3]at ht
        have hm:t∈[22, 25, 3]:=by simpa using Array.mem_of_getElem? ht
        have hall:([22, 25, 3].all λu=> !Tryd.prog.wantsStandIn u)=true:=by kernel_rfl
        exact(show Tryd.prog.wantsStandIn t=false by simpa using List.all_eq_true.1 hall t hm)⟩)
    (by kernel_rfl)
end Go.Proofs.YtcppfbhmhlhncaaDoor.lReportDisassembles
