/-
  Programs on typed data, and the proofs that the code does what they say; written by a program (dx.py).
-/
import Derived.Test.YtlphpepmbcbmiaaProg
import Derived.Test.YtlphpepmbcbmiaaDx4
import Derived.Test.YtlphpepmbcbmiaaDy1
import Derived.KernelRfl
import Derived.Test.YtlphpepmbcbmiaaDxP
import Derived.Test.YtlphpepmbcbmiaaDxF1
import Derived.Test.YtlphpepmbcbmiaaDxF2
namespace Go.Proofs.Ytlphpepmbcbmiaa
open Go Go.Dw Go.Proofs
set_option maxRecDepth 100000
def dc25 : DCode := (.seq (.reg [⟨(some 1), (.box (.t 0) 3 27), none, []⟩, ⟨(some 2), (.asg (.c .nils) (some ⟨1, 3⟩)), none, []⟩] false) (.seq (.reg [⟨(some 3), (.asg (.c .nils) (some ⟨1, 3⟩)), none, []⟩] false) (.seq (.seq (.reg [⟨(some 6), (.ld 3 true (.t 1)), none, []⟩, ⟨(some 7), (.call (.c (.clo 43 [])) [(.t 6)]), none, []⟩, ⟨(some 8), (.len false (.t 7)), none, []⟩, ⟨(some 9), (.mv (.c (.int .i64 0))), none, []⟩] false) (.block 0 (.loop (.seq (.reg [⟨(some 10), (.bin .lss (.t 9) (.t 8)), none, []⟩] false) (.seq (.cond (.t 10) .skip (.exit 0)) (.seq (.block 1 (.seq (.reg [⟨(some 11), (.mv (.t 9)), none, []⟩, ⟨(some 12), (.ixA 1 (.t 7) (.t 9)), none, []⟩, ⟨(some 13), (.ld 1 false (.t 12)), none, []⟩, ⟨(some 4), (.asg (.t 11) none), none, []⟩, ⟨(some 5), (.asg (.t 13) none), none, []⟩] false) (.seq (.reg [⟨(some 14), (.mv (.t 5)), none, []⟩] false) (.cond (.t 14) (.reg [⟨(some 15), (.mv (.t 3)), none, []⟩, ⟨(some 16), (.mv (.t 4)), none, []⟩, ⟨(some 17), (.bldS 1 3 (.int .i64 0) 1 [⟨0, (.t 16)⟩]), none, []⟩, ⟨(some 18), (.app 1 3 8 (.t 15) (.t 17)), none, []⟩, ⟨(some 3), (.asg (.t 18) (some ⟨1, 3⟩)), none, []⟩] false) .skip)))) (.reg [⟨(some 19), (.bin .add (.t 9) (.c (.int .i64 1))), none, []⟩, ⟨(some 9), (.mv (.t 19)), none, []⟩] false))))))) (.seq (.reg [⟨(some 20), (.mv (.t 3)), none, []⟩, ⟨(some 2), (.asg (.t 20) (some ⟨1, 3⟩)), none, []⟩] false) .ret))))
theorem dc25_c : (Try.f25.body.bind (cCode Try.prog Try.f25.ntmps)) = some dc25 := by kernel_rfl
theorem dc25_r : Try.f25.results.toList.mapM (cRes Try.prog) = some [(.t 2)] := by kernel_rfl
def flow_Leaders_enc (a : TFunc) : List D := [eFunc a]
def flow_Leaders_dec (ds : List D) : TFunc := uFunc (ds.getD 0 .top)
theorem flow_Leaders_de (a : TFunc) : flow_Leaders_dec (flow_Leaders_enc a) = a := by simp [flow_Leaders_dec, flow_Leaders_enc, uI, uBo, uS]
def flow_Leaders_R (b : (List Int)) : D := .sl (b.map eI64)
def flow_Leaders_E (_b : (List Int)) : List D := []
noncomputable def flow_Leaders_S : Dw.Spec := fSpec [] (.row 1 3) flow_Leaders_enc flow_Leaders_dec (fun a => flow_Leaders a) flow_Leaders_R flow_Leaders_E
set_option maxHeartbeats 4000000 in
theorem flow_Leaders_ok : SpecOk Try.prog 25 flow_Leaders_S := by
  refine fn_ok (specs_ok (l := [(43, flow_leads_S)]) (by simp [flow_leads_ok])) Try.func25 (by decide) dc25_c dc25_r (np := 1) (by decide) flow_Leaders_de (fun _ => rfl) ?_
  intro f1
  show Tr (specs [(43, flow_leads_S)]) dc25 (kRet [] (.row 1 3) [(.t 2)] 1 flow_Leaders_R flow_Leaders_E) ⟨[(0, .agg [.int .i64 f1.Params, .sl (f1.Slots.map eSlot), .sl (f1.Code.map eInstr)])], [], 1⟩ (flow_Leaders f1)
  unfold dc25 flow_Leaders
  refine tr_seq ?_
  refine tr_reg ?_
  refine trO_box rfl rfl rfl rfl rfl ?_
  refine trO_asg_nil (α := Int) rfl eI64 rfl ?_
  refine trO_nil ?_
  refine trX_seq ?_
  refine tr_seq ?_
  refine tr_reg ?_
  refine trO_asg_nil (α := Int) rfl eI64 rfl ?_
  refine trO_nil ?_
  refine trX_seq ?_
  refine tr_seq ?_
  refine tr_seq ?_
  refine tr_reg ?_
  refine trO_ld_obj (v := .agg [.int .i64 f1.Params, .sl (f1.Slots.map eSlot), .sl (f1.Code.map eInstr)]) (z := .agg [.int .i64 f1.Params, .sl (f1.Slots.map eSlot), .sl (f1.Code.map eInstr)]) rfl rfl rfl rfl rfl rfl ?_
  refine trO_bind fun r2 hr2 => ?_
  refine trO_call_row (l := r2) (en := D.bool) f1 rfl rfl rfl flow_leads_de rfl rfl (by simp) rfl hr2 rfl ?_
  refine trO_len_own rfl rfl ?_
  refine trO_mv rfl rfl ?_
  refine trO_nil ?_
  refine trX_seq ?_
  refine tr_block ?_
  refine tr_loop (E := fun (s : (List Int) × Int) (g : Nat × Nat) => [(3, .osl 3 g.1 0 s.1.length), (7, .osl 7 g.2 0 r2.length), (8, .int .i64 (r2.length : Int)), (9, .int .i64 s.2)]) (O := fun s g => [(3, some (g.1, ⟨false, false, 1, 3, s.1.map eI64⟩)), (7, some (g.2, ⟨false, false, 1, 4, r2.map D.bool⟩))]) (body := fun s => flow_Leaders_b1 r2 s.1 s.2) (s := (([] : List Int), 0)) (_, _) (has_exact ⟨rfl, rfl, rfl, rfl, trivial⟩ ⟨rfl, rfl, trivial⟩) ?_
  rintro ⟨l3, x4⟩ ⟨v3, v7⟩ nn
  show Tr _ _ _ ⟨[(3, .osl 3 v3 0 l3.length), (7, .osl 7 v7 0 r2.length), (8, .int .i64 (r2.length : Int)), (9, .int .i64 x4)], [(3, some (v3, ⟨false, false, 1, 3, l3.map eI64⟩)), (7, some (v7, ⟨false, false, 1, 4, r2.map D.bool⟩))], _⟩ (flow_Leaders_b1 r2 l3 x4)
  unfold flow_Leaders_b1
  refine tr_seq ?_
  refine tr_reg ?_
  refine trO_bin (v := .bool (decide (x4 < (r2.length : Int)))) rfl rfl rfl rfl rfl ?_
  refine trO_nil ?_
  refine trX_seq ?_
  refine tr_seq ?_
  refine tr_cond (c := (decide (x4 < (r2.length : Int)))) rfl ?_ ?_
  ·
    refine tr_skip ?_
    refine trX_seq ?_
    refine tr_seq ?_
    refine tr_block ?_
    refine tr_seq ?_
    refine tr_reg ?_
    refine trO_mv rfl rfl ?_
    refine trO_chk fun hq => ?_
    refine trO_ixA_own (l := r2) (en := D.bool) rfl rfl rfl rfl rfl hq ?_
    refine trO_bind fun x_e5 hx_e5 => ?_
    refine trO_ld_obj (v := .bool x_e5) (z := D.bool x_e5) rfl rfl rfl (map_get hx_e5) rfl rfl ?_
    refine trO_asg rfl rfl ?_
    refine trO_asg rfl rfl ?_
    refine trO_nil ?_
    refine trX_seq ?_
    refine tr_seq ?_
    refine tr_reg ?_
    refine trO_mv rfl rfl ?_
    refine trO_nil ?_
    refine trX_seq ?_
    refine tr_cond (c := x_e5) rfl ?_ ?_
    ·
      refine tr_reg ?_
      refine trO_mv rfl rfl ?_
      refine trO_mv rfl rfl ?_
      refine trO_bldS ([x4] : List Int) eI64 rfl rfl rfl (by simp) rfl rfl rfl ?_
      refine trO_chk fun hq => ?_
      refine trO_app (l3) (([x4] : List Int)) eI64 rfl rfl rfl rfl rfl rfl rfl (by simp) (take_drop0_map' _ _ rfl) rfl rfl (by simp) (take_len_map' _ _ rfl) (fun _ => rfl) rfl hq ?_
      refine trO_asg_own (l := l3 ++ ([x4] : List Int)) (en := eI64) rfl rfl rfl rfl ?_
      refine trO_nil ?_
      refine trX_blk_normal ?_
      refine trX_seq ?_
      refine tr_reg ?_
      refine trO_bin (v := .int .i64 (IntKind.i64.wrap (x4 + 1))) rfl rfl rfl rfl rfl ?_
      refine trO_mv rfl rfl ?_
      refine trO_nil ?_
      exact trX_loop (s := (l3 ++ ([x4] : List Int), IntKind.i64.wrap (x4 + 1))) (_, _) (has_exact ⟨rfl, rfl, rfl, rfl, trivial⟩ ⟨rfl, rfl, trivial⟩)
    ·
      refine tr_skip ?_
      refine trX_blk_normal ?_
      refine trX_seq ?_
      refine tr_reg ?_
      refine trO_bin (v := .int .i64 (IntKind.i64.wrap (x4 + 1))) rfl rfl rfl rfl rfl ?_
      refine trO_mv rfl rfl ?_
      refine trO_nil ?_
      exact trX_loop (s := (l3, IntKind.i64.wrap (x4 + 1))) (_, _) (has_exact ⟨rfl, rfl, rfl, rfl, trivial⟩ ⟨rfl, rfl, trivial⟩)
  ·
    refine tr_exit ?_
    refine trX_seq_exit ?_
    refine trX_loop_exit ?_
    refine trX_blk_here ?_
    refine trX_seq ?_
    refine tr_seq ?_
    refine tr_reg ?_
    refine trO_mv rfl rfl ?_
    refine trO_asg_own (l := l3) (en := eI64) rfl rfl rfl rfl ?_
    refine trO_nil ?_
    refine trX_seq ?_
    refine tr_ret ?_
    exact ret_row (b := l3) rfl (by first | (simp; done) | (simp; omega)) rfl rfl (by first | (simp; done) | (simp; omega)) rfl (by first | (simp; done) | (simp; omega)) (congrArg D.sl (take_len_map' _ _ rfl)) rfl

def dc7 : DCode := (.seq (.reg [⟨(some 2), (.asg (.c (.bool false)) none), none, []⟩] false) (.seq (.seq (.reg [⟨(some 10), (.call (.c (.clo 12 [])) []), none, []⟩, ⟨(some 11), (.un .not (.t 10)), none, []⟩] false) (.cond (.t 11) (.seq (.reg [⟨(some 2), (.asg (.c (.bool false)) none), none, []⟩] false) .ret) .skip)) (.seq (.reg [⟨(some 13), (.mv (.t 0)), none, []⟩, ⟨(some 14), (.call (.c (.clo 13 [])) [(.t 13)]), none, []⟩, ⟨(some 12), (.mv (.t 14)), none, []⟩, ⟨(some 15), (.ext (.t 12) 0), none, []⟩, ⟨(some 16), (.ext (.t 12) 1), none, []⟩, ⟨(some 3), (.new (.agg [(.int .i64 0), .nils, .nils]) 3 27), none, []⟩, ⟨none, (.st 3 (.t 3) (.t 15)), none, []⟩, ⟨(some 4), (.asg (.t 16) none), none, []⟩] false) (.seq (.reg [⟨(some 17), (.ld 3 true (.t 3)), none, []⟩, ⟨(some 18), (.call (.c (.clo 25 [])) [(.t 17)]), none, []⟩, ⟨(some 5), (.asg (.t 18) (some ⟨1, 3⟩)), none, []⟩] false) (.seq (.reg [⟨(some 6), (.asg (.c (.int .i64 0)) none), none, []⟩] false) (.seq (.seq (.reg [⟨(some 7), (.asg (.c (.int .i64 0)) none), none, []⟩] false) (.block 0 (.loop (.seq (.seq (.reg [⟨(some 19), (.mv (.t 7)), none, []⟩, ⟨(some 20), (.mv (.t 5)), none, []⟩, ⟨(some 21), (.len false (.t 20)), none, []⟩, ⟨(some 22), (.bin .lss (.t 19) (.t 21)), none, []⟩] false) (.cond (.t 22) .skip (.exit 0))) (.seq (.block 1 (.seq (.reg [⟨(some 25), (.ld 3 true (.t 3)), none, []⟩, ⟨(some 26), (.mv (.t 5)), none, []⟩, ⟨(some 27), (.mv (.t 7)), none, []⟩, ⟨(some 28), (.ixA 1 (.t 26) (.t 27)), none, [1, 2]⟩, ⟨(some 29), (.ld 1 false (.t 28)), none, [3]⟩, ⟨(some 30), (.call (.c (.clo 23 [])) [(.t 25), (.t 29)]), none, [0, 4]⟩, ⟨(some 8), (.new (.agg [(.int .i64 0), (.int .i64 0)]) 2 43), none, []⟩, ⟨none, (.st 2 (.t 8) (.t 30)), none, [6, 5, 5, 0, 1, 2, 3, 4, 5, 6]⟩] true) (.seq (.seq (.reg [⟨(some 31), (.fldA 0 (.t 8)), none, []⟩, ⟨(some 32), (.ld 1 false (.t 31)), none, [0]⟩, ⟨(some 33), (.mv (.t 5)), none, []⟩, ⟨(some 34), (.mv (.t 7)), none, []⟩, ⟨(some 35), (.ixA 1 (.t 33) (.t 34)), none, [2, 3]⟩, ⟨(some 36), (.ld 1 false (.t 35)), none, [4]⟩, ⟨(some 37), (.bin .neq (.t 32) (.t 36)), none, [1, 5]⟩, ⟨(some 38), (.mv (.t 37)), none, [6]⟩, ⟨(some 39), (.fldA 0 (.t 8)), (some ⟨38, false⟩), [7]⟩, ⟨(some 40), (.ld 1 false (.t 39)), (some ⟨38, false⟩), [8, 7]⟩, ⟨(some 41), (.mv (.t 6)), (some ⟨38, false⟩), [7]⟩, ⟨(some 42), (.bin .neq (.t 40) (.t 41)), (some ⟨38, false⟩), [9, 10, 7]⟩, ⟨(some 43), (.pick (.t 38) (.c (.bool true)) (.t 42)), none, [7, 11]⟩, ⟨(some 44), (.mv (.t 43)), none, [12, 7]⟩, ⟨(some 45), (.fldA 1 (.t 8)), (some ⟨44, false⟩), [13]⟩, ⟨(some 46), (.ld 1 false (.t 45)), (some ⟨44, false⟩), [14, 13]⟩, ⟨(some 47), (.bin .lss (.t 46) (.c (.int .i64 1))), (some ⟨44, false⟩), [15, 13]⟩, ⟨(some 48), (.pick (.t 44) (.c (.bool true)) (.t 47)), none, [13, 16]⟩, ⟨(some 49), (.mv (.t 48)), none, [17, 13]⟩, ⟨(some 50), (.fldA 0 (.t 8)), (some ⟨49, false⟩), [18]⟩, ⟨(some 51), (.ld 1 false (.t 50)), (some ⟨49, false⟩), [19, 18]⟩, ⟨(some 52), (.fldA 1 (.t 8)), (some ⟨49, false⟩), [18]⟩, ⟨(some 53), (.ld 1 false (.t 52)), (some ⟨49, false⟩), [21, 18]⟩, ⟨(some 54), (.bin .add (.t 51) (.t 53)), (some ⟨49, false⟩), [20, 22, 18]⟩, ⟨(some 55), (.fldA 2 (.t 3)), (some ⟨49, false⟩), [18]⟩, ⟨(some 56), (.ld 1 false (.t 55)), (some ⟨49, false⟩), [24, 18]⟩, ⟨(some 57), (.len false (.t 56)), (some ⟨49, false⟩), [25, 18]⟩, ⟨(some 58), (.bin .gtr (.t 54) (.t 57)), (some ⟨49, false⟩), [23, 26, 18]⟩, ⟨(some 59), (.pick (.t 49) (.c (.bool true)) (.t 58)), none, [18, 27]⟩] true) (.cond (.t 59) (.seq (.reg [⟨(some 2), (.asg (.c (.bool false)) none), none, []⟩] false) .ret) .skip)) (.seq (.seq (.reg [⟨(some 60), (.fldA 0 (.t 8)), none, []⟩, ⟨(some 61), (.ld 1 false (.t 60)), none, []⟩, ⟨(some 9), (.asg (.t 61) none), none, []⟩] false) (.block 2 (.loop (.seq (.seq (.reg [⟨(some 62), (.mv (.t 9)), none, []⟩, ⟨(some 63), (.fldA 0 (.t 8)), none, []⟩, ⟨(some 64), (.ld 1 false (.t 63)), none, []⟩, ⟨(some 65), (.fldA 1 (.t 8)), none, []⟩, ⟨(some 66), (.ld 1 false (.t 65)), none, []⟩, ⟨(some 67), (.bin .add (.t 64) (.t 66)), none, []⟩, ⟨(some 68), (.bin .sub (.t 67) (.c (.int .i64 1))), none, []⟩, ⟨(some 69), (.bin .lss (.t 62) (.t 68)), none, []⟩] false) (.cond (.t 69) .skip (.exit 2))) (.seq (.block 3 (.seq (.reg [⟨(some 72), (.ld 3 true (.t 3)), none, []⟩, ⟨(some 73), (.mv (.t 9)), none, []⟩, ⟨(some 74), (.call (.c (.clo 15 [])) [(.t 72), (.t 73)]), none, [0, 1]⟩, ⟨(some 75), (.mv (.t 9)), none, []⟩, ⟨(some 76), (.bin .add (.t 75) (.c (.int .i64 1))), none, [3]⟩, ⟨(some 77), (.bldS 1 3 (.int .i64 0) 1 [⟨0, (.t 76)⟩]), none, [4]⟩, ⟨(some 78), (.call (.c (.clo 14 [])) [(.t 74), (.t 77)]), none, [2, 5, 2]⟩, ⟨(some 79), (.un .not (.t 78)), none, [6]⟩, ⟨(some 80), (.mv (.t 79)), none, [7, 6]⟩, ⟨(some 81), (.ld 3 true (.t 3)), (some ⟨80, false⟩), [8]⟩, ⟨(some 82), (.mv (.t 9)), (some ⟨80, false⟩), [8]⟩, ⟨(some 83), (.call (.c (.clo 23 [])) [(.t 81), (.t 82)]), (some ⟨80, false⟩), [9, 10, 8, 8]⟩, ⟨(some 84), (.ld 2 true (.t 8)), (some ⟨80, false⟩), [8]⟩, ⟨(some 85), (.eqA 2 true (.t 83) (.t 84)), (some ⟨80, false⟩), [11, 12, 8]⟩, ⟨(some 86), (.pick (.t 80) (.c (.bool true)) (.t 85)), none, [8, 13]⟩] true) (.cond (.t 86) (.seq (.reg [⟨(some 2), (.asg (.c (.bool false)) none), none, []⟩] false) .ret) .skip))) (.reg [⟨(some 70), (.mv (.t 9)), none, []⟩, ⟨(some 71), (.bin .add (.t 70) (.c (.int .i64 1))), none, []⟩, ⟨(some 9), (.asg (.t 71) none), none, []⟩] false)))))) (.reg [⟨(some 87), (.mv (.t 6)), none, []⟩, ⟨(some 88), (.fldA 1 (.t 8)), none, []⟩, ⟨(some 89), (.ld 1 false (.t 88)), none, []⟩, ⟨(some 90), (.bin .add (.t 87) (.t 89)), none, []⟩, ⟨(some 6), (.asg (.t 90) none), none, []⟩] false))))) (.reg [⟨(some 23), (.mv (.t 7)), none, []⟩, ⟨(some 24), (.bin .add (.t 23) (.c (.int .i64 1))), none, []⟩, ⟨(some 7), (.asg (.t 24) none), none, []⟩] false)))))) (.seq (.reg [⟨(some 91), (.mv (.t 6)), none, []⟩, ⟨(some 92), (.fldA 2 (.t 3)), none, []⟩, ⟨(some 93), (.ld 1 false (.t 92)), none, []⟩, ⟨(some 94), (.len false (.t 93)), none, []⟩, ⟨(some 95), (.bin .eql (.t 91) (.t 94)), none, []⟩, ⟨(some 2), (.asg (.t 95) none), none, []⟩] false) .ret)))))))
theorem dc7_c : (Try.f7.body.bind (cCode Try.prog Try.f7.ntmps)) = some dc7 := by kernel_rfl
theorem dc7_r : Try.f7.results.toList.mapM (cRes Try.prog) = some [(.t 2)] := by kernel_rfl
def law13_FlowBlocksDivideTheCode_enc (a : (List Int)) : List D := [.sl (a.map eU8)]
def law13_FlowBlocksDivideTheCode_dec (ds : List D) : (List Int) := (uL uI) (ds.getD 0 .top)
theorem law13_FlowBlocksDivideTheCode_de (a : (List Int)) : law13_FlowBlocksDivideTheCode_dec (law13_FlowBlocksDivideTheCode_enc a) = a := by simp [law13_FlowBlocksDivideTheCode_dec, law13_FlowBlocksDivideTheCode_enc, uI, uBo, uS, uL_e (u := uI) (en := eU8) (fun _ => rfl)]
def law13_FlowBlocksDivideTheCode_R (b : Bool) : D := .bool b
def law13_FlowBlocksDivideTheCode_E (_b : Bool) : List D := []
noncomputable def law13_FlowBlocksDivideTheCode_S : Dw.Spec := fSpec [] .ground law13_FlowBlocksDivideTheCode_enc law13_FlowBlocksDivideTheCode_dec (fun a => law13_FlowBlocksDivideTheCode a) law13_FlowBlocksDivideTheCode_R law13_FlowBlocksDivideTheCode_E
set_option maxHeartbeats 4000000 in
theorem law13_FlowBlocksDivideTheCode_ok : SpecOk Try.prog 7 law13_FlowBlocksDivideTheCode_S := by
  refine fn_ok (specs_ok (l := [(12, law13_awake_S), (13, law13_function_S), (25, flow_Leaders_S), (23, flow_Block_S), (15, flow_Next_S), (14, ref04_Same_S)]) (by simp [law13_awake_ok, law13_function_ok, flow_Leaders_ok, flow_Block_ok, flow_Next_ok, ref04_Same_ok])) Try.func7 (by decide) dc7_c dc7_r (np := 1) (by decide) law13_FlowBlocksDivideTheCode_de (fun _ => rfl) ?_
  intro codes1
  show Tr (specs [(12, law13_awake_S), (13, law13_function_S), (25, flow_Leaders_S), (23, flow_Block_S), (15, flow_Next_S), (14, ref04_Same_S)]) dc7 (kRet [] .ground [(.t 2)] 1 law13_FlowBlocksDivideTheCode_R law13_FlowBlocksDivideTheCode_E) ⟨[(0, .sl (codes1.map eU8))], [], 1⟩ (law13_FlowBlocksDivideTheCode codes1)
  unfold dc7 law13_FlowBlocksDivideTheCode
  refine tr_seq ?_
  refine tr_reg ?_
  refine trO_asg rfl rfl ?_
  refine trO_nil ?_
  refine trX_seq ?_
  refine tr_seq ?_
  refine tr_seq ?_
  refine tr_reg ?_
  refine trO_bind fun r2 hr2 => ?_
  refine trO_call_ground () rfl rfl rfl law13_awake_de rfl rfl (by simp) rfl hr2 rfl ?_
  refine trO_un (w := .bool (!r2)) rfl rfl rfl rfl trivial ?_
  refine trO_nil ?_
  refine trX_seq ?_
  refine tr_cond (c := (!r2)) rfl ?_ ?_
  ·
    refine tr_seq ?_
    refine tr_reg ?_
    refine trO_asg rfl rfl ?_
    refine trO_nil ?_
    refine trX_seq ?_
    refine tr_ret ?_
    refine trX_seq_ret ?_
    exact ret_ground (b := false) rfl (by first | (simp; done) | (simp; omega)) rfl rfl (by first | (simp; done) | (simp; omega)) rfl
  ·
    refine tr_skip ?_
    refine trX_seq ?_
    refine tr_seq ?_
    refine tr_reg ?_
    refine trO_mv rfl rfl ?_
    refine trO_bind fun r3 hr3 => ?_
    refine trO_call_tupPtr (rs := [eFunc r3.1, edraw_Codes r3.2]) (z := edraw_Codes r3.2) codes1 rfl rfl rfl law13_function_de rfl rfl (by simp) rfl hr3 rfl rfl ?_
    refine trO_mv rfl rfl ?_
    refine trO_ext (v := .agg [.int .i64 r3.1.Params, .sl (r3.1.Slots.map eSlot), .sl (r3.1.Code.map eInstr)]) rfl rfl rfl ?_
    refine trO_ext (v := .optr 14 _ 0 0) rfl rfl rfl ?_
    refine trO_new rfl ?_
    refine trO_st_var (z' := .agg [.int .i64 r3.1.Params, .sl (r3.1.Slots.map eSlot), .sl (r3.1.Code.map eInstr)]) rfl rfl rfl rfl rfl rfl rfl rfl rfl ?_
    refine trO_asg rfl rfl ?_
    refine trO_nil ?_
    refine trX_seq ?_
    refine tr_seq ?_
    refine tr_reg ?_
    refine trO_ld_obj (v := .agg [.int .i64 r3.1.Params, .sl (r3.1.Slots.map eSlot), .sl (r3.1.Code.map eInstr)]) (z := .agg [.int .i64 r3.1.Params, .sl (r3.1.Slots.map eSlot), .sl (r3.1.Code.map eInstr)]) rfl rfl rfl rfl rfl rfl ?_
    refine trO_bind fun r4 hr4 => ?_
    refine trO_call_row (l := r4) (en := eI64) r3.1 rfl rfl rfl flow_Leaders_de rfl rfl (by simp) rfl hr4 rfl ?_
    refine trO_asg_own (l := r4) (en := eI64) rfl rfl rfl rfl ?_
    refine trO_nil ?_
    refine trX_seq ?_
    refine tr_seq ?_
    refine tr_reg ?_
    refine trO_asg rfl rfl ?_
    refine trO_nil ?_
    refine trX_seq ?_
    refine tr_seq ?_
    refine tr_seq ?_
    refine tr_reg ?_
    refine trO_asg rfl rfl ?_
    refine trO_nil ?_
    refine trX_seq ?_
    refine tr_block ?_
    refine tr_loop (E := fun (s : Int × Int) (g : Nat × Nat) => [(3, .optr 3 g.1 0 0), (5, .osl 5 g.2 0 r4.length), (6, .int .i64 s.1), (7, .int .i64 s.2)]) (O := fun s g => [(3, some (g.1, ⟨false, true, 3, 27, [.agg [.int .i64 r3.1.Params, .sl (r3.1.Slots.map eSlot), .sl (r3.1.Code.map eInstr)]]⟩)), (5, some (g.2, ⟨false, false, 1, 3, r4.map eI64⟩))]) (body := fun s => law13_FlowBlocksDivideTheCode_b1 r4 r3 s.1 s.2) (s := (0, 0)) (_, _) (has_exact ⟨rfl, rfl, rfl, rfl, trivial⟩ ⟨rfl, rfl, trivial⟩) ?_
    rintro ⟨at5, i6⟩ ⟨v3, v5⟩ nn
    show Tr _ _ _ ⟨[(3, .optr 3 v3 0 0), (5, .osl 5 v5 0 r4.length), (6, .int .i64 at5), (7, .int .i64 i6)], [(3, some (v3, ⟨false, true, 3, 27, [.agg [.int .i64 r3.1.Params, .sl (r3.1.Slots.map eSlot), .sl (r3.1.Code.map eInstr)]]⟩)), (5, some (v5, ⟨false, false, 1, 3, r4.map eI64⟩))], _⟩ (law13_FlowBlocksDivideTheCode_b1 r4 r3 at5 i6)
    unfold law13_FlowBlocksDivideTheCode_b1
    refine tr_seq ?_
    refine tr_seq ?_
    refine tr_reg ?_
    refine trO_mv rfl rfl ?_
    refine trO_mv rfl rfl ?_
    refine trO_len_own rfl rfl ?_
    refine trO_bin (v := .bool (decide (i6 < (r4.length : Int)))) rfl rfl rfl rfl rfl ?_
    refine trO_nil ?_
    refine trX_seq ?_
    refine tr_cond (c := (decide (i6 < (r4.length : Int)))) rfl ?_ ?_
    ·
      refine tr_skip ?_
      refine trX_seq ?_
      refine tr_seq_blk_cut (E := fun (s : Int × Int × Int × Bool × Int × Bool × Int × Int × Int × Bool × Int) (g : Nat × Nat × Nat) => [(3, .optr 3 g.1 0 0), (5, .osl 5 g.2.1 0 r4.length), (6, .int .i64 s.2.2.2.2.2.2.2.2.2.2), (7, .int .i64 i6), (39, .optr 8 g.2.2 0 0), (40, .int .i64 s.2.2.1), (41, .int .i64 at5), (42, .bool s.2.2.2.1), (45, .optr 8 g.2.2 0 1), (46, .int .i64 s.2.2.2.2.1), (47, .bool s.2.2.2.2.2.1), (50, .optr 8 g.2.2 0 0), (51, .int .i64 s.2.2.2.2.2.2.1), (52, .optr 8 g.2.2 0 1), (53, .int .i64 s.2.2.2.2.2.2.2.1), (54, .int .i64 s.2.2.2.2.2.2.2.2.1), (55, .optr 3 g.1 0 2), (56, .sl (r3.1.Code.map eInstr)), (57, .int .i64 (r3.1.Code.length : Int)), (58, .bool s.2.2.2.2.2.2.2.2.2.1)]) (O := fun s g => [(3, some (g.1, ⟨false, true, 3, 27, [.agg [.int .i64 r3.1.Params, .sl (r3.1.Slots.map eSlot), .sl (r3.1.Code.map eInstr)]]⟩)), (5, some (g.2.1, ⟨false, false, 1, 3, r4.map eI64⟩)), (8, some (g.2.2, ⟨false, true, 2, 43, [.agg [.int .i64 s.1, .int .i64 s.2.1]]⟩))]) (j := fun s => law13_FlowBlocksDivideTheCode_j2 i6 s.1 s.2.1 s.2.2.1 s.2.2.2.1 s.2.2.2.2.1 s.2.2.2.2.2.1 s.2.2.2.2.2.2.1 s.2.2.2.2.2.2.2.1 s.2.2.2.2.2.2.2.2.1 s.2.2.2.2.2.2.2.2.2.1 s.2.2.2.2.2.2.2.2.2.2) ?_ ?_
      ·
        refine tr_seq ?_
        refine tr_reg ?_
        refine trO_ld_obj (v := .agg [.int .i64 r3.1.Params, .sl (r3.1.Slots.map eSlot), .sl (r3.1.Code.map eInstr)]) (z := .agg [.int .i64 r3.1.Params, .sl (r3.1.Slots.map eSlot), .sl (r3.1.Code.map eInstr)]) rfl rfl rfl rfl rfl rfl ?_
        refine trO_mv rfl rfl ?_
        refine trO_mv rfl rfl ?_
        refine trO_chk fun hq => ?_
        refine trO_ixA_own (l := r4) (en := eI64) rfl rfl rfl rfl rfl hq ?_
        refine trO_bind fun l_e18 hl_e18 => ?_
        refine trO_ld_obj (v := .int .i64 l_e18) (z := eI64 l_e18) rfl rfl rfl (map_get hl_e18) rfl rfl ?_
        refine trO_bind fun r19 hr19 => ?_
        refine trO_call_ground (r3.1, l_e18) rfl rfl rfl flow_Block_de rfl rfl (by simp) rfl hr19 rfl ?_
        refine trO_new rfl ?_
        refine trO_st_var (z' := .agg [.int .i64 r19.Off, .int .i64 r19.Size]) rfl rfl rfl rfl rfl rfl rfl rfl rfl ?_
        refine trO_nil_draw (by kernel_rfl) ?_
        refine trX_seq ?_
        refine tr_seq_cut (E := fun (s : Unit) (g : Nat × Nat × Nat) => [(3, .optr 3 g.1 0 0), (5, .osl 5 g.2.1 0 r4.length), (6, .int .i64 at5), (7, .int .i64 i6), (8, .optr 8 g.2.2 0 0), (39, .optr 8 g.2.2 0 0), (40, .int .i64 r19.Off), (41, .int .i64 at5), (42, .bool (r19.Off != at5)), (45, .optr 8 g.2.2 0 1), (46, .int .i64 r19.Size), (47, .bool (decide (r19.Size < 1))), (50, .optr 8 g.2.2 0 0), (51, .int .i64 r19.Off), (52, .optr 8 g.2.2 0 1), (53, .int .i64 r19.Size), (54, .int .i64 (IntKind.i64.wrap (r19.Off + r19.Size))), (55, .optr 3 g.1 0 2), (56, .sl (r3.1.Code.map eInstr)), (57, .int .i64 (r3.1.Code.length : Int)), (58, .bool (decide ((IntKind.i64.wrap (r19.Off + r19.Size)) > (r3.1.Code.length : Int))))]) (O := fun s g => [(3, some (g.1, ⟨false, true, 3, 27, [.agg [.int .i64 r3.1.Params, .sl (r3.1.Slots.map eSlot), .sl (r3.1.Code.map eInstr)]]⟩)), (5, some (g.2.1, ⟨false, false, 1, 3, r4.map eI64⟩)), (8, some (g.2.2, ⟨false, true, 2, 43, [.agg [.int .i64 r19.Off, .int .i64 r19.Size]]⟩))]) (j := fun s => law13_FlowBlocksDivideTheCode_j3 r19 r3 i6 at5) ?_ ?_
        ·
          refine tr_seq ?_
          refine tr_reg ?_
          refine trO_fldA rfl rfl ?_
          refine trO_ld_obj (v := .int .i64 r19.Off) (z := .agg [.int .i64 r19.Off, .int .i64 r19.Size]) rfl rfl rfl rfl rfl rfl ?_
          refine trO_mv rfl rfl ?_
          refine trO_mv rfl rfl ?_
          refine trO_chk fun hq => ?_
          refine trO_ixA_own (l := r4) (en := eI64) rfl rfl rfl rfl rfl hq ?_
          refine trO_bind fun l_e20 hl_e20 => ?_
          refine trO_ld_obj (v := .int .i64 l_e20) (z := eI64 l_e20) rfl rfl rfl (map_get hl_e20) rfl rfl ?_
          refine trO_bin (v := .bool (r19.Off != l_e20)) rfl rfl rfl rfl rfl ?_
          refine trO_mv rfl rfl ?_
          refine trO_split 38 (b := (r19.Off != l_e20)) rfl ?_ ?_
          ·
            refine trO_off rfl ?_
            refine trO_off rfl ?_
            refine trO_off rfl ?_
            refine trO_off rfl ?_
            refine trO_pick_true rfl rfl rfl rfl ?_
            refine trO_mv rfl rfl ?_
            refine trO_off rfl ?_
            refine trO_off rfl ?_
            refine trO_off rfl ?_
            refine trO_pick_true rfl rfl rfl rfl ?_
            refine trO_mv rfl rfl ?_
            refine trO_off rfl ?_
            refine trO_off rfl ?_
            refine trO_off rfl ?_
            refine trO_off rfl ?_
            refine trO_off rfl ?_
            refine trO_off rfl ?_
            refine trO_off rfl ?_
            refine trO_off rfl ?_
            refine trO_off rfl ?_
            refine trO_pick_true rfl rfl rfl rfl ?_
            refine trO_nil_draw (by kernel_rfl) ?_
            refine trX_seq ?_
            refine tr_cond_true rfl ?_
            refine tr_seq ?_
            refine tr_reg ?_
            refine trO_asg rfl rfl ?_
            refine trO_nil ?_
            refine trX_seq ?_
            refine tr_ret ?_
            refine trX_cut_ret ?_
            refine trX_bcut_ret ?_
            refine trX_loop_ret ?_
            refine trX_blk_ret ?_
            refine trX_seq_ret ?_
            exact ret_ground (b := false) rfl (by first | (simp; done) | (simp; omega)) rfl rfl (by first | (simp; done) | (simp; omega)) rfl
          ·
            refine trO_fldA rfl rfl ?_
            refine trO_ld_obj (v := .int .i64 r19.Off) (z := .agg [.int .i64 r19.Off, .int .i64 r19.Size]) rfl rfl rfl rfl rfl rfl ?_
            refine trO_mv rfl rfl ?_
            refine trO_bin (v := .bool (r19.Off != at5)) rfl rfl rfl rfl rfl ?_
            refine trO_pick_false rfl rfl rfl rfl ?_
            refine trO_mv rfl rfl ?_
            refine trO_split 44 (b := (r19.Off != at5)) rfl ?_ ?_
            ·
              refine trO_off rfl ?_
              refine trO_off rfl ?_
              refine trO_off rfl ?_
              refine trO_pick_true rfl rfl rfl rfl ?_
              refine trO_mv rfl rfl ?_
              refine trO_off rfl ?_
              refine trO_off rfl ?_
              refine trO_off rfl ?_
              refine trO_off rfl ?_
              refine trO_off rfl ?_
              refine trO_off rfl ?_
              refine trO_off rfl ?_
              refine trO_off rfl ?_
              refine trO_off rfl ?_
              refine trO_pick_true rfl rfl rfl rfl ?_
              refine trO_nil_draw (by kernel_rfl) ?_
              refine trX_seq ?_
              refine tr_cond_true rfl ?_
              refine tr_seq ?_
              refine tr_reg ?_
              refine trO_asg rfl rfl ?_
              refine trO_nil ?_
              refine trX_seq ?_
              refine tr_ret ?_
              refine trX_cut_ret ?_
              refine trX_bcut_ret ?_
              refine trX_loop_ret ?_
              refine trX_blk_ret ?_
              refine trX_seq_ret ?_
              exact ret_ground (b := false) rfl (by first | (simp; done) | (simp; omega)) rfl rfl (by first | (simp; done) | (simp; omega)) rfl
            ·
              refine trO_fldA rfl rfl ?_
              refine trO_ld_obj (v := .int .i64 r19.Size) (z := .agg [.int .i64 r19.Off, .int .i64 r19.Size]) rfl rfl rfl rfl rfl rfl ?_
              refine trO_bin (v := .bool (decide (r19.Size < 1))) rfl rfl rfl rfl rfl ?_
              refine trO_pick_false rfl rfl rfl rfl ?_
              refine trO_mv rfl rfl ?_
              refine trO_split 49 (b := (decide (r19.Size < 1))) rfl ?_ ?_
              ·
                refine trO_off rfl ?_
                refine trO_off rfl ?_
                refine trO_off rfl ?_
                refine trO_off rfl ?_
                refine trO_off rfl ?_
                refine trO_off rfl ?_
                refine trO_off rfl ?_
                refine trO_off rfl ?_
                refine trO_off rfl ?_
                refine trO_pick_true rfl rfl rfl rfl ?_
                refine trO_nil_draw (by kernel_rfl) ?_
                refine trX_seq ?_
                refine tr_cond_true rfl ?_
                refine tr_seq ?_
                refine tr_reg ?_
                refine trO_asg rfl rfl ?_
                refine trO_nil ?_
                refine trX_seq ?_
                refine tr_ret ?_
                refine trX_cut_ret ?_
                refine trX_bcut_ret ?_
                refine trX_loop_ret ?_
                refine trX_blk_ret ?_
                refine trX_seq_ret ?_
                exact ret_ground (b := false) rfl (by first | (simp; done) | (simp; omega)) rfl rfl (by first | (simp; done) | (simp; omega)) rfl
              ·
                refine trO_fldA rfl rfl ?_
                refine trO_ld_obj (v := .int .i64 r19.Off) (z := .agg [.int .i64 r19.Off, .int .i64 r19.Size]) rfl rfl rfl rfl rfl rfl ?_
                refine trO_fldA rfl rfl ?_
                refine trO_ld_obj (v := .int .i64 r19.Size) (z := .agg [.int .i64 r19.Off, .int .i64 r19.Size]) rfl rfl rfl rfl rfl rfl ?_
                refine trO_bin (v := .int .i64 (IntKind.i64.wrap (r19.Off + r19.Size))) rfl rfl rfl rfl rfl ?_
                refine trO_fldA rfl rfl ?_
                refine trO_ld_obj (v := .sl (r3.1.Code.map eInstr)) (z := .agg [.int .i64 r3.1.Params, .sl (r3.1.Slots.map eSlot), .sl (r3.1.Code.map eInstr)]) rfl rfl rfl rfl rfl rfl ?_
                refine trO_len_sl rfl rfl ?_
                refine trO_bin (v := .bool (decide ((IntKind.i64.wrap (r19.Off + r19.Size)) > (r3.1.Code.length : Int)))) rfl rfl rfl rfl rfl ?_
                refine trO_pick_false rfl rfl rfl rfl ?_
                refine trO_nil_draw (by kernel_rfl) ?_
                refine trX_seq ?_
                refine tr_cond (c := (decide ((IntKind.i64.wrap (r19.Off + r19.Size)) > (r3.1.Code.length : Int)))) rfl ?_ ?_
                ·
                  refine tr_seq ?_
                  refine tr_reg ?_
                  refine trO_asg rfl rfl ?_
                  refine trO_nil ?_
                  refine trX_seq ?_
                  refine tr_ret ?_
                  refine trX_cut_ret ?_
                  refine trX_bcut_ret ?_
                  refine trX_loop_ret ?_
                  refine trX_blk_ret ?_
                  refine trX_seq_ret ?_
                  exact ret_ground (b := false) rfl (by first | (simp; done) | (simp; omega)) rfl rfl (by first | (simp; done) | (simp; omega)) rfl
                ·
                  refine tr_skip ?_
                  exact trX_cut (s := ()) (_, _, _) (has_exact ⟨rfl, rfl, rfl, rfl, rfl, rfl, rfl, rfl, rfl, rfl, rfl, rfl, rfl, rfl, rfl, rfl, rfl, rfl, rfl, rfl, rfl, trivial⟩ ⟨rfl, rfl, rfl, trivial⟩)
        ·
          rintro ⟨⟩ ⟨v3, v5, v8⟩ nn
          show Tr _ _ _ ⟨[(3, .optr 3 v3 0 0), (5, .osl 5 v5 0 r4.length), (6, .int .i64 at5), (7, .int .i64 i6), (8, .optr 8 v8 0 0), (39, .optr 8 v8 0 0), (40, .int .i64 r19.Off), (41, .int .i64 at5), (42, .bool (r19.Off != at5)), (45, .optr 8 v8 0 1), (46, .int .i64 r19.Size), (47, .bool (decide (r19.Size < 1))), (50, .optr 8 v8 0 0), (51, .int .i64 r19.Off), (52, .optr 8 v8 0 1), (53, .int .i64 r19.Size), (54, .int .i64 (IntKind.i64.wrap (r19.Off + r19.Size))), (55, .optr 3 v3 0 2), (56, .sl (r3.1.Code.map eInstr)), (57, .int .i64 (r3.1.Code.length : Int)), (58, .bool (decide ((IntKind.i64.wrap (r19.Off + r19.Size)) > (r3.1.Code.length : Int))))], [(3, some (v3, ⟨false, true, 3, 27, [.agg [.int .i64 r3.1.Params, .sl (r3.1.Slots.map eSlot), .sl (r3.1.Code.map eInstr)]]⟩)), (5, some (v5, ⟨false, false, 1, 3, r4.map eI64⟩)), (8, some (v8, ⟨false, true, 2, 43, [.agg [.int .i64 r19.Off, .int .i64 r19.Size]]⟩))], _⟩ (law13_FlowBlocksDivideTheCode_j3 r19 r3 i6 at5)
          unfold law13_FlowBlocksDivideTheCode_j3
          refine tr_seq ?_
          refine tr_seq ?_
          refine tr_reg ?_
          refine trO_fldA rfl rfl ?_
          refine trO_ld_obj (v := .int .i64 r19.Off) (z := .agg [.int .i64 r19.Off, .int .i64 r19.Size]) rfl rfl rfl rfl rfl rfl ?_
          refine trO_asg rfl rfl ?_
          refine trO_nil ?_
          refine trX_seq ?_
          refine tr_block ?_
          refine tr_loop (E := fun (s : Int) (g : Nat × Nat × Nat) => [(3, .optr 3 g.1 0 0), (5, .osl 5 g.2.1 0 r4.length), (6, .int .i64 at5), (7, .int .i64 i6), (8, .optr 8 g.2.2 0 0), (9, .int .i64 s), (39, .optr 8 g.2.2 0 0), (40, .int .i64 r19.Off), (41, .int .i64 at5), (42, .bool (r19.Off != at5)), (45, .optr 8 g.2.2 0 1), (46, .int .i64 r19.Size), (47, .bool (decide (r19.Size < 1))), (50, .optr 8 g.2.2 0 0), (51, .int .i64 r19.Off), (52, .optr 8 g.2.2 0 1), (53, .int .i64 r19.Size), (54, .int .i64 (IntKind.i64.wrap (r19.Off + r19.Size))), (55, .optr 3 g.1 0 2), (56, .sl (r3.1.Code.map eInstr)), (57, .int .i64 (r3.1.Code.length : Int)), (58, .bool (decide ((IntKind.i64.wrap (r19.Off + r19.Size)) > (r3.1.Code.length : Int))))]) (O := fun s g => [(3, some (g.1, ⟨false, true, 3, 27, [.agg [.int .i64 r3.1.Params, .sl (r3.1.Slots.map eSlot), .sl (r3.1.Code.map eInstr)]]⟩)), (5, some (g.2.1, ⟨false, false, 1, 3, r4.map eI64⟩)), (8, some (g.2.2, ⟨false, true, 2, 43, [.agg [.int .i64 r19.Off, .int .i64 r19.Size]]⟩))]) (body := fun s => law13_FlowBlocksDivideTheCode_b4 r19 r3 i6 at5 s) (s := r19.Off) (_, _, _) (has_exact ⟨rfl, rfl, rfl, rfl, rfl, rfl, rfl, rfl, rfl, rfl, rfl, rfl, rfl, rfl, rfl, rfl, rfl, rfl, rfl, rfl, rfl, rfl, trivial⟩ ⟨rfl, rfl, rfl, trivial⟩) ?_
          rintro k21 ⟨v3, v5, v8⟩ nn
          show Tr _ _ _ ⟨[(3, .optr 3 v3 0 0), (5, .osl 5 v5 0 r4.length), (6, .int .i64 at5), (7, .int .i64 i6), (8, .optr 8 v8 0 0), (9, .int .i64 k21), (39, .optr 8 v8 0 0), (40, .int .i64 r19.Off), (41, .int .i64 at5), (42, .bool (r19.Off != at5)), (45, .optr 8 v8 0 1), (46, .int .i64 r19.Size), (47, .bool (decide (r19.Size < 1))), (50, .optr 8 v8 0 0), (51, .int .i64 r19.Off), (52, .optr 8 v8 0 1), (53, .int .i64 r19.Size), (54, .int .i64 (IntKind.i64.wrap (r19.Off + r19.Size))), (55, .optr 3 v3 0 2), (56, .sl (r3.1.Code.map eInstr)), (57, .int .i64 (r3.1.Code.length : Int)), (58, .bool (decide ((IntKind.i64.wrap (r19.Off + r19.Size)) > (r3.1.Code.length : Int))))], [(3, some (v3, ⟨false, true, 3, 27, [.agg [.int .i64 r3.1.Params, .sl (r3.1.Slots.map eSlot), .sl (r3.1.Code.map eInstr)]]⟩)), (5, some (v5, ⟨false, false, 1, 3, r4.map eI64⟩)), (8, some (v8, ⟨false, true, 2, 43, [.agg [.int .i64 r19.Off, .int .i64 r19.Size]]⟩))], _⟩ (law13_FlowBlocksDivideTheCode_b4 r19 r3 i6 at5 k21)
          unfold law13_FlowBlocksDivideTheCode_b4
          refine tr_seq ?_
          refine tr_seq ?_
          refine tr_reg ?_
          refine trO_mv rfl rfl ?_
          refine trO_fldA rfl rfl ?_
          refine trO_ld_obj (v := .int .i64 r19.Off) (z := .agg [.int .i64 r19.Off, .int .i64 r19.Size]) rfl rfl rfl rfl rfl rfl ?_
          refine trO_fldA rfl rfl ?_
          refine trO_ld_obj (v := .int .i64 r19.Size) (z := .agg [.int .i64 r19.Off, .int .i64 r19.Size]) rfl rfl rfl rfl rfl rfl ?_
          refine trO_bin (v := .int .i64 (IntKind.i64.wrap (r19.Off + r19.Size))) rfl rfl rfl rfl rfl ?_
          refine trO_bin (v := .int .i64 (IntKind.i64.wrap ((IntKind.i64.wrap (r19.Off + r19.Size)) - 1))) rfl rfl rfl rfl rfl ?_
          refine trO_bin (v := .bool (decide (k21 < (IntKind.i64.wrap ((IntKind.i64.wrap (r19.Off + r19.Size)) - 1))))) rfl rfl rfl rfl rfl ?_
          refine trO_nil ?_
          refine trX_seq ?_
          refine tr_cond (c := (decide (k21 < (IntKind.i64.wrap ((IntKind.i64.wrap (r19.Off + r19.Size)) - 1))))) rfl ?_ ?_
          ·
            refine tr_skip ?_
            refine trX_seq ?_
            refine tr_seq ?_
            refine tr_block ?_
            refine tr_seq ?_
            refine tr_reg ?_
            refine trO_ld_obj (v := .agg [.int .i64 r3.1.Params, .sl (r3.1.Slots.map eSlot), .sl (r3.1.Code.map eInstr)]) (z := .agg [.int .i64 r3.1.Params, .sl (r3.1.Slots.map eSlot), .sl (r3.1.Code.map eInstr)]) rfl rfl rfl rfl rfl rfl ?_
            refine trO_mv rfl rfl ?_
            refine trO_bind fun r22 hr22 => ?_
            refine trO_call_row (l := r22) (en := eI64) (r3.1, k21) rfl rfl rfl flow_Next_de rfl rfl (by simp) rfl hr22 rfl ?_
            refine trO_mv rfl rfl ?_
            refine trO_bin (v := .int .i64 (IntKind.i64.wrap (k21 + 1))) rfl rfl rfl rfl rfl ?_
            refine trO_bldS ([IntKind.i64.wrap (k21 + 1)] : List Int) eI64 rfl rfl rfl (by simp) rfl rfl rfl ?_
            refine trO_bind fun r23 hr23 => ?_
            refine trO_call_ground (r22, ([IntKind.i64.wrap (k21 + 1)] : List Int)) rfl rfl rfl ref04_Same_de rfl rfl (by simp) (by first | rfl | (simp only [take_drop0_map, take_sub_map]; rfl) | simp [ref04_Same_enc]) hr23 rfl ?_
            refine trO_un (w := .bool (!r23)) rfl rfl rfl rfl trivial ?_
            refine trO_mv rfl rfl ?_
            refine trO_split 80 (b := (!r23)) rfl ?_ ?_
            ·
              refine trO_off rfl ?_
              refine trO_off rfl ?_
              refine trO_off rfl ?_
              refine trO_off rfl ?_
              refine trO_off rfl ?_
              refine trO_pick_true rfl rfl rfl rfl ?_
              refine trO_nil_draw (by kernel_rfl) ?_
              refine trX_seq ?_
              refine tr_cond_true rfl ?_
              refine tr_seq ?_
              refine tr_reg ?_
              refine trO_asg rfl rfl ?_
              refine trO_nil ?_
              refine trX_seq ?_
              refine tr_ret ?_
              refine trX_blk_ret ?_
              refine trX_seq_ret ?_
              refine trX_loop_ret ?_
              refine trX_blk_ret ?_
              refine trX_seq_ret ?_
              refine trX_bcut_ret ?_
              refine trX_loop_ret ?_
              refine trX_blk_ret ?_
              refine trX_seq_ret ?_
              exact ret_ground (b := false) rfl (by first | (simp; done) | (simp; omega)) rfl rfl (by first | (simp; done) | (simp; omega)) rfl
            ·
              refine trO_ld_obj (v := .agg [.int .i64 r3.1.Params, .sl (r3.1.Slots.map eSlot), .sl (r3.1.Code.map eInstr)]) (z := .agg [.int .i64 r3.1.Params, .sl (r3.1.Slots.map eSlot), .sl (r3.1.Code.map eInstr)]) rfl rfl rfl rfl rfl rfl ?_
              refine trO_mv rfl rfl ?_
              refine trO_bind fun r24 hr24 => ?_
              refine trO_call_ground (r3.1, k21) rfl rfl rfl flow_Block_de rfl rfl (by simp) rfl hr24 rfl ?_
              refine trO_ld_obj (v := .agg [.int .i64 r19.Off, .int .i64 r19.Size]) (z := .agg [.int .i64 r19.Off, .int .i64 r19.Size]) rfl rfl rfl rfl rfl rfl ?_
              refine trO_eqA (p := ((r24.Off == r19.Off) && ((r24.Size == r19.Size) && true))) rfl rfl rfl rfl ⟨rfl, ⟨rfl, trivial⟩⟩ rfl ?_
              refine trO_pick_false rfl rfl rfl rfl ?_
              refine trO_nil_draw (by kernel_rfl) ?_
              refine trX_seq ?_
              refine tr_cond (c := (!((r24.Off == r19.Off) && ((r24.Size == r19.Size) && true)))) rfl ?_ ?_
              ·
                refine tr_seq ?_
                refine tr_reg ?_
                refine trO_asg rfl rfl ?_
                refine trO_nil ?_
                refine trX_seq ?_
                refine tr_ret ?_
                refine trX_blk_ret ?_
                refine trX_seq_ret ?_
                refine trX_loop_ret ?_
                refine trX_blk_ret ?_
                refine trX_seq_ret ?_
                refine trX_bcut_ret ?_
                refine trX_loop_ret ?_
                refine trX_blk_ret ?_
                refine trX_seq_ret ?_
                exact ret_ground (b := false) rfl (by first | (simp; done) | (simp; omega)) rfl rfl (by first | (simp; done) | (simp; omega)) rfl
              ·
                refine tr_skip ?_
                refine trX_blk_normal ?_
                refine trX_seq ?_
                refine tr_reg ?_
                refine trO_mv rfl rfl ?_
                refine trO_bin (v := .int .i64 (IntKind.i64.wrap (k21 + 1))) rfl rfl rfl rfl rfl ?_
                refine trO_asg rfl rfl ?_
                refine trO_nil ?_
                exact trX_loop (s := IntKind.i64.wrap (k21 + 1)) (_, _, _) (has_exact ⟨rfl, rfl, rfl, rfl, rfl, rfl, rfl, rfl, rfl, rfl, rfl, rfl, rfl, rfl, rfl, rfl, rfl, rfl, rfl, rfl, rfl, rfl, trivial⟩ ⟨rfl, rfl, rfl, trivial⟩)
          ·
            refine tr_exit ?_
            refine trX_seq_exit ?_
            refine trX_loop_exit ?_
            refine trX_blk_here ?_
            refine trX_seq ?_
            refine tr_reg ?_
            refine trO_mv rfl rfl ?_
            refine trO_fldA rfl rfl ?_
            refine trO_ld_obj (v := .int .i64 r19.Size) (z := .agg [.int .i64 r19.Off, .int .i64 r19.Size]) rfl rfl rfl rfl rfl rfl ?_
            refine trO_bin (v := .int .i64 (IntKind.i64.wrap (at5 + r19.Size))) rfl rfl rfl rfl rfl ?_
            refine trO_asg rfl rfl ?_
            refine trO_nil ?_
            exact trX_bcut_normal (s := (r19.Off, r19.Size, r19.Off, (r19.Off != at5), r19.Size, (decide (r19.Size < 1)), r19.Off, r19.Size, IntKind.i64.wrap (r19.Off + r19.Size), (decide ((IntKind.i64.wrap (r19.Off + r19.Size)) > (r3.1.Code.length : Int))), IntKind.i64.wrap (at5 + r19.Size))) (_, _, _) (has_exact ⟨rfl, rfl, rfl, rfl, rfl, rfl, rfl, rfl, rfl, rfl, rfl, rfl, rfl, rfl, rfl, rfl, rfl, rfl, rfl, rfl, trivial⟩ ⟨rfl, rfl, rfl, trivial⟩)
      ·
        rintro ⟨b7, b8, x9, x10, x11, x12, x13, x14, x15, x16, at17⟩ ⟨v3, v5, v8⟩ nn
        show Tr _ _ _ ⟨[(3, .optr 3 v3 0 0), (5, .osl 5 v5 0 r4.length), (6, .int .i64 at17), (7, .int .i64 i6), (39, .optr 8 v8 0 0), (40, .int .i64 x9), (41, .int .i64 at5), (42, .bool x10), (45, .optr 8 v8 0 1), (46, .int .i64 x11), (47, .bool x12), (50, .optr 8 v8 0 0), (51, .int .i64 x13), (52, .optr 8 v8 0 1), (53, .int .i64 x14), (54, .int .i64 x15), (55, .optr 3 v3 0 2), (56, .sl (r3.1.Code.map eInstr)), (57, .int .i64 (r3.1.Code.length : Int)), (58, .bool x16)], [(3, some (v3, ⟨false, true, 3, 27, [.agg [.int .i64 r3.1.Params, .sl (r3.1.Slots.map eSlot), .sl (r3.1.Code.map eInstr)]]⟩)), (5, some (v5, ⟨false, false, 1, 3, r4.map eI64⟩)), (8, some (v8, ⟨false, true, 2, 43, [.agg [.int .i64 b7, .int .i64 b8]]⟩))], _⟩ (law13_FlowBlocksDivideTheCode_j2 i6 b7 b8 x9 x10 x11 x12 x13 x14 x15 x16 at17)
        unfold law13_FlowBlocksDivideTheCode_j2
        refine tr_reg ?_
        refine trO_mv rfl rfl ?_
        refine trO_bin (v := .int .i64 (IntKind.i64.wrap (i6 + 1))) rfl rfl rfl rfl rfl ?_
        refine trO_asg rfl rfl ?_
        refine trO_nil ?_
        exact trX_loop (s := (at17, IntKind.i64.wrap (i6 + 1))) (_, _) (has_exact ⟨rfl, rfl, rfl, rfl, trivial⟩ ⟨rfl, rfl, trivial⟩)
    ·
      refine tr_exit ?_
      refine trX_seq_exit ?_
      refine trX_loop_exit ?_
      refine trX_blk_here ?_
      refine trX_seq ?_
      refine tr_seq ?_
      refine tr_reg ?_
      refine trO_mv rfl rfl ?_
      refine trO_fldA rfl rfl ?_
      refine trO_ld_obj (v := .sl (r3.1.Code.map eInstr)) (z := .agg [.int .i64 r3.1.Params, .sl (r3.1.Slots.map eSlot), .sl (r3.1.Code.map eInstr)]) rfl rfl rfl rfl rfl rfl ?_
      refine trO_len_sl rfl rfl ?_
      refine trO_bin (v := .bool (at5 == (r3.1.Code.length : Int))) rfl rfl rfl rfl rfl ?_
      refine trO_asg rfl rfl ?_
      refine trO_nil ?_
      refine trX_seq ?_
      refine tr_ret ?_
      exact ret_ground (b := (at5 == (r3.1.Code.length : Int))) rfl (by first | (simp; done) | (simp; omega)) rfl rfl (by first | (simp; done) | (simp; omega)) rfl

end Go.Proofs.Ytlphpepmbcbmiaa
